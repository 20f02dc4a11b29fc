/- TopAsks: part 43: TopAsk. -/
import Derived.Test.YtclgigmgbebhgaaGreatDoorA40
import Derived.Test.YtclgigmgbebhgaaGreatDoorA41
import Derived.Test.YtclgigmgbebhgaaGreatDoorA42
set_option linter.unusedVariables false
set_option linter.unusedSimpArgs false
set_option maxRecDepth 100000
set_option maxHeartbeats 16000000
namespace Go.Proofs.YtclgigmgbebhgaaGreatDoor
open Tryz
open Go Go.Proofs Go.RowKit
@[go_sem] abbrev oF:Oper:=⟨some 28,.move (.tmp 0),22,"top15.go:32",#[],none⟩
@[go_sem] abbrev oD:Oper:=⟨some 29,.move (.tmp 9),3,"top15.go:32",#[],none⟩
@[go_sem] abbrev oC:Oper:=⟨some 30,.indexAddr 22 (.tmp 28) (.tmp 29),0,"top15.go:32",#[⟨0,.data⟩,⟨1,.data⟩],none⟩
@[go_sem] abbrev oA:Oper:=⟨some 31,.load 27 (.tmp 30),27,"top15.go:32",#[⟨2,.data⟩],none⟩
@[go_sem] abbrev oz:Oper:=⟨some 32,.call {callee:=.value (.func 6),args:=#[.tmp 31],argTypes:=#[27]},4,"top15.go:32",#[⟨3,.data⟩],none⟩
@[go_sem] abbrev oy:Oper:=⟨some 33,.unOp .not 4 (.tmp 32),4,"top15.go:32",#[⟨4,.data⟩],none⟩
@[go_sem] abbrev ox:Oper:=⟨some 34,.move (.tmp 33),4,"top15.go:32",#[⟨5,.data⟩,⟨4,.chain⟩],none⟩
@[go_sem] abbrev ou:Oper:=⟨some 35,.move (.tmp 0),22,"top15.go:32",#[⟨6,.guard⟩],some (6,false)⟩
@[go_sem] abbrev ot:Oper:=⟨some 36,.move (.tmp 9),3,"top15.go:32",#[⟨6,.guard⟩],some (6,false)⟩
@[go_sem] abbrev oq:Oper:=⟨some 37,.indexAddr 22 (.tmp 35) (.tmp 36),0,"top15.go:32",#[⟨7,.data⟩,⟨8,.data⟩,⟨6,.guard⟩],some (6,false)⟩
@[go_sem] abbrev Ag:Oper:=⟨some 38,.fieldAddr 27 (.tmp 37) 1,0,"top15.go:32",#[⟨9,.data⟩,⟨6,.guard⟩],some (6,false)⟩
@[go_sem] abbrev Af:Oper:=⟨some 39,.load 3 (.tmp 38),3,"top15.go:32",#[⟨10,.data⟩,⟨6,.guard⟩],some (6,false)⟩
@[go_sem] abbrev Ae:Oper:=⟨some 40,.binOp .eql 3 (.tmp 39) (.const (.int .i64 7)) 3,4,"top15.go:32",#[⟨11,.data⟩,⟨6,.guard⟩],some (6,false)⟩
@[go_sem] abbrev Ad:Oper:=⟨some 41,.move (.tmp 40),4,"top15.go:32",#[⟨12,.data⟩,⟨6,.chain⟩,⟨6,.guard⟩],some (6,false)⟩
@[go_sem] abbrev Ac:Oper:=⟨some 42,.move (.tmp 0),22,"top15.go:32",#[⟨13,.guard⟩],some (13,true)⟩
@[go_sem] abbrev Ab:Oper:=⟨some 43,.move (.tmp 9),3,"top15.go:32",#[⟨13,.guard⟩],some (13,true)⟩
@[go_sem] abbrev Aa:Oper:=⟨some 44,.indexAddr 22 (.tmp 42) (.tmp 43),0,"top15.go:32",#[⟨14,.data⟩,⟨15,.data⟩,⟨13,.guard⟩],some (13,true)⟩
@[go_sem] abbrev zZ:Oper:=⟨some 45,.fieldAddr 27 (.tmp 44) 3,0,"top15.go:32",#[⟨16,.data⟩,⟨13,.guard⟩],some (13,true)⟩
@[go_sem] abbrev zY:Oper:=⟨some 46,.load 23 (.tmp 45),23,"top15.go:32",#[⟨17,.data⟩,⟨13,.guard⟩],some (13,true)⟩
@[go_sem] abbrev zX:Oper:=⟨some 47,.move (.tmp 0),22,"top15.go:32",#[⟨13,.guard⟩],some (13,true)⟩
@[go_sem] abbrev zW:Oper:=⟨some 48,.move (.tmp 9),3,"top15.go:32",#[⟨13,.guard⟩],some (13,true)⟩
@[go_sem] abbrev zV:Oper:=⟨some 49,.indexAddr 22 (.tmp 47) (.tmp 48),0,"top15.go:32",#[⟨19,.data⟩,⟨20,.data⟩,⟨13,.guard⟩],some (13,true)⟩
@[go_sem] abbrev zU:Oper:=⟨some 50,.fieldAddr 27 (.tmp 49) 2,0,"top15.go:32",#[⟨21,.data⟩,⟨13,.guard⟩],some (13,true)⟩
@[go_sem] abbrev zT:Oper:=⟨some 51,.load 23 (.tmp 50),23,"top15.go:32",#[⟨22,.data⟩,⟨13,.guard⟩],some (13,true)⟩
@[go_sem] abbrev zS:Oper:=⟨some 52,.binOp .or 23 (.tmp 46) (.tmp 51) 23,23,"top15.go:32",#[⟨18,.data⟩,⟨23,.data⟩,⟨13,.guard⟩],some (13,true)⟩
@[go_sem] abbrev zR:Oper:=⟨some 53,.move (.tmp 0),22,"top15.go:32",#[⟨13,.guard⟩],some (13,true)⟩
@[go_sem] abbrev zQ:Oper:=⟨some 54,.move (.tmp 9),3,"top15.go:32",#[⟨13,.guard⟩],some (13,true)⟩
@[go_sem] abbrev zP:Oper:=⟨some 55,.indexAddr 22 (.tmp 53) (.tmp 54),0,"top15.go:32",#[⟨25,.data⟩,⟨26,.data⟩,⟨13,.guard⟩],some (13,true)⟩
@[go_sem] abbrev zO:Oper:=⟨some 56,.fieldAddr 27 (.tmp 55) 2,0,"top15.go:32",#[⟨27,.data⟩,⟨13,.guard⟩],some (13,true)⟩
@[go_sem] abbrev zN:Oper:=⟨some 57,.load 23 (.tmp 56),23,"top15.go:32",#[⟨28,.data⟩,⟨13,.guard⟩],some (13,true)⟩
@[go_sem] abbrev zM:Oper:=⟨some 58,.binOp .neq 23 (.tmp 52) (.tmp 57) 23,4,"top15.go:32",#[⟨24,.data⟩,⟨29,.data⟩,⟨13,.guard⟩],some (13,true)⟩
@[go_sem] abbrev zL:Oper:=⟨some 59,.pick (.tmp 41) (.tmp 58) (.const (.bool false)),4,"top15.go:32",#[⟨13,.data⟩,⟨30,.data⟩,⟨6,.guard⟩],some (6,false)⟩
@[go_sem] abbrev zK:Oper:=⟨some 60,.pick (.tmp 34) (.const (.bool true)) (.tmp 59),4,"top15.go:32",#[⟨6,.data⟩,⟨31,.data⟩],none⟩
@[go_sem] abbrev oo:Oper:=⟨some 62,.move (.tmp 7),4,"top15.go:35",#[],none⟩
@[go_sem] abbrev om:Oper:=⟨some 63,.move (.tmp 62),4,"top15.go:35",#[⟨0,.data⟩],none⟩
@[go_sem] abbrev oh:Oper:=⟨some 64,.move (.tmp 0),22,"top15.go:35",#[⟨1,.guard⟩],some (1,true)⟩
@[go_sem] abbrev og:Oper:=⟨some 65,.move (.tmp 9),3,"top15.go:35",#[⟨1,.guard⟩],some (1,true)⟩
@[go_sem] abbrev od:Oper:=⟨some 66,.indexAddr 22 (.tmp 64) (.tmp 65),0,"top15.go:35",#[⟨2,.data⟩,⟨3,.data⟩,⟨1,.guard⟩],some (1,true)⟩
@[go_sem] abbrev nZ:Oper:=⟨some 67,.load 27 (.tmp 66),27,"top15.go:35",#[⟨4,.data⟩,⟨1,.guard⟩],some (1,true)⟩
@[go_sem] abbrev nY:Oper:=⟨some 68,.move (.tmp 8),3,"top15.go:35",#[⟨1,.guard⟩],some (1,true)⟩
@[go_sem] abbrev nX:Oper:=⟨some 69,.move (.tmp 0),22,"top15.go:35",#[⟨1,.guard⟩],some (1,true)⟩
@[go_sem] abbrev nW:Oper:=⟨some 70,.move (.tmp 9),3,"top15.go:35",#[⟨1,.guard⟩],some (1,true)⟩
@[go_sem] abbrev nV:Oper:=⟨some 71,.indexAddr 22 (.tmp 69) (.tmp 70),0,"top15.go:35",#[⟨7,.data⟩,⟨8,.data⟩,⟨1,.guard⟩],some (1,true)⟩
@[go_sem] abbrev nU:Oper:=⟨some 72,.fieldAddr 27 (.tmp 71) 0,0,"top15.go:35",#[⟨9,.data⟩,⟨1,.guard⟩],some (1,true)⟩
@[go_sem] abbrev nS:Oper:=⟨some 73,.load 3 (.tmp 72),3,"top15.go:35",#[⟨10,.data⟩,⟨1,.guard⟩],some (1,true)⟩
@[go_sem] abbrev nR:Oper:=⟨some 74,.indexAddr 24 (.tmp 5) (.tmp 73),0,"top15.go:35",#[⟨11,.data⟩,⟨1,.guard⟩],some (1,true)⟩
@[go_sem] abbrev nQ:Oper:=⟨some 75,.load 23 (.tmp 74),23,"top15.go:35",#[⟨12,.data⟩,⟨1,.guard⟩],some (1,true)⟩
@[go_sem] abbrev nP:Oper:=⟨some 76,.call {callee:=.value (.func 9),args:=#[.tmp 68,.tmp 75],argTypes:=#[3,23]},23,"top15.go:35",#[⟨6,.data⟩,⟨13,.data⟩,⟨1,.chain⟩,⟨1,.guard⟩],some (1,true)⟩
@[go_sem] abbrev nN:Oper:=⟨some 77,.call {callee:=.value (.func 8),args:=#[.tmp 67,.tmp 76],argTypes:=#[27,23]},4,"top15.go:35",#[⟨5,.data⟩,⟨14,.data⟩,⟨14,.chain⟩,⟨1,.guard⟩],some (1,true)⟩
@[go_sem] abbrev nM:Oper:=⟨some 78,.pick (.tmp 63) (.tmp 77) (.const (.bool false)),4,"top15.go:35",#[⟨1,.data⟩,⟨15,.data⟩],none⟩
@[go_sem] abbrev nL:Oper:=⟨some 7,.assign (.tmp 78),4,"top15.go:35",#[⟨16,.data⟩,⟨15,.chain⟩,⟨0,.phase⟩,⟨1,.phase⟩,⟨2,.phase⟩,⟨3,.phase⟩,⟨4,.phase⟩,⟨5,.phase⟩,⟨6,.phase⟩,⟨7,.phase⟩,⟨8,.phase⟩,⟨9,.phase⟩,⟨10,.phase⟩,⟨11,.phase⟩,⟨12,.phase⟩,⟨13,.phase⟩,⟨14,.phase⟩,⟨15,.phase⟩,⟨16,.phase⟩],none⟩
theorem uB{N M:Nat}{W:World}{ad:Option Addr}{bs:List Nat}(h:X7 N W ad bs)(hN:N<=M):X7 M W ad bs:=λi x hx=>by
 obtain⟨g,off,e,hl,A⟩:=h i x hx;exact⟨g,off,e,acf hl hN,A⟩
theorem am7{N K a:Nat}{ua:Option Addr}{uc:Nat}{cs:List ZJ.Y4}{x0 x1 x2 x3 x4 x5:Nat}(hK:cs.length=K)(w:World)(hN:N<=w.heap.size)(hC:ZJ.Up N w ua cs)(hn:∀c∈cs,ZJ.NY c)(ha:a<256)(h0:x0<YO)(h1:x1<YO)(h2:x2<YO)(h3:x3<YO)(h4:x4<YO)(h5:x5<YO)(hp:Zj.WV w):
 Calls prog 3 #[.slice ua K uc,.int .u8 a,.agg #[.int .u64 x0,.int .u64 x1,.int .u64 x2,.int .u64 x3,.int .u64 x4,.int .u64 x5]] w λe w'=>e=.returned (.bool true)/\Below w.heap.size w w':=by
 have HK:=aT hK;have HC:=aT hC;have HNn:=aT hn;have HP:=aT hp;have T:Hid (∀x∈[x0,x1,x2,x3,x4,x5],x<YO):=λx hm=>by simp only[abf,akf,auf] at hm;rcases hm with rfl|rfl|rfl|rfl|rfl|rfl<;>assumption
 have CM:=aT ((aG w.heap.size w).alloc (aP _) (.cells #[.int .u64 x0,.int .u64 x1,.int .u64 x2,.int .u64 x3,.int .u64 x4,.int .u64 x5] 24));have HX:=aT (Z8.new w 24 #[.int .u64 x0,.int .u64 x1,.int .u64 x2,.int .u64 x3,.int .u64 x4,.int .u64 x5]);have iwa:IntKind.i64.wrap (a:Int)=(a:Int):=aJ _ jO;clear hK hC hn hp h0 h1 h2 h3 h4 h5;go_enter func3,ntmps3;go_upto_region 1 with fail;generalize w.alloc (.cells #[.int .u64 x0,.int .u64 x1,.int .u64 x2,.int .u64 x3,.int .u64 x4,.int .u64 x5] 24)=w1 at*;by_cases h6:6<K
 ·have hz:(6:Int)<(K:Int):=by omega
  go_wp2_with fail;go_ret;exact⟨rfl,CM.out⟩
 have hz:¬(6:Int)<(K:Int):=jO;go_upto_region 6 with fail;obtain⟨k,hk,hk5⟩:∃k:Nat,(a:Int)%5=(k:Int)/\k<5:=⟨a%5,jO,jO⟩;rw[hk];clear hk iwa;have am8:K<=6:=jO;clear h6 hz ha;have eI:w.heap.size<w1.heap.size:=HX.out.lt;have HG:Hid (∀A:Nat,A<=5->∃xv:Nat,[x0,x1,x2,x3,x4,x5][A]? =some xv/\xv<YO/\∀W,Below w1.heap.size w1 W->W.cell? ⟨w.heap.size,A,none⟩=some (.int .u64 xv)):=λA hA=>by
  rcases (show A=0\/A=1\/A=2\/A=3\/A=4\/A=5 from jO) with rfl|rfl|rfl|rfl|rfl|rfl;·exact⟨x0,rfl,T.out _ jS,λW C=>(HX.out.below C eI).cell 0⟩
  ·exact⟨x1,rfl,T.out _ jS,λW C=>(HX.out.below C eI).cell 1⟩
  ·exact⟨x2,rfl,T.out _ jS,λW C=>(HX.out.below C eI).cell 2⟩
  ·exact⟨x3,rfl,T.out _ jS,λW C=>(HX.out.below C eI).cell 3⟩
  ·exact⟨x4,rfl,T.out _ jS,λW C=>(HX.out.below C eI).cell 4⟩
  ·exact⟨x5,rfl,T.out _ jS,λW C=>(HX.out.below C eI).cell 5⟩
 go_loopg [7,9] (K+1) (λgg hv iv wr=>∃i:Nat,i<=K/\K-i<gg/\iv=.int .i64 (i:Int)/\hv=.bool ((cs.take i).all (Ah k [x0,x1,x2,x3,x4,x5]))/\Hid (∀c∈cs.take i,Sm c=true)/\Hid (Below w1.heap.size w1 wr));case atStart=>exact⟨0,abb _,jO,rfl,rfl,(show ∀c∈cs.take 0,Sm c=true from λc h=>by simp at h),aG _ _⟩
 case round=>
  obtain⟨i,hiK,VM,rfl,rfl,HT,HB⟩:=hrel;have Cq:=jZ i;by_cases hlt:i<K
  ·have Zc:(i:Int)<(K:Int):=by omega
   have JS:=jW i;obtain⟨⟨A,O,I,V⟩,hc⟩:∃c,cs[i]? =some c:=⟨_,aM (by rw[HK.out];exact hlt)⟩;obtain⟨D,off,rfl,I7,c0,c1,c2,c3⟩:=HC.out i _ hc;dsimp only at c0 c1 c2 c3;have hg1:D<w1.heap.size:=acf (acf I7 hN) CM.out.size;have Z:Hid (∀W:World,Below wr.heap.size wr W->W.cell? ⟨D,off+i*4,none⟩=some (.int .i64 A)/\W.cell? ⟨D,off+i*4+1,none⟩=some (.int .i64 O)/\W.cell? ⟨D,off+i*4+2,none⟩=some (.int .u64 I)/\W.cell? ⟨D,off+i*4+3,none⟩=some (.int .u64 V)):=λW C=>by
    have ce:∀j v,w.cell? ⟨D,j,none⟩=some v->W.cell? ⟨D,j,none⟩=some v:=λj v hv=>(C.cell (p:=⟨D,j,none⟩) (acf hg1 HB.out.size)).trans ((HB.out.cell (p:=⟨D,j,none⟩) hg1).trans ((CM.out.cell (p:=⟨D,j,none⟩) (acf I7 hN)).trans hv))
    exact⟨ce _ _ c0,ce _ _ c1,ce _ _ c2,ce _ _ c3⟩
   have HRa:=aT (λW=>Gh A O I V W);have HAw:=aT Ii;have hm:=ag hc;have HCn:=aT (HNn.out _ hm);have Ek:Hid (cs.take (i+1)=cs.take i++[⟨A,O,I,V⟩]):=by show _=_;rw[afb,hc];rfl
   have kd:Below wr.heap.size wr wr.drew:=(aG _ wr).drew;clear c0 c1 c2 c3 hc hm;go_upto_region 8 with fail;go_cut [60] (λs wx=>∃b:Bool,s=.bool b/\Hid (b=false->Sm ⟨A,O,I,V⟩=true)/\Hid (Below wr.heap.size wr wx))
   case first=>
    cases hr:V3 A O I with
    |false=>
     rw[hr] at HRa;clear hr;refine amd ?_;refine agc (S:=λw'=>(w'.cell? ⟨D,off+i*4,none⟩=some (.int .i64 A)/\w'.cell? ⟨D,off+i*4+1,none⟩=some (.int .i64 O)/\w'.cell? ⟨D,off+i*4+2,none⟩=some (.int .u64 I)/\w'.cell? ⟨D,off+i*4+3,none⟩=some (.int .u64 V))/\Below wr.heap.size wr w') jK (⟨Z.out _ kd,kd⟩) (λhHeld=> ?_);refine jT 0 oF ?_;try simp only[Act.put,aS,aQ,aR]
     refine jT 1 oD ?_;try simp only[Act.put,aS,aQ,aR]
     refine jT 2 oC ?_;try simp only[Act.put,aS,aQ,aR]
     refine jT 3 oA ?_;try simp only[Act.put,aS,aQ,aR]
     refine aag (rs:=[4]) jK jS ?_;refine ae (o:=oz) rfl (λK' hK=> ?_) aad;go_simp;refine(HRa.out _).mono ?_;rintro e w7 ⟨rfl,Uw⟩;have J:Below wr.heap.size wr w7:=hHeld.2.trans (Uw.mono hHeld.2.size);refine hK.out _ _ (⟨Z.out _ J,J⟩) (λhHeld=> ?_);clear hK K';try simp only[Act.put,aS,aQ,aR]
     refine jT 5 oy ?_;try simp only[Act.put,aS,aQ,aR]
     refine jT 6 ox ?_;try simp only[Act.put,aS,aQ,aR]
     refine jU 7 ou ?_;try simp only[Act.put,aS,aQ,aR]
     refine jU 8 ot ?_;try simp only[Act.put,aS,aQ,aR]
     refine jU 9 oq ?_;try simp only[Act.put,aS,aQ,aR]
     refine jU 10 Ag ?_;try simp only[Act.put,aS,aQ,aR]
     refine jU 11 Af ?_;try simp only[Act.put,aS,aQ,aR]
     refine jU 12 Ae ?_;try simp only[Act.put,aS,aQ,aR]
     refine jU 13 Ad ?_;try simp only[Act.put,aS,aQ,aR]
     refine jU 14 Ac ?_;try simp only[Act.put,aS,aQ,aR]
     refine jU 15 Ab ?_;try simp only[Act.put,aS,aQ,aR]
     refine jU 16 Aa ?_;try simp only[Act.put,aS,aQ,aR]
     refine jU 17 zZ ?_;try simp only[Act.put,aS,aQ,aR]
     refine jU 18 zY ?_;try simp only[Act.put,aS,aQ,aR]
     refine jU 19 zX ?_;try simp only[Act.put,aS,aQ,aR]
     refine jU 20 zW ?_;try simp only[Act.put,aS,aQ,aR]
     refine jU 21 zV ?_;try simp only[Act.put,aS,aQ,aR]
     refine jU 22 zU ?_;try simp only[Act.put,aS,aQ,aR]
     refine jU 23 zT ?_;try simp only[Act.put,aS,aQ,aR]
     refine jU 24 zS ?_;try simp only[Act.put,aS,aQ,aR]
     refine jU 25 zR ?_;try simp only[Act.put,aS,aQ,aR]
     refine jU 26 zQ ?_;try simp only[Act.put,aS,aQ,aR]
     refine jU 27 zP ?_;try simp only[Act.put,aS,aQ,aR]
     refine jU 28 zO ?_;try simp only[Act.put,aS,aQ,aR]
     refine jU 29 zN ?_;try simp only[Act.put,aS,aQ,aR]
     refine jU 30 zM ?_;try simp only[Act.put,aS,aQ,aR]
     refine jU 31 zL ?_;try simp only[Act.put,aS,aQ,aR]
     refine jT 32 zK ?_;try simp only[Act.put,aS,aQ,aR]
     refine akc jK ?_ _;refine ame ?_;go_wp2_with fail;go_meet;exact⟨_,rfl,(show Hid _ from λe=>by cases e),hHeld.2⟩
    |true=>
     rw[hr] at HRa;by_cases h7:O=7
     ·subst h7;obtain⟨qb,hqb⟩:=jX ((bits .or .u64 V I != I))
      have U:Hid (qb=false->Sm ⟨A,7,I,V⟩=true):=λe=>by rw[e] at hqb;show(V3 A 7 I && !(decide ((7:Int)=7)&&decide (bits .or .u64 V I≠I)))=true;rw[hr,show bits .or .u64 V I=I by simpa using hqb];simp
      clear hr;refine amd ?_;refine agc (S:=λw'=>(w'.cell? ⟨D,off+i*4,none⟩=some (.int .i64 A)/\w'.cell? ⟨D,off+i*4+1,none⟩=some (.int .i64 7)/\w'.cell? ⟨D,off+i*4+2,none⟩=some (.int .u64 I)/\w'.cell? ⟨D,off+i*4+3,none⟩=some (.int .u64 V))/\Below wr.heap.size wr w') jK (⟨Z.out _ kd,kd⟩) (λhHeld=> ?_);refine jT 0 oF ?_;try simp only[Act.put,aS,aQ,aR]
      refine jT 1 oD ?_;try simp only[Act.put,aS,aQ,aR]
      refine jT 2 oC ?_;try simp only[Act.put,aS,aQ,aR]
      refine jT 3 oA ?_;try simp only[Act.put,aS,aQ,aR]
      refine aag (rs:=[4]) jK jS ?_;refine ae (o:=oz) rfl (λK' hK=> ?_) aad;go_simp;refine(HRa.out _).mono ?_;rintro e w7 ⟨rfl,Uw⟩;have J:Below wr.heap.size wr w7:=hHeld.2.trans (Uw.mono hHeld.2.size);refine hK.out _ _ (⟨Z.out _ J,J⟩) (λhHeld=> ?_);clear hK K';try simp only[Act.put,aS,aQ,aR]
      refine jT 5 oy ?_;try simp only[Act.put,aS,aQ,aR]
      refine jT 6 ox ?_;try simp only[Act.put,aS,aQ,aR]
      refine jT 7 ou ?_;try simp only[Act.put,aS,aQ,aR]
      refine jT 8 ot ?_;try simp only[Act.put,aS,aQ,aR]
      refine jT 9 oq ?_;try simp only[Act.put,aS,aQ,aR]
      refine jT 10 Ag ?_;try simp only[Act.put,aS,aQ,aR]
      refine jT 11 Af ?_;try simp only[Act.put,aS,aQ,aR]
      refine jT 12 Ae ?_;try simp only[Act.put,aS,aQ,aR]
      refine jT 13 Ad ?_;try simp only[Act.put,aS,aQ,aR]
      refine jT 14 Ac ?_;try simp only[Act.put,aS,aQ,aR]
      refine jT 15 Ab ?_;try simp only[Act.put,aS,aQ,aR]
      refine jT 16 Aa ?_;try simp only[Act.put,aS,aQ,aR]
      refine jT 17 zZ ?_;try simp only[Act.put,aS,aQ,aR]
      refine jT 18 zY ?_;try simp only[Act.put,aS,aQ,aR]
      refine jT 19 zX ?_;try simp only[Act.put,aS,aQ,aR]
      refine jT 20 zW ?_;try simp only[Act.put,aS,aQ,aR]
      refine jT 21 zV ?_;try simp only[Act.put,aS,aQ,aR]
      refine jT 22 zU ?_;try simp only[Act.put,aS,aQ,aR]
      refine jT 23 zT ?_;try simp only[Act.put,aS,aQ,aR]
      refine jT 24 zS ?_;try simp only[Act.put,aS,aQ,aR]
      refine jT 25 zR ?_;try simp only[Act.put,aS,aQ,aR]
      refine jT 26 zQ ?_;try simp only[Act.put,aS,aQ,aR]
      refine jT 27 zP ?_;try simp only[Act.put,aS,aQ,aR]
      refine jT 28 zO ?_;try simp only[Act.put,aS,aQ,aR]
      refine jT 29 zN ?_;try simp only[Act.put,aS,aQ,aR]
      refine jT 30 zM ?_;try simp only[Act.put,aS,aQ,aR]
      refine jT 31 zL ?_;try simp only[Act.put,aS,aQ,aR]
      refine jT 32 zK ?_;try simp only[Act.put,aS,aQ,aR]
      refine akc jK ?_ _;refine ame ?_;go_wp2_with fail;go_meet;exact⟨_,rfl,U,hHeld.2⟩
     ·have h7b:(O == 7)=false:=by rw[af];exact h7
      have U:Hid (Sm ⟨A,O,I,V⟩=true):=by show(V3 A O I && !(decide (O=7)&&decide (bits .or .u64 V I≠I)))=true;rw[hr,aee h7];rfl
      clear hr;refine amd ?_;refine agc (S:=λw'=>(w'.cell? ⟨D,off+i*4,none⟩=some (.int .i64 A)/\w'.cell? ⟨D,off+i*4+1,none⟩=some (.int .i64 O)/\w'.cell? ⟨D,off+i*4+2,none⟩=some (.int .u64 I)/\w'.cell? ⟨D,off+i*4+3,none⟩=some (.int .u64 V))/\Below wr.heap.size wr w') jK (⟨Z.out _ kd,kd⟩) (λhHeld=> ?_);refine jT 0 oF ?_;try simp only[Act.put,aS,aQ,aR]
      refine jT 1 oD ?_;try simp only[Act.put,aS,aQ,aR]
      refine jT 2 oC ?_;try simp only[Act.put,aS,aQ,aR]
      refine jT 3 oA ?_;try simp only[Act.put,aS,aQ,aR]
      refine aag (rs:=[4]) jK jS ?_;refine ae (o:=oz) rfl (λK' hK=> ?_) aad;go_simp;refine(HRa.out _).mono ?_;rintro e w7 ⟨rfl,Uw⟩;have J:Below wr.heap.size wr w7:=hHeld.2.trans (Uw.mono hHeld.2.size);refine hK.out _ _ (⟨Z.out _ J,J⟩) (λhHeld=> ?_);clear hK K';try simp only[Act.put,aS,aQ,aR]
      refine jT 5 oy ?_;try simp only[Act.put,aS,aQ,aR]
      refine jT 6 ox ?_;try simp only[Act.put,aS,aQ,aR]
      refine jT 7 ou ?_;try simp only[Act.put,aS,aQ,aR]
      refine jT 8 ot ?_;try simp only[Act.put,aS,aQ,aR]
      refine jT 9 oq ?_;try simp only[Act.put,aS,aQ,aR]
      refine jT 10 Ag ?_;try simp only[Act.put,aS,aQ,aR]
      refine jT 11 Af ?_;try simp only[Act.put,aS,aQ,aR]
      refine jT 12 Ae ?_;try simp only[Act.put,aS,aQ,aR]
      refine jT 13 Ad ?_;try simp only[Act.put,aS,aQ,aR]
      refine jU 14 Ac ?_;try simp only[Act.put,aS,aQ,aR]
      refine jU 15 Ab ?_;try simp only[Act.put,aS,aQ,aR]
      refine jU 16 Aa ?_;try simp only[Act.put,aS,aQ,aR]
      refine jU 17 zZ ?_;try simp only[Act.put,aS,aQ,aR]
      refine jU 18 zY ?_;try simp only[Act.put,aS,aQ,aR]
      refine jU 19 zX ?_;try simp only[Act.put,aS,aQ,aR]
      refine jU 20 zW ?_;try simp only[Act.put,aS,aQ,aR]
      refine jU 21 zV ?_;try simp only[Act.put,aS,aQ,aR]
      refine jU 22 zU ?_;try simp only[Act.put,aS,aQ,aR]
      refine jU 23 zT ?_;try simp only[Act.put,aS,aQ,aR]
      refine jU 24 zS ?_;try simp only[Act.put,aS,aQ,aR]
      refine jU 25 zR ?_;try simp only[Act.put,aS,aQ,aR]
      refine jU 26 zQ ?_;try simp only[Act.put,aS,aQ,aR]
      refine jU 27 zP ?_;try simp only[Act.put,aS,aQ,aR]
      refine jU 28 zO ?_;try simp only[Act.put,aS,aQ,aR]
      refine jU 29 zN ?_;try simp only[Act.put,aS,aQ,aR]
      refine jU 30 zM ?_;try simp only[Act.put,aS,aQ,aR]
      refine jT 31 zL ?_;try simp only[Act.put,aS,aQ,aR]
      refine jT 32 zK ?_;try simp only[Act.put,aS,aQ,aR]
      refine akc jK ?_ _;refine ame ?_;go_wp2_with fail;go_meet;exact⟨_,rfl,(show Hid _ from λ_=>U.out),hHeld.2⟩
   case rest=>
    obtain⟨b,rfl,U,HBc⟩:=hcut;generalize hwc:wc=w7 at*;clear hwc;cases b with
    |true=>
     have iz:=aT (CM.out.trans ((HB.out.trans (HBc.out.mono HB.out.size)).mono CM.out.size))
     go_wp2_with (go_at_call 7;refine(HAw.out _).mono ?_;rintro e w8 ⟨rfl,rfl⟩)
     go_ret;exact⟨rfl,iz.out⟩
    |false=>
    have hOk:=U.out rfl;have Ce:=ahf (Ri hOk);dsimp only at Ce;obtain⟨hcm,hcv⟩:=HCn.out;dsimp only at hcm hcv;have U:=aT hOk;clear hOk;obtain⟨A,rfl⟩:∃n:Nat,A=(n:Int):=⟨A.toNat,jO⟩;obtain⟨O,rfl⟩:∃n:Nat,O=(n:Int):=⟨O.toNat,jO⟩;obtain⟨I,rfl⟩:∃n:Nat,I=(n:Int):=⟨I.toNat,jO⟩;obtain⟨V,rfl⟩:∃n:Nat,V=(n:Int):=⟨V.toNat,jO⟩;have um:A<=5:=jO;have hA6:(A:Int)<6:=jO;have EP:=jZ A;have am9:I<YO:=by unfold YO;omega
    obtain⟨xv,hxg,mV,hxc⟩:=HG.out A um;have HAr:Hid (∀W,Calls prog 9 #[.int .i64 k,.int .u64 xv] W λe w'=>e=.returned (.int .u64 ((seen k xv:Nat):Int))/\w'=W):=λW=>AP k xv mV W
    have HHo:Hid (∀W,Calls prog 8 #[.agg #[.int .i64 A,.int .i64 O,.int .u64 I,.int .u64 V],.int .u64 ((seen k xv:Nat):Int)] W λe w'=>e=.returned (.bool (JP O I V (seen k xv)))/\Below W.heap.size W w'):=λW=>Gg A I V (seen k xv) jO am9 (azc (by unfold seen;split;exact Nat.mod_le _ _;exact aP _) mV) W
    have HX7:Hid (∀W:World,Below wr.heap.size wr W->W.cell? ⟨D,off+i*4,none⟩=some (.int .i64 A)/\W.cell? ⟨D,off+i*4+1,none⟩=some (.int .i64 O)/\W.cell? ⟨D,off+i*4+2,none⟩=some (.int .u64 I)/\W.cell? ⟨D,off+i*4+3,none⟩=some (.int .u64 V)/\W.cell? ⟨w.heap.size,A,none⟩=some (.int .u64 xv)):=λW C=>by obtain⟨e0,e1,e2,e3⟩:=Z.out W C;exact⟨e0,e1,e2,e3,hxc W (HB.out.trans (C.mono HB.out.size))⟩
    have HGe:Hid ([x0,x1,x2,x3,x4,x5].getD A 0=xv):=by show _=_;rw[aef,hxg];rfl
    have J:Below wr.heap.size wr w7:=HBc.out;clear hxg mV hxc hcm hcv am9 HBc Ce;have Un:Hid (∀c∈cs.take (i+1),Sm c=true):=λc hc=>by
     rw[Ek.out] at hc;rcases abe.1 hc with h|h;·exact HT.out c h
     ·simp only[aaa] at h;rw[h];exact U.out
    have an0:Hid ((cs.take (i+1)).all (Ah k [x0,x1,x2,x3,x4,x5])=((cs.take i).all (Ah k [x0,x1,x2,x3,x4,x5])&&JP O I V (seen k xv))):=by
     show _=_;rw[Ek.out,List.all_append]
     congr 1
     show(JP ((O:Int)).toNat ((I:Int)).toNat ((V:Int)).toNat (seen k ([x0,x1,x2,x3,x4,x5].getD ((A:Int)).toNat 0))&&true)=_;rw[Bool.and_true,atg,atg,atg,atg,HGe.out]
    generalize (cs.take i).all (Ah k [x0,x1,x2,x3,x4,x5])=bh at*;clear HT Ek U HRa HCn kd;go_upto_region 10 with fail;cases bh with
    |false=>
     refine amd ?_;refine agc (S:=λw'=>(w'.cell? ⟨D,off+i*4,none⟩=some (.int .i64 A)/\w'.cell? ⟨D,off+i*4+1,none⟩=some (.int .i64 O)/\w'.cell? ⟨D,off+i*4+2,none⟩=some (.int .u64 I)/\w'.cell? ⟨D,off+i*4+3,none⟩=some (.int .u64 V)/\w'.cell? ⟨w.heap.size,A,none⟩=some (.int .u64 xv))/\Below wr.heap.size wr w') jK (⟨HX7.out _ J.drew,J.drew⟩) (λhHeld=> ?_);refine jT 0 oo ?_;try simp only[Act.put,aS,aQ,aR]
     refine jT 1 om ?_;try simp only[Act.put,aS,aQ,aR]
     refine jU 2 oh ?_;try simp only[Act.put,aS,aQ,aR]
     refine jU 3 og ?_;try simp only[Act.put,aS,aQ,aR]
     refine jU 4 od ?_;try simp only[Act.put,aS,aQ,aR]
     refine jU 5 nZ ?_;try simp only[Act.put,aS,aQ,aR]
     refine jU 6 nY ?_;try simp only[Act.put,aS,aQ,aR]
     refine jU 7 nX ?_;try simp only[Act.put,aS,aQ,aR]
     refine jU 8 nW ?_;try simp only[Act.put,aS,aQ,aR]
     refine jU 9 nV ?_;try simp only[Act.put,aS,aQ,aR]
     refine jU 10 nU ?_;try simp only[Act.put,aS,aQ,aR]
     refine jU 11 nS ?_;try simp only[Act.put,aS,aQ,aR]
     refine jU 12 nR ?_;try simp only[Act.put,aS,aQ,aR]
     refine jU 13 nQ ?_;try simp only[Act.put,aS,aQ,aR]
     refine jU 14 nP ?_;try simp only[Act.put,aS,aQ,aR]
     refine jU 15 nN ?_;try simp only[Act.put,aS,aQ,aR]
     refine jT 16 nM ?_;try simp only[Act.put,aS,aQ,aR]
     refine jT 17 nL ?_;try simp only[Act.put,aS,aQ,aR]
     refine akc jK ?_ _;refine ame ?_;have X1:=aT (HB.out.trans (hHeld.2.mono HB.out.size));clear hHeld J HB Z HX7 HAr HHo;go_wp2_with fail;go_roundg (K-i);case measure=>omega
     case rel=>exact⟨i+1,jO,jO,by go_num,(by rw[an0.out];rfl),Un,X1⟩
    |true=>
     refine amd ?_;refine agc (S:=λw'=>(w'.cell? ⟨D,off+i*4,none⟩=some (.int .i64 A)/\w'.cell? ⟨D,off+i*4+1,none⟩=some (.int .i64 O)/\w'.cell? ⟨D,off+i*4+2,none⟩=some (.int .u64 I)/\w'.cell? ⟨D,off+i*4+3,none⟩=some (.int .u64 V)/\w'.cell? ⟨w.heap.size,A,none⟩=some (.int .u64 xv))/\Below wr.heap.size wr w') jK (⟨HX7.out _ J.drew,J.drew⟩) (λhHeld=> ?_);refine jT 0 oo ?_;try simp only[Act.put,aS,aQ,aR]
     refine jT 1 om ?_;try simp only[Act.put,aS,aQ,aR]
     refine jT 2 oh ?_;try simp only[Act.put,aS,aQ,aR]
     refine jT 3 og ?_;try simp only[Act.put,aS,aQ,aR]
     refine jT 4 od ?_;try simp only[Act.put,aS,aQ,aR]
     refine jT 5 nZ ?_;try simp only[Act.put,aS,aQ,aR]
     refine jT 6 nY ?_;try simp only[Act.put,aS,aQ,aR]
     refine jT 7 nX ?_;try simp only[Act.put,aS,aQ,aR]
     refine jT 8 nW ?_;try simp only[Act.put,aS,aQ,aR]
     refine jT 9 nV ?_;try simp only[Act.put,aS,aQ,aR]
     refine jT 10 nU ?_;try simp only[Act.put,aS,aQ,aR]
     refine jT 11 nS ?_;try simp only[Act.put,aS,aQ,aR]
     refine jT 12 nR ?_;try simp only[Act.put,aS,aQ,aR]
     refine jT 13 nQ ?_;try simp only[Act.put,aS,aQ,aR]
     refine aag (rs:=[14]) jK jS ?_;refine ae (o:=nP) rfl (λK' hK=> ?_) aad;go_simp;refine(HAr.out _).mono ?_;rintro e w8 ⟨rfl,rfl⟩;refine hK.out _ _ (hHeld) (λhHeld=> ?_);clear hK K';try simp only[Act.put,aS,aQ,aR]
     refine aag (rs:=[15]) jK jS ?_;refine ae (o:=nN) rfl (λK' hK=> ?_) aad;go_simp;refine(HHo.out _).mono ?_;rintro e w9 ⟨rfl,rS⟩;have hw9:Below wr.heap.size wr w9:=hHeld.2.trans (rS.mono hHeld.2.size);refine hK.out _ _ (⟨HX7.out _ hw9,hw9⟩) (λhHeld=> ?_);clear hK K';try simp only[Act.put,aS,aQ,aR]
     refine jT 16 nM ?_;try simp only[Act.put,aS,aQ,aR]
     refine jT 17 nL ?_;try simp only[Act.put,aS,aQ,aR]
     refine akc jK ?_ _;refine ame ?_;have X1:=aT (HB.out.trans (hHeld.2.mono HB.out.size));clear hHeld J hw9 rS HB Z HX7 HAr HHo;go_wp2_with fail;go_roundg (K-i);case measure=>omega
     case rel=>exact⟨i+1,jO,jO,by go_num,(by rw[an0.out];rfl),Un,X1⟩
  ·obtain rfl:i=K:=by omega
   have Zc:¬(i:Int)<(i:Int):=jO;have eH:cs.take i=cs:=abd (by rw[HK.out];exact aP _);rw[eH] at HT ⊢;clear eH VM Cq hlt HG;obtain⟨bh,hbh⟩:∃b,cs.all (Ah k [x0,x1,x2,x3,x4,x5])=b:=⟨_,rfl⟩;have HBh:=aT hbh;rw[hbh];clear hbh;obtain⟨S,hS⟩:=jX wr.heap.size;obtain⟨wA,hwA⟩:∃z,wr.alloc (.cells #[.string ⟨#[114,101,97,100]⟩,.int .i64 8,.int .i64 0,.slice ua i uc] TDr)=z:=⟨_,rfl⟩;obtain⟨wB,hwB⟩:∃z,wA.alloc (.cells #[.int .i64 1,.int .i64 0,.bool true,.slice (some ⟨S,0,none⟩) 1 1] TDp)=z:=⟨_,rfl⟩;obtain⟨Y,hwC⟩:∃z,wB.alloc (.cells #[.string ⟨#[114,101,97,100]⟩,.int .i64 0,.int .i64 0,.int .i64 3,.int .i64 63,.int .i64 63,.int .i64 0,.int .i64 0] 40)=z:=⟨_,rfl⟩;have sA:wA.heap.size=S+1:=by rw[<-hwA,ai,hS]
   have sB:wB.heap.size=S+1+1:=by rw[<-hwB,ai,sA]
   have sC:Y.heap.size=S+1+1+1:=by rw[<-hwC,ai,sB]
   have bC:Below wB.heap.size wB Y:=by rw[<-hwC];exact Yk wB _
   have bB:Below wA.heap.size wA Y:=by
    have:Below wA.heap.size wA wB:=by rw[<-hwB];exact Yk wA _
    exact this.trans (bC.mono this.size)
   have bA:Below wr.heap.size wr Y:=by
    have:Below wr.heap.size wr wA:=by rw[<-hwA];exact Yk wr _
    exact this.trans (bB.mono this.size)
   have B0:Z8 Y S TDr #[.string ⟨#[114,101,97,100]⟩,.int .i64 8,.int .i64 0,.slice ua i uc]:=by
    have h:Z8 wA S TDr #[.string ⟨#[114,101,97,100]⟩,.int .i64 8,.int .i64 0,.slice ua i uc]:=by rw[<-hwA,<-hS];exact Z8.new wr _ _
    exact h.below bB jO
   have B1:Z8 Y (S+1) TDp #[.int .i64 1,.int .i64 0,.bool true,.slice (some ⟨S,0,none⟩) 1 1]:=by
    have h:Z8 wB (S+1) TDp #[.int .i64 1,.int .i64 0,.bool true,.slice (some ⟨S,0,none⟩) 1 1]:=by rw[<-hwB,<-sA];exact Z8.new wA _ _
    exact h.below bC jO
   have B2:Z8 Y (S+1+1) 40 #[.string ⟨#[114,101,97,100]⟩,.int .i64 0,.int .i64 0,.int .i64 3,.int .i64 63,.int .i64 63,.int .i64 0,.int .i64 0]:=by rw[<-hwC,<-sB];exact Z8.new wB _ _
   have nK:Below w.heap.size w Y:=CM.out.trans ((HB.out.trans (bA.mono HB.out.size)).mono CM.out.size);have ac9:Below w1.heap.size w1 Y:=HB.out.trans (bA.mono HB.out.size);have HCI:Hid (ZJ.O0 Y.heap.size Y (.slice (some ⟨S,0,none⟩) 1 1) [⟨⟨#[114,101,97,100]⟩,8,0,cs⟩]):=⟨_,_,rfl,λj r hr=>by
    have hj:j=0:=by have:=(aq.1 hr).1;simpa using this
    subst hj;simp only[aL,aka] at hr;subst hr;refine⟨S,0,ua,uc,rfl,jO,B0.cell 0,B0.cell 1,B0.cell 2,?_,λq c hq=> ?_⟩;·have h:=B0.cell 3;rw[show cs.length=i from HK.out];exact h
    ·obtain⟨D,off,e,hl,h0,h1,h2,h3⟩:=(HC.out.below nK hN) q c hq;exact⟨D,off,e,acf hl (aO hN nK.size),h0,h1,h2,h3⟩⟩
   have an1:Hid (Z4.VS Y (.slice (some ⟨S+1+1,0,none⟩) 1 1) [UF]):=⟨_,_,rfl,.inr ⟨S+1+1,0,rfl,jO,λj hj q v hv=>by
    have gW:j=0:=by simpa using hj
    subst gW;have h:=B2.cell q;rw[show 0+0*8+q=q from jO];refine h.trans ?_;rw[<-hv];simp[Z4.Z0.cells,UF]⟩⟩
   have U:=aT (λc (hc:c∈cs)=>HT.out c hc);have HOf:Hid (∀W,Below Y.heap.size Y W->Calls prog 11 #[.agg #[.int .i64 1,.int .i64 0,.bool true,.slice (some ⟨S,0,none⟩) 1 1]] W λe w'=>∃u,e=.returned (.agg #[.int .i64 1,.int .i64 0,.bool true,u])/\ZJ.YL TR TC W.heap.size w' u [⟨⟨#[114,101,97,100]⟩,8,0,cs⟩]/\Below W.heap.size W w'):=λW C=>
    je (N:=Y.heap.size) (K:=1) rfl jD (λr hr=>by simp only[aaa] at hr;subst hr;show cs.length<=_;rw[HK.out];omega) W C.size (HCI.out.below C (aP _))
   have HPo:Hid (∀W lo u,Below Y.heap.size Y W->ZJ.YL TR TC lo W u [⟨⟨#[114,101,97,100]⟩,8,0,cs⟩]->Calls prog 10 #[.agg #[.int .i64 1,.int .i64 0,.bool true,u],.slice (some ⟨S+1+1,0,none⟩) 1 1] W λe w'=>Dx [⟨⟨#[114,101,97,100]⟩,8,0,cs.map SG⟩] [UF] 1 0 true W e w'):=λW lo u C hu=>by
    have hrg:PV 1 0 true [⟨⟨#[114,101,97,100]⟩,8,0,cs⟩]=true:=uF yh.1 (show 1<=500 from jD) (λr hr=>by simp only[aaa] at hr;subst hr;exact⟨uE,yh.2.1,by show cs.length<=6;rw[HK.out];exact am8,λc hc=>Ri (U.out c hc)⟩)
    refine(CY (L:=1) (Cm:=6) _ [UF] rfl jD (λr hr=>by simp only[aaa] at hr;subst hr;exact(show 4<=60 from jD)) (λr hr=>by simp only[aaa] at hr;subst hr;show cs.length<=12;rw[HK.out];omega) (λ_ r hr=>by simp only[aaa] at hr;subst hr;show cs.length<=6;rw[HK.out];exact am8) jD (λr hr=>by simp only[aaa] at hr;subst hr;exact HNn.out) jD jD (λr hr=>by simp only[aaa] at hr;subst hr;decide) W ((HP.out.below nK).below (C.mono (aP _))) hu (an1.out.below C)).mono ?_;intro e w' h;exact ac6 hrg Aj rfl (λev hev=>hev.one (iN rfl) (oK U.out HNn.out)) jD h
   have an2:Hid (∃nv:Nat,UF.num k=(nv:Int)/\nv<1073741824/\∀W,Below Y.heap.size Y W->W.cell? ⟨S+1+1,1+k,none⟩=some (.int .i64 nv)):=by
    have hl:S+1+1<Y.heap.size:=jO;rcases (show k=0\/k=1\/k=2\/k=3\/k=4 from jO) with rfl|rfl|rfl|rfl|rfl;·exact⟨0,rfl,jD,λW C=>(B2.below C hl).cell 1⟩
    ·exact⟨0,rfl,jD,λW C=>(B2.below C hl).cell 2⟩
    ·exact⟨3,rfl,jD,λW C=>(B2.below C hl).cell 3⟩
    ·exact⟨63,rfl,jD,λW C=>(B2.below C hl).cell 4⟩
    ·exact⟨63,rfl,jD,λW C=>(B2.below C hl).cell 5⟩
   have HXC:Hid (∀W,Below Y.heap.size Y W->Z8 W w.heap.size 24 #[.int .u64 x0,.int .u64 x1,.int .u64 x2,.int .u64 x3,.int .u64 x4,.int .u64 x5]):=λW C=>(HX.out.below ac9 eI).below C (acf eI ac9.size)
   have Ue:=aT B1;have HW:=aT (And.intro hwA (And.intro hwB (And.intro hwC sC)));have HWC:=aT nK;clear B0 B1 B2 bA bB bC sA sB sC hwA hwB hwC nK ac9 HCI an1 HT HC HB HNn hN;go_upto_region 13 with fail;rw[HW.out.1,HW.out.2.1,HW.out.2.2.1];have hsC:=HW.out.2.2.2;clear HW;obtain⟨⟨p0,p1,p2,p3⟩,_⟩:=Z7 Ue.out
   go_wp2_with (first
    |(go_at_call 11;refine(HOf.out _ (aG _ Y)).mono ?_;rintro e wD ⟨u,rfl,hu,hbD⟩;have HBD:=aT hbD;have HU:=aT hu;clear hu hbD p0 p1 p2 p3)
    |(go_at_call 10;refine(HPo.out _ _ _ HBD.out HU.out).mono ?_;rintro e wE ⟨out,m,gp,cp,rfl,hPg,jx,hby,pK,dL⟩;have pJ:=aT (And.intro hPg (And.intro jx (And.intro hby pK)));have HBE:=aT (HBD.out.trans (dL.mono HBD.out.size));clear hPg jx hby pK dL HBD HU))
   obtain⟨nv,hnv,hnl,hnc⟩:=an2.out;have dU:=aT (Z8.new wE CN #[.slice (some ⟨gp,0,none⟩) (m*8) cp,.int .i64 0,.int .i64 0]);have mX:=aT (pJ.out.2.2.1.below (Yk wE (.cells #[.slice (some ⟨gp,0,none⟩) (m*8) cp,.int .i64 0,.int .i64 0] CN)) (aP _));have NP:=aT (HBE.out.trans ((Yk wE (.cells #[.slice (some ⟨gp,0,none⟩) (m*8) cp,.int .i64 0,.int .i64 0] CN)).mono HBE.out.size));have hEF:wE.heap.size<=(wE.alloc (.cells #[.slice (some ⟨gp,0,none⟩) (m*8) cp,.int .i64 0,.int .i64 0] CN)).heap.size:=(Yk wE _).size;generalize wE.alloc (.cells #[.slice (some ⟨gp,0,none⟩) (m*8) cp,.int .i64 0,.int .i64 0] CN)=wF at*;obtain⟨OB,hOB⟩:=jX wE.heap.size;rw[hOB] at dU mX hEF ⊢;clear hOB HBE;have hoF:OB<wF.heap.size:=dU.out.lt;have HSy:=aT pJ.out.2.2.2;obtain⟨vv,hvv⟩:∃vv:Nat,(if bh=true then 2147418112 else 2147483648)=vv:=⟨_,rfl⟩;have HVV:=aT hvv;have HEx:Hid (Y6 (YS (Xv (whole k nv) (X5 k) 0 [x0,x1,x2,x3,x4,x5])) out 0=some vv):=by
    have hw:whole k nv<4294967296:=by unfold whole Wj;split<;>omega
    have ht:X5 k<4294967296:=by unfold X5 RV QR QQ QP;split<;>(try split)<;>(try split)<;>decide
    have h:=HSy.out (YS (Xv (whole k nv) (X5 k) 0 [x0,x1,x2,x3,x4,x5])) (uN _ _ _ _) k 0 hk5 jD (by show 0<=UF.num k;rw[hnv];omega) (Ar _ _ _ ht) (by rw[uP _ _ _ hw];show whole k nv=whole k (UF.num k).toNat;rw[hnv,atg]);rw[h,<-hvv]
    congr 1
    refine(oJ (r:=⟨⟨#[114,101,97,100]⟩,8,0,cs.map SG⟩)).trans ?_;show(if Z2 (VX (YS (Xv (whole k nv) (X5 k) 0 [x0,x1,x2,x3,x4,x5])) (decide (k≠2))) (cs.map SG)=true then Yf 8 0 else Yf 1 0)=_;rw[uD rfl T.out U.out,HBh.out,CX.1,CX.2.1]
   clear hvv;have uo:Hid (∀W g c,Below wF.heap.size wF W->X7 W.heap.size W (some ⟨g,0,none⟩) (Xv (whole k nv) (X5 k) 0 [x0,x1,x2,x3,x4,x5])->Calls prog 12 #[.slice (some ⟨gp,0,none⟩) (m*8) cp,.slice (some ⟨g,0,none⟩) 64 c] W λe w'=>e=.returned (.tuple #[.int .u32 vv,.int .i64 0])/\Below W.heap.size W w'):=λW g c C hg=>
    F3 (N:=W.heap.size) pJ.out.1 rfl pJ.out.2.1 (by rw[Hw];rfl) (Dd _ _ _ _) HEx.out W (uB (mX.out.below (C.mono hEF) (aP _)) (aO hEF C.size)) hg (aP _)
   have an3:=aT (λW=>oH k nv x0 x1 x2 x3 x4 x5 hk5 hnl W);have HWr:Hid (∀W,Calls prog 13 #[.agg #[.int .u32 ((whole k nv:Nat):Int),.int .u32 ((X5 k:Nat):Int),.int .u64 0,.int .u64 x0,.int .u64 x1,.int .u64 x2,.int .u64 x3,.int .u64 x4,.int .u64 x5],.bool false] W λe w'=>∃g c,e=.returned (.slice (some ⟨g,0,none⟩) 64 c)/\X7 w'.heap.size w' (some ⟨g,0,none⟩) (Xv (whole k nv) (X5 k) 0 [x0,x1,x2,x3,x4,x5])/\Below W.heap.size W w'):=λW=>by
    have hw:whole k nv<4294967296:=by unfold whole Wj;split<;>omega
    have ht:X5 k<4294967296:=by unfold X5 RV QR QQ QP;split<;>(try split)<;>(try split)<;>decide
    refine(Au (whole k nv) (X5 k) 0 x0 x1 x2 x3 x4 x5 hw ht jD (T.out _ jS) (T.out _ jS) (T.out _ jS) (T.out _ jS) (T.out _ jS) (T.out _ jS) W).mono ?_;rintro e w' ⟨v,rfl,hr,hb⟩;obtain⟨g,c,rfl⟩:=yl hr jD;exact⟨g,c,rfl,O2 (by rw[Hw];rfl) hr,hb⟩
   have HX8:Hid (∀W,Below wF.heap.size wF W->W.cell? ⟨OB,0,none⟩=some (.slice (some ⟨gp,0,none⟩) (m*8) cp)/\W.cell? ⟨S+1+1,1+k,none⟩=some (.int .i64 nv)/\W.cell? ⟨w.heap.size,0,none⟩=some (.int .u64 x0)/\W.cell? ⟨w.heap.size,1,none⟩=some (.int .u64 x1)/\W.cell? ⟨w.heap.size,2,none⟩=some (.int .u64 x2)/\W.cell? ⟨w.heap.size,3,none⟩=some (.int .u64 x3)/\W.cell? ⟨w.heap.size,4,none⟩=some (.int .u64 x4)/\W.cell? ⟨w.heap.size,5,none⟩=some (.int .u64 x5)):=λW C=>by have hCW:Below Y.heap.size Y W:=NP.out.trans (C.mono NP.out.size);have hx:=HXC.out W hCW;exact⟨(dU.out.below C hoF).cell 0,hnc W hCW,hx.cell 0,hx.cell 1,hx.cell 2,hx.cell 3,hx.cell 4,hx.cell 5⟩
   have wnv:IntKind.u32.wrap (nv:Int)=(nv:Int):=by rw[axc];omega
   have hk0:=jZ k;have aG7:(k:Int)<5:=jO;have kd:Below wF.heap.size wF wF.drew:=(aG _ wF).drew;have HAw:=aT Ii;clear pJ HSy HEx an2 hnc hnv HOf HPo HXC Ue HX CM T HP mX dU U
   go_region_held_law (λw'=>w'.cell? ⟨OB,0,none⟩=some (.slice (some ⟨gp,0,none⟩) (m*8) cp)/\w'.cell? ⟨S+1+1,1+k,none⟩=some (.int .i64 nv)/\w'.cell? ⟨w.heap.size,0,none⟩=some (.int .u64 x0)/\w'.cell? ⟨w.heap.size,1,none⟩=some (.int .u64 x1)/\w'.cell? ⟨w.heap.size,2,none⟩=some (.int .u64 x2)/\w'.cell? ⟨w.heap.size,3,none⟩=some (.int .u64 x3)/\w'.cell? ⟨w.heap.size,4,none⟩=some (.int .u64 x4)/\w'.cell? ⟨w.heap.size,5,none⟩=some (.int .u64 x5)) (exact HX8.out _ (by first|(with_reducible assumption)|(with_reducible exact kd))) (first
    |(go_at_call 14;refine(an3.out _).mono ?_;rintro e w2 ⟨rfl,hb2⟩;have k2:Below wF.heap.size wF w2:=kd.trans hb2)
    |(go_at_call 13;refine(HWr.out _).mono ?_;rintro e w3 ⟨g3,c3,rfl,hm3,hb3⟩;have CA:=aT hm3;have k3:Below wF.heap.size wF w3:=k2.trans (hb3.mono k2.size);clear hm3)
    |(go_at_call 12;refine(uo.out _ _ _ k3 CA.out).mono ?_;rintro e w4 ⟨rfl,hb4⟩;have k4:Below wF.heap.size wF w4:=k3.trans (hb4.mono k3.size)))
   have iz:=aT (HWC.out.trans ((NP.out.trans (k4.mono NP.out.size)).mono HWC.out.size));clear uo HWr an3 HX8 CA;cases bh with
   |true=>
    obtain rfl:2147418112=vv:=HVV.out
    go_wp2_with (go_at_call 7;refine(HAw.out _).mono ?_;rintro e w8 ⟨rfl,rfl⟩)
    go_ret;exact⟨rfl,iz.out⟩
   |false=>
    obtain rfl:2147483648=vv:=HVV.out
    go_wp2_with (go_at_call 7;refine(HAw.out _).mono ?_;rintro e w8 ⟨rfl,rfl⟩)
    go_ret;exact⟨rfl,iz.out⟩
end Go.Proofs.YtclgigmgbebhgaaGreatDoor
