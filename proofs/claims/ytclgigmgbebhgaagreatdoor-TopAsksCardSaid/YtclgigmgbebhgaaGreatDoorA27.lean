/- TopAsks: part 27: TopRead TopKeysU TopItems TopPl3 TopPl4. -/
import Derived.Shelf.SlIterI.Collect
import Derived.Test.YtclgigmgbebhgaaGreatDoorA26
set_option linter.unusedVariables false
set_option linter.unusedSimpArgs false
set_option maxRecDepth 100000
set_option maxHeartbeats 16000000
namespace Go.Proofs.YtclgigmgbebhgaaGreatDoor
open Tryz
open Go Go.Proofs Go.RowKit Go.Shelf
variable {L j g off N:Nat} {W:World}
attribute [local go_sem] atb
@[go_sem] abbrev fP:Oper:=⟨some 32,.load 84 (.tmp 4),84,"inst.go:106",#[],none⟩
@[go_sem] abbrev fO:Oper:=⟨some 44,.buildSlice 84 1 #[(0,.tmp 43)],84,"inst.go:106",#[⟨11,.data⟩],none⟩
@[go_sem] abbrev fN:Oper:=⟨some 45,.call {callee:=.builtin .append,args:=#[.tmp 32,.tmp 44],argTypes:=#[84,84]},84,"inst.go:106",#[⟨0,.data⟩,⟨12,.data⟩],none⟩
@[go_sem] abbrev fM:Oper:=⟨none,.store 84 (.tmp 4) (.tmp 45),0,"inst.go:106",#[⟨13,.data⟩,⟨13,.chain⟩,⟨0,.phase⟩,⟨1,.phase⟩,⟨2,.phase⟩,⟨3,.phase⟩,⟨4,.phase⟩,⟨5,.phase⟩,⟨6,.phase⟩,⟨7,.phase⟩,⟨8,.phase⟩,⟨9,.phase⟩,⟨10,.phase⟩,⟨11,.phase⟩,⟨12,.phase⟩,⟨13,.phase⟩],none⟩
theorem vI{ad:Option Addr}{c:Nat}(w:World):Calls prog 62 #[.slice ad L c,.int .i64 8] w λe w'=>e=.returned (.func (.func 115) #[] #[.pointer (some ⟨w.heap.size,0,none⟩),.pointer (some ⟨w.heap.size+1,0,none⟩)])/\w'=(w.alloc (.cells #[.slice ad L c] 42)).alloc (.cells #[.int .i64 8] 3):=by
 have A:∀(fn:Fn) (first cap:Array Value) (w:World),(Instr.makeFunc fn first cap).run prog w=.ok (.func fn first cap) w:=λ_ _ _ _=>rfl
 go_enter func62,ntmps62;go_wp2_with fail;go_ret;exact⟨rfl,rfl⟩
theorem Kj{n:Nat}(h:j<n):(List.range n).take (j+1)=(List.range n).take j++[j]:=by
 rw[afb,aoa h];rfl
theorem vH(n:Nat):(List.range n).take n=List.range n:=abd (by rw[afe];exact aP _)
theorem vG(n:Nat)(hn:1<=n)(w:World){Bs Bn M c:Nat}(hL:L=M*8)(hs:Z8 w Bs 42 #[.slice (some ⟨g,off,none⟩) L c])(hb:Z8 w Bn 3 #[.int .i64 8])(hc:L<=c)(hM:M<=100000):
 QX Fence.wide n prog 115 #[.pointer (some ⟨Bs,0,none⟩),.pointer (some ⟨Bn,0,none⟩)] (λx:Nat=>#[.slice (some ⟨g,off+x*8,none⟩) 8 8]) (λ_ _=>False) (λ_ r=>r=Bs\/r=Bn) 0 (λxs=>xs=List.range M) (λpre=>pre <+: List.range M) w:=λl J Jx W hW hJ hJx hY h0=>by
 have HS:=aT (hs.below hW hs.lt);have HB:=aT (hb.below hW hb.lt);have HY:=aT hY;have H0:=aT h0;have HL:=aT hL;clear hs hb hY h0 hL;refine aAc func115 rfl trivial ?_ rfl;simp only[ntmps115,aic,aj,acg,Nat.reduceAdd,Nat.reduceSub,alf,alg,anf,amc,ahe,ahb]
 gi_wp2
 gi_loopw [4] (λi wr=>∃j:Nat,j<=M/\(∃z:Nat,i=.int .i64 (z:Int)/\z=j*8)/\Hid (J ((List.range M).take j) wr)/\Hid (Z8 wr Bs 42 #[.slice (some ⟨g,off,none⟩) L c])/\Hid (Z8 wr Bn 3 #[.int .i64 8])/\W.heap.size<=wr.heap.size) (λi _=>M*8-(intOf i).toNat)
 case atStart=>exact⟨0,jO,⟨0,rfl,rfl⟩,H0,HS,HB,aP _⟩
 case round=>
  obtain⟨j,hj,⟨z,rfl,hz⟩,HJ,D,C,hsz⟩:=hrel;clear HS HB H0;have k1:=D.e0;have k2:=C.e0;by_cases hlt:j<M
  ·have I:=HL.out;have Zc:(z:Int)<(L:Int):=jO;have hzL:z+8<=L:=jO;have hzb:z<=800000:=jO;have hz0:=jZ z;have w1:IntKind.i64.wrap ((z:Int)+8)=(z:Int)+8:=aJ _ jO;have hzn:¬z=c:=jO;have Y:J ((List.range M).take j) wr.drew:=hJ _ wr wr.drew none HJ ⟨rfl,rfl,rfl,aP _,λ_ _ _=>rfl⟩ (λr e=>by cases e);obtain⟨fn,tmps,assign,body,hy,hR⟩:=HY _ j wr.drew Y (by rw[<-Kj hlt];exact List.take_prefix _ _) hsz;rw[<-Kj hlt] at hR;rw[<-hz] at hy;have HR:=aT hR;have HZ:=aT hz;clear hR I hz;have zw:(8:Int)<=(L:Int)-(z:Int):=jO;have aF3:z<=L:=jO;have aF4:((L-z:Nat):Int)=(L:Int)-(z:Int):=jO;have mq0:min (8:Int) ((L:Int)-(z:Int))=8:=jO
   gi_wp2_with fail
   try rw[mq0]
   have k1d:wr.drew.cell? ⟨Bs,0,none⟩=some (.slice (some ⟨g,off,none⟩) L c):=k1;have k2d:wr.drew.cell? ⟨Bn,0,none⟩=some (.int .i64 8):=k2;have U:Hid (Z8 wr.drew Bs 42 #[.slice (some ⟨g,off,none⟩) L c]):=D;have T:Hid (Z8 wr.drew Bn 3 #[.int .i64 8]):=C;have au7:W.heap.size<=wr.drew.heap.size:=hsz
   gi_region
   generalize wr.drew=wd at*;clear Y k1 k2 D C HJ;have w2:IntKind.i64.wrap ((z:Int)+8)=(z:Int)+8:=aJ _ jO;have z8:(((z:Int)+8).toNat)=z+8:=jO;have hz8:(0:Int)<=(z:Int)+8:=jO;have hzc:z+8<=c:=jO;have aF5:(z:Int)+8<=(c:Int):=jO;have hzs:z+8-z=8:=jO
   try rw[mq0]
   gi_wp2_with fail
   refine HR.mono ?_;rintro e W3 ⟨hK,(⟨rfl,hJ3⟩|⟨rfl,A⟩)⟩
   ·have HJ3:=aT hJ3;have xK:Hid (Z8 W3 Bs 42 #[.slice (some ⟨g,off,none⟩) L c]):=(hK.2 _ (Z8.lt U) (.inl rfl)).trans U;have NC:Hid (Z8 W3 Bn 3 #[.int .i64 8]):=(hK.2 _ (Z8.lt T) (.inr rfl)).trans T;have Z:=aO au7 hK.1;have y2:=NC.e0;clear hJ3 hK U T k1d k2d
    gi_wp2
    go_roundw
    case rel=>exact⟨j+1,jO,⟨z+8,by go_num,by have:=HZ.out;omega⟩,HJ3,xK,NC,Z⟩
    case measure=>
     have:=HZ.out;simp[intOf];omega
   ·have HX:=aT A;clear A
    gi_wp2
    refine aaf (apa rfl _ _ _) rfl ?_;exact⟨⟨_,rfl⟩,.inr ⟨_,List.take_prefix _ _,HX⟩⟩
  ·obtain rfl:j=M:=by omega
   have I:=HL.out;have Zc:¬(z:Int)<(L:Int):=jO;clear I
   gi_wp2
   go_end0;have:=HJ.out;rw[vH] at this;exact⟨⟨_,rfl⟩,.inl this⟩
theorem Bo {l:List ZL}{x:Nat}{i:ZL}(h:X7 N W (some ⟨g,off,none⟩) (Yr l))(hx:l[x]? =some i):X7 N W (some ⟨g,off+x*8,none⟩) i.bytes:=λj b hb=>by
 have C:j<8:=(aq.1 hb).1;obtain⟨g',A,e,hl,hc⟩:=h (x*8+j) b ((MM l x i hx j C).trans hb);cases e;exact⟨g,off+x*8,rfl,hl,by rw[aya];exact hc⟩
theorem jV{i:ZL}(h:i.fit):TT i.bytes (Yn 0 2)=i.code:=by
 rw[bq];have:=ax ZL.code (Oa h);exact this
theorem au8{i:ZL}(h:i.fit):TT i.bytes (Yn 4 4)=i.k:=by
 rw[qH];have:=ax ZL.k (Oa h);exact this
theorem VR {B e size n:Nat}{v u:Value}{xs:List Value}(h:W.ownsRow B e size v n xs)(I:v.ownBlock≠some g):(W.setCell ⟨g,j,none⟩ u).ownsRow B e size v n xs:=by
 refine⟨h.1,?_⟩;rcases h.2 with A|⟨D,cap,C,J,A,T,U⟩;·exact .inl A
 ·refine .inr ⟨D,cap,C,J,A,(afd W ⟨g,j,none⟩ u D (show D≠g from λe2=> ?_)).trans T,U⟩;subst e2;rw[J] at I;exact I rfl
def yG(B4 h:Nat)(l:List ZL)(w0:World)(pre:List Nat)(W:World):Prop:=∃v,Z8 W B4 84 #[v]/\W.ownsRow (h+2) XG 4 v pre.length ((l.take pre.length).flatMap N9)/\Below w0.heap.size w0 W
theorem Gu{B4 h:Nat}{l:List ZL}{w0:World}(Z:B4≠h+1)(U:w0.heap.size<=h+1):YQ (λr=>r=h+1\/False) (yG B4 h l w0):=λY A B row ⟨v,hb,ho,D⟩ I hr=>by
 have C:∀k,row=some k->k=h+1:=λk e=>(hr k e).elim id (λe=>e.elim)
 refine⟨v,hb.kept I (λe=>Z (C _ e.symm)),ho.kept I ?_,D.grown I D.size (λk e=>by rw[C k e];exact U)⟩;rcases ho.2 with⟨rfl,_⟩|⟨k,cap,J,rfl,T,hk,_⟩;·exact .inl rfl
 ·refine .inr (λe=> ?_);have e2:some k=row:=e;have:=C k e2.symm;omega
theorem qE{n c:Nat}{l:List ZL}(hn:l.length=n)(hL:L=n*8)(hn1:1<=n)(XA:n<=4096)(vF:∀x∈l,x.fit)(hc:L<=c)(w:World)(hm:X7 N w (some ⟨g,off,none⟩) (Yr l))(hN:N<=w.heap.size):
 Calls prog 29 #[.slice (some ⟨g,off,none⟩) L c] w λe w'=>∃v,e=.returned (.tuple #[v,.int .i64 0])/\w'.ownsRow w.heap.size XG 4 v n (l.flatMap N9)/\Below w.heap.size w w':=by
 have HLN:=aT hn;have HL:=aT hL;have HM:=aT hm;have HF:=aT vF;have hb1:¬(32768:Int)<(L:Int):=jO;have hb2:(L:Int)%8=0:=jO;have hb3:(L:Int).tmod 8=0:=by rw[Int.tmod_eq_emod_of_nonneg jO];omega
 have Ue:=aT ((aG w.heap.size w).alloc (aP _) (.cells #[.slice none 0 0] 84));have HD1:=aT (Z8.new w 84 #[.slice none 0 0]);clear hn hL hm vF;refine(ajb (n:=8)).1 ?_;refine ayc func29 rfl trivial ?_ rfl;simp only[ntmps29,aic,aj,acg,Nat.reduceAdd,Nat.reduceSub,alf,alg,anf,amc,ahe,ahb]
 gi_upto_region 6 with fail
 generalize w.alloc (.cells #[.slice none 0 0] 84)=w1 at*;have aF6:w.heap.size<w1.heap.size:=HD1.lt
 gi_wp2_with fail
 refine⟨trivial,?_⟩;refine(ajb.2 (vI (ad:=some ⟨g,off,none⟩) (L:=L) (c:=c) w1)).mono ?_;rintro e U ⟨rfl,hw2⟩;have QN:Hid (Z8 U w1.heap.size 42 #[.slice (some ⟨g,off,none⟩) L c]):=by rw[hw2];exact(Z8.new w1 _ _).alloc _
 have HN2:Hid (Z8 U (w1.heap.size+1) 3 #[.int .i64 8]):=by rw[hw2];have:=Z8.new (w1.alloc (.cells #[.slice (some ⟨g,off,none⟩) L c] 42)) 3 #[.int .i64 8];rwa [ai] at this
 have hbz:Below w1.heap.size w1 U:=by rw[hw2];exact((aG _ w1).alloc (aP _) _).alloc jS _
 have X1:=aT (Ue.trans (hbz.mono Ue.size));have lI:=aT (HD1.below hbz HD1.lt);have Pd:w1.heap.size+1<U.heap.size:=HN2.lt;clear hw2 hbz Ue HD1;generalize w1.heap.size=B2 at*
 gi_wp2_with fail
 refine Xl rfl jD (gf:=115) (lb:=#[.pointer (some ⟨B2,0,none⟩),.pointer (some ⟨B2+1,0,none⟩)]) rfl trivial (enters_of func115 jK rfl)
  (vG 7 jO U HL QN HN2 hc jO) (λr h=>h.elim) (λr h=>jO) (aG _ _) (λ_=>rfl)
  (yG w.heap.size U.heap.size l w)
  (λ_ _ _=>False)
  (Gu jO jO)
  (λc _ _ _ _ h _ _=>h)
  ⟨_,lI,Yg _ _ _ _,X1⟩
  (λx a' W=>a'={tmps:=#[.slice (some ⟨g,off,none⟩) L c,undef,.slice none 0 0,.int .i64 0,.pointer (some ⟨w.heap.size,0,none⟩),.slice (some ⟨g,off+x*8,none⟩) 8 8,undef,undef,undef,undef,.bool false,.slice (some ⟨g,off,none⟩) L c,.int .i64 L,.bool false,.bool false,.slice (some ⟨g,off,none⟩) L c,.int .i64 L,.int .i64 0,.bool false,.slice (some ⟨g,off,none⟩) L c,.func (.func 115) #[] #[.pointer (some ⟨B2,0,none⟩),.pointer (some ⟨B2+1,0,none⟩)],.slice (some ⟨g,off+x*8,none⟩) 8 8,undef,undef,undef,undef,undef,undef,undef,undef,undef,undef,undef,undef,undef,undef,undef,undef,undef,undef,undef,undef,undef,undef,undef,undef,undef],defers:=[]})
  (λ_ _ _ _ _ _ h _ _=>h)
  ?assign ?body ?done ?stop
 case assign=>
  rintro l' A x W K hI hsp hsz I
  gi_wp2
  exact I _ _ (ZU.refl _ _) hI rfl
 case body=>
  rintro l' A x a' W hsz hsp hI rfl;have hx:=DO hsp;obtain rfl:x=A.length:=by obtain⟨hlt,e⟩:=aq.1 hx;rw[List.getElem_range] at e;exact e.symm
  have rB:A.length<n:=by have:=(aq.1 hx).1;rwa [afe] at this
  obtain⟨v,hblk,Z,GG⟩:=hI;obtain⟨i,hi⟩:∃i,l[A.length]? =some i:=⟨_,aM (by rw[HLN.out];exact rB)⟩;have hfi:=HF i (ag hi);have vO:(l.take (A++[A.length]).length).flatMap N9=(l.take A.length).flatMap N9++N9 i:=by rw[ay,aod,afb,hi,aca];simp
  have tL:=aT vO;have hle:(A++[A.length]).length=A.length+1:=by rw[ay,aod]
  have HLE:=aT hle;clear vO hle;have HPB:Hid (∀W',Below w.heap.size w W'->X7 N W' (some ⟨g,off+A.length*8,none⟩) i.bytes):=λW' Y=>Bo (HM.below Y hN) hi
  have qD:∀b∈i.bytes,b<256:=by
   obtain⟨h1,h2,h3,h4⟩:=hfi;intro b hb;unfold ZL.bytes at hb;simp only[abf,akf,auf] at hb;rcases hb with rfl|rfl|rfl|rfl|rfl|rfl|rfl|rfl
   all_goals first|assumption|exact ave _ jD
  have HC:Hid (∀W',Below w.heap.size w W'->Calls prog 63 #[.slice (some ⟨g,off+A.length*8,none⟩) 8 8,.int .i64 0,.int .i64 2,.bool false] W' λe w'=>e=.returned (.tuple #[.int .u64 i.code,.int .i64 0])/\Below W'.heap.size W' w'):=λW' Y=>by have:=Gy (L:=8) (c:=8) (at_:=0) (k:=2) (.inl rfl) rfl jO jO qD W' (HPB W' Y) (aO hN Y.size);rw[jV hfi] at this;exact this
  have lK:Hid (∀W',Below w.heap.size w W'->Calls prog 63 #[.slice (some ⟨g,off+A.length*8,none⟩) 8 8,.int .i64 4,.int .i64 4,.bool false] W' λe w'=>e=.returned (.tuple #[.int .u64 i.k,.int .i64 0])/\Below W'.heap.size W' w'):=λW' Y=>by have:=Gy (L:=8) (c:=8) (at_:=4) (k:=4) (.inr rfl) rfl jO jO qD W' (HPB W' Y) (aO hN Y.size);rw[au8 hfi] at this;exact this
  have bm:Hid (∀W',Below w.heap.size w W'->W'.cell? ⟨g,off+A.length*8+2,none⟩=some (.int .u8 i.jt)/\W'.cell? ⟨g,off+A.length*8+3,none⟩=some (.int .u8 i.jf)):=λW' Y=>by obtain⟨g1,o1,e1,_,h1⟩:=HPB W' Y 2 i.jt rfl;obtain⟨g2,o2,e2,_,h2⟩:=HPB W' Y 3 i.jf rfl;cases e1;cases e2;exact⟨h1,h2⟩
  have hpc:A.length<=4096:=jO;obtain⟨i0,XW,hz0,hz1,hz2⟩:=ZQ O4;obtain⟨hf0,wj,hf2,hf3⟩:=hfi;obtain⟨ic,T,J,ik⟩:=i;dsimp only at HC lK bm hf0 wj hf2 hf3;have q1:IntKind.u16.wrap (ic:Int)=(ic:Int):=IntWalk.u16_in _ jO;have q2:IntKind.u32.wrap (ik:Int)=(ik:Int):=awf _ jO;have Bl:=aT GG;have bj:=aT hblk;have ai9:=aT Z;have HKP:Hid (ZU (Y3 (λ_ r=>r=B2\/r=B2+1) U.heap.size) W W):=ZU.refl _ _;clear hx hsp hblk Z GG hi qD HPB;generalize A.length=P at*
  gi_wp2_with fail
  refine⟨trivial,?_⟩;refine(CallsIn.inRound l' (ajb.2 (HC _ Bl))).mono ?_;rintro e w3 ⟨rfl,hb⟩;have yF:=aT (Bl.trans (hb.mono Bl.size));have qB:=aT (bj.below hb bj.lt);have fL:=aT (ZF ai9 hb);have bg:=aT (HKP.trans (ZU.below hb));clear hb Bl bj ai9 HKP HC
  gi_wp2_with fail
  refine⟨trivial,?_⟩;refine(CallsIn.inRound l' (ajb.2 (lK _ yF))).mono ?_;rintro e w4 ⟨rfl,hb⟩;have aj0:U.heap.size+2<=w4.heap.size:=aO (aO hsz bg.1) hb.size;have qA:=aT (yF.trans (hb.mono yF.size));have fK:=aT (qB.below hb qB.lt);have fJ:=aT (ZF fL hb);have aj1:=aT (bg.trans (ZU.below hb));clear hb yF qB fL bg lK;obtain⟨c2,c3⟩:=bm w4 qA;have xK:Hid (w4.drew.cell? ⟨g,off+P*8+2,none⟩=some (.int .u8 T)/\w4.drew.cell? ⟨g,off+P*8+3,none⟩=some (.int .u8 J)):=⟨c2,c3⟩;clear c2 c3;have fI:Hid (Below w.heap.size w w4.drew):=qA.drew;have bE:Hid (Z8 w4.drew w.heap.size 84 #[v]):=fK;have HO5:Hid (w4.drew.ownsRow (U.heap.size+2) XG 4 v P ((l.take P).flatMap N9)):=fJ;have CQ:Hid (ZU (Y3 (λ_ r=>r=B2\/r=B2+1) U.heap.size) W w4.drew):=aj1;have aF7:U.heap.size+2<=w4.drew.heap.size:=aj0
  gi_wp2_with fail
  refine Gv (S:=λw'=>w'.cell? ⟨g,off+P*8+2,none⟩=some (.int .u8 T)/\w'.cell? ⟨g,off+P*8+3,none⟩=some (.int .u8 J)) jK (by intro o ho cc;simp only[abf,akf,auf] at ho;rcases ho with rfl|rfl|rfl|rfl|rfl|rfl|rfl|rfl|rfl|rfl|rfl|rfl|rfl|rfl|rfl<;>(intro h;cases h)) xK (λhHeld=> ?_);clear qA fK fJ aj1;generalize w4.drew=wd at*;clear aj0;refine jT 1 ⟨some 33,.move (.tmp 6),23,"inst.go:106",#[],none⟩ ?_;try simp only[Act.put,aS,aQ,aR]
  refine jT 2 ⟨some 34,.convert 23 137 (.tmp 33),137,"inst.go:106",#[⟨1,.data⟩],none⟩ ?_;try simp only[Act.put,aS,aQ,aR]
  refine jT 3 ⟨some 35,.move (.tmp 5),42,"inst.go:106",#[],none⟩ ?_;try simp only[Act.put,aS,aQ,aR]
  refine jT 4 ⟨some 36,.indexAddr 42 (.tmp 35) (.const (.int .i64 2)),0,"inst.go:106",#[⟨3,.data⟩],none⟩ ?_;try simp only[Act.put,aS,aQ,aR]
  refine jT 5 ⟨some 37,.load 5 (.tmp 36),5,"inst.go:106",#[⟨4,.data⟩],none⟩ ?_;try simp only[Act.put,aS,aQ,aR]
  refine jT 6 ⟨some 38,.move (.tmp 5),42,"inst.go:106",#[],none⟩ ?_;try simp only[Act.put,aS,aQ,aR]
  refine jT 7 ⟨some 39,.indexAddr 42 (.tmp 38) (.const (.int .i64 3)),0,"inst.go:106",#[⟨6,.data⟩],none⟩ ?_;try simp only[Act.put,aS,aQ,aR]
  refine jT 8 ⟨some 40,.load 5 (.tmp 39),5,"inst.go:106",#[⟨7,.data⟩],none⟩ ?_;try simp only[Act.put,aS,aQ,aR]
  refine jT 9 ⟨some 41,.move (.tmp 8),23,"inst.go:106",#[],none⟩ ?_;try simp only[Act.put,aS,aQ,aR]
  refine jT 10 ⟨some 42,.convert 23 53 (.tmp 41),53,"inst.go:106",#[⟨9,.data⟩],none⟩ ?_;try simp only[Act.put,aS,aQ,aR]
  refine jT 11 ⟨some 43,.build 166 #[(0,.tmp 34),(1,.tmp 37),(2,.tmp 40),(3,.tmp 42)],166,"inst.go:106",#[⟨2,.data⟩,⟨5,.data⟩,⟨8,.data⟩,⟨10,.data⟩],none⟩ ?_;try simp only[Act.put,aS,aQ,aR]
  have HLT:=aT (Z8.new wd XG #[.int .u16 ic,.int .u8 T,.int .u8 J,.int .u32 ik]);have EE:=aT (fI.alloc fI.size (.cells #[.int .u16 ic,.int .u8 T,.int .u8 J,.int .u32 ik] XG));have CP:=aT (bE.alloc (.cells #[.int .u16 ic,.int .u8 T,.int .u8 J,.int .u32 ik] XG));have Bj:=aT (ZF HO5 ((aG wd.heap.size wd).alloc (aP _) (.cells #[.int .u16 ic,.int .u8 T,.int .u8 J,.int .u32 ik] XG)));have HPA:=aT (CQ.trans (ZU.alloc wd (.cells #[.int .u16 ic,.int .u8 T,.int .u8 J,.int .u32 ik] XG)));have mN:U.heap.size+2<=(wd.alloc (.cells #[.int .u16 ic,.int .u8 T,.int .u8 J,.int .u32 ik] XG)).heap.size:=by rw[ai];omega
  have JM:Hid ((wd.alloc (.cells #[.int .u16 ic,.int .u8 T,.int .u8 J,.int .u32 ik] XG)).cell? ⟨g,off+P*8+2,none⟩=some (.int .u8 T)/\(wd.alloc (.cells #[.int .u16 ic,.int .u8 T,.int .u8 J,.int .u32 ik] XG)).cell? ⟨g,off+P*8+3,none⟩=some (.int .u8 J)):=bm _ EE;have k4:=bE.cell 0;have k5:=CP.cell 0;have f5:=CP.frozen 0;simp only[ak,aL] at k4 k5;refine aag (rs:=[0,12]) jK jS ?_;refine ae (o:=fP) rfl (λK' I=> ?au9) (ae (o:=fO) rfl (λK' I=> ?av0) aad)
  case au9=>
   go_simp;refine I _ _ hHeld (λhHeld=> ?_);clear I K';try simp only[Act.put,aS,aQ,aR]
   refine aag (rs:=[12]) jK jS ?_;refine ae (o:=fO) rfl (λK' I=> ?_) aad;go_simp;clear hHeld;refine I _ _ JM (λhHeld=> ?_);clear I K';try simp only[Act.put,aS,aQ,aR]
   refine aag (rs:=[13]) jK jS ?_;refine ae (o:=fN) rfl (λK' I=> ?_) aad;refine Yb _ _ _ 84 jR (U.heap.size+2) XG i0 (.agg #[.int .u16 0,.int .u8 0,.int .u8 0,.int .u32 0]) 4 8 underlying84 XW hz0 hz1 hz2 rfl jD v P _ jR Bj ⟨wd.heap.size,0,none⟩ 1 1 [.int .u16 ic,.int .u8 T,.int .u8 J,.int .u32 ik] jR rfl (Y1 rfl) (by simp[Value.oneCell']) (by unfold maxLen;omega) jO mN ?_;intro v' w7 D C;have NL:∀k,v.ownBlock=some k->w.heap.size<=k/\k≠w.heap.size/\U.heap.size+2<=k:=λk e=>by have:=(Bj.lt k e).1;omega
   have OA:=aT (EE.grown C EE.size (λk e=>(NL k e).1));have bf:=aT (CP.kept C (λe=>(NL _ e.symm).2.1 rfl));have L5:=aT (bm _ OA);have hnk:∀k,v.ownBlock=some k->¬Y3 (λ_ r=>r=B2\/r=B2+1) U.heap.size k:=λk e hk=>by have:=NL k e;unfold Y3 at hk;omega
   have HP7:=aT (HPA.trans (ZU.grown C hnk));obtain⟨g7,q7,rfl,_,_⟩:=World.ownsRow.form D jO;have L4:=aT D;have k7:=bf.cell 0;have f7:=bf.frozen 0;simp only[ak,aL] at k7;clear C D hnk NL;clear hHeld;refine I _ _ L5 (λhHeld=> ?_);clear I K';try simp only[Act.put,aS,aQ,aR]
   refine aag (rs:=[14]) jK jS ?_;refine ae (o:=fM) rfl (λK' I=> ?_) aad;have yE:Hid (Below w.heap.size w (w7.setCell ⟨w.heap.size,0,none⟩ (.slice (some ⟨g7,0,none⟩) (P+1) q7))):=OA.setCell (p:=⟨w.heap.size,0,none⟩) (aP _) (.slice (some ⟨g7,0,none⟩) (P+1) q7);have qz:=aT (bm _ yE);have Sl:Hid (ZU (Y3 (λ_ r=>r=B2\/r=B2+1) U.heap.size) W (w7.setCell ⟨w.heap.size,0,none⟩ (.slice (some ⟨g7,0,none⟩) (P+1) q7))/\yG w.heap.size U.heap.size l w (A++[P]) (w7.setCell ⟨w.heap.size,0,none⟩ (.slice (some ⟨g7,0,none⟩) (P+1) q7))):=by refine⟨HP7.trans (ZU.setCell _ _ _ (λhk=>by unfold Y3 at hk;simp only at hk;omega)),(.slice (some ⟨g7,0,none⟩) (P+1) q7),bf.set 0 (.slice (some ⟨g7,0,none⟩) (P+1) q7),?_,yE⟩;rw[tL.out,HLE.out];exact VR L4 (λe=>by have:=(L4.lt _ e).1;omega)
   go_simp;clear hHeld;refine I _ _ qz (λhHeld=> ?_);clear I K';refine akc jK ?_ _;clear k4 k5 f5 k7 f7
   gi_wp2
   exact Sl
  case av0=>
   go_simp;clear hHeld;refine I _ _ JM (λhHeld=> ?_);clear I K';try simp only[Act.put,aS,aQ,aR]
   refine aag (rs:=[0]) jK jS ?_;refine ae (o:=fP) rfl (λK' I=> ?_) aad;go_simp;refine I _ _ hHeld (λhHeld=> ?_);clear I K';try simp only[Act.put,aS,aQ,aR]
   refine aag (rs:=[13]) jK jS ?_;refine ae (o:=fN) rfl (λK' I=> ?_) aad;refine Yb _ _ _ 84 jR (U.heap.size+2) XG i0 (.agg #[.int .u16 0,.int .u8 0,.int .u8 0,.int .u32 0]) 4 8 underlying84 XW hz0 hz1 hz2 rfl jD v P _ jR Bj ⟨wd.heap.size,0,none⟩ 1 1 [.int .u16 ic,.int .u8 T,.int .u8 J,.int .u32 ik] jR rfl (Y1 rfl) (by simp[Value.oneCell']) (by unfold maxLen;omega) jO mN ?_;intro v' w7 D C;have NL:∀k,v.ownBlock=some k->w.heap.size<=k/\k≠w.heap.size/\U.heap.size+2<=k:=λk e=>by have:=(Bj.lt k e).1;omega
   have OA:=aT (EE.grown C EE.size (λk e=>(NL k e).1));have bf:=aT (CP.kept C (λe=>(NL _ e.symm).2.1 rfl));have L5:=aT (bm _ OA);have hnk:∀k,v.ownBlock=some k->¬Y3 (λ_ r=>r=B2\/r=B2+1) U.heap.size k:=λk e hk=>by have:=NL k e;unfold Y3 at hk;omega
   have HP7:=aT (HPA.trans (ZU.grown C hnk));obtain⟨g7,q7,rfl,_,_⟩:=World.ownsRow.form D jO;have L4:=aT D;have k7:=bf.cell 0;have f7:=bf.frozen 0;simp only[ak,aL] at k7;clear C D hnk NL;clear hHeld;refine I _ _ L5 (λhHeld=> ?_);clear I K';try simp only[Act.put,aS,aQ,aR]
   refine aag (rs:=[14]) jK jS ?_;refine ae (o:=fM) rfl (λK' I=> ?_) aad;have yE:Hid (Below w.heap.size w (w7.setCell ⟨w.heap.size,0,none⟩ (.slice (some ⟨g7,0,none⟩) (P+1) q7))):=OA.setCell (p:=⟨w.heap.size,0,none⟩) (aP _) (.slice (some ⟨g7,0,none⟩) (P+1) q7);have qz:=aT (bm _ yE);have Sl:Hid (ZU (Y3 (λ_ r=>r=B2\/r=B2+1) U.heap.size) W (w7.setCell ⟨w.heap.size,0,none⟩ (.slice (some ⟨g7,0,none⟩) (P+1) q7))/\yG w.heap.size U.heap.size l w (A++[P]) (w7.setCell ⟨w.heap.size,0,none⟩ (.slice (some ⟨g7,0,none⟩) (P+1) q7))):=by refine⟨HP7.trans (ZU.setCell _ _ _ (λhk=>by unfold Y3 at hk;simp only at hk;omega)),(.slice (some ⟨g7,0,none⟩) (P+1) q7),bf.set 0 (.slice (some ⟨g7,0,none⟩) (P+1) q7),?_,yE⟩;rw[tL.out,HLE.out];exact VR L4 (λe=>by have:=(L4.lt _ e).1;omega)
   go_simp;clear hHeld;refine I _ _ qz (λhHeld=> ?_);clear I K';refine akc jK ?_ _;clear k4 k5 f5 k7 f7
   gi_wp2
   exact Sl
 case done=>
  rintro xs W rfl ⟨v,hblk,Z,GG⟩ I;have k0:=hblk.e0;rw[afe,abd (by rw[HLN.out];exact aP _)] at Z
  gi_wp2
  refine⟨jS,.inl ⟨_,_,rfl,axg I,?_⟩⟩;refine⟨.tuple #[v,.int .i64 0],?_,v,rfl,?_,GG.trans (belowK_b (w:=w) (aP _) _ U.heap.size _ (.deferred none) jO I rfl rfl)⟩;·simp[results,Tryz.f29,go_sem]
  ·have:=Ze Z (show w.heap.size<=U.heap.size+2 from jO);refine⟨this.1,?_⟩;rcases this.2 with h2|⟨k,cap,cur,h1,h2,h3,h4⟩;·exact .inl h2
   ·refine .inr ⟨k,cap,cur,h1,h2,?_,h4⟩;show(W.heap.setIfInBounds U.heap.size _)[k]? =_;rw[aie (by have:=Z.lt k (by rw[h1];rfl);omega)];exact h3
 case stop=>
  rintro c A W hS h I;exact h.elim
end Go.Proofs.YtclgigmgbebhgaaGreatDoor
namespace Go.Proofs.YtclgigmgbebhgaaGreatDoor
open Tryz
open Go Go.Proofs Go.RowKit Go.Maps Go.WideMaps Go.ChangeMaps Go.Sort Go.Shelf
variable {cur:Array Value} {ss:List Nat} {base Bm nn g:Nat} {W w:World}
attribute [local go_sem] atb
theorem fH(W:World)(o:Obj):Below W.heap.size W (W.alloc o):=(aG _ W).alloc (aP _) _
theorem Ki {e s n:Nat}{v:Value}{xs:List Value}(h:W.ownsRow base e s v n xs):∃a c,v=.slice a n c:=by
 rcases h.2 with⟨rfl,C⟩|⟨g,cap,A,rfl,_⟩;·exact⟨none,0,by rw[C]⟩
 ·exact⟨_,_,rfl⟩
theorem vE(l:List Nat):VG l=l.map ZM:=(List.map_eq_flatMap).symm
theorem vD(A:Option Nat)(W:World):Calls prog 57 #[.map A] W λe w'=>e=.returned (.func (.func 108) #[] #[.pointer (some ⟨W.heap.size,0,none⟩)])/\w'=W.alloc (.cells #[.map A] 133):=by
 have C:∀(fn:Fn) (first cap:Array Value) (w:World),(Instr.makeFunc fn first cap).run prog w=.ok (.func fn first cap) w:=λ_ _ _ _=>rfl
 go_enter func57,ntmps57;go_wp2_with fail;go_ret;exact⟨rfl,rfl⟩
theorem qy{x y:Nat}(h:ZM x=ZM y):x=y:=by
 unfold ZM at h;injection h with _ h;omega
theorem Iy{key:Value}{kl:Lit}(h:keyOf prog 53 key=some kl):∃n:Nat,key=ZM n/\kl=.int .u32 (n:Int):=by
 have hk:=underlying53;cases key<;>simp[keyOf,hk,mapKey] at h
 rename_i q a;obtain⟨⟨rfl,hw⟩,rfl⟩:=h;have C:0<=a:=by have A:(decide (IntKind.u32.min<=a)&&decide (a<=IntKind.u32.max))=true:=hw;rw[aeg,adg] at A;exact A.1
 obtain⟨n,rfl⟩:∃n:Nat,a=(n:Int):=⟨a.toNat,jO⟩;exact⟨n,rfl,rfl⟩
def Su(D:DataW Unit)(left:Lit->Bool)(ss:List Nat):Prop:=ss.Nodup/\∀x:Nat,x∈ss↔(Maps.has D (.int .u32 x)=true/\left (.int .u32 x)=false)
theorem Su.start(D:DataW Unit):Su D (Maps.has D) []:=⟨List.nodup_nil,λx=>by cases Maps.has D (.int .u32 x)<;>simp⟩
theorem Su.step{D:DataW Unit}{left:Lit->Bool} (h:Su D left ss){x:Nat}(C:Maps.has D (.int .u32 x)=true)(I:left (.int .u32 x)=true):Su D (λz=>left z && !z.sameKey (.int .u32 x)) (ss++[x]):=by
 have A:x∉ss:=λhx=>by have J:=((h.2 x).1 hx).2;rw[I] at J;cases J
 refine⟨atf.2 ⟨h.1,jS,λa ha b hb e=>A (by rw[<-aaa.1 hb,<-e];exact ha)⟩,λy=> ?_⟩;rw[abe,h.2 y,aaa];by_cases hy:y=x;·subst hy;simp[C,Lit.sameKey]
 ·have:¬(y:Int)=(x:Int):=by omega
  simp[hy,Lit.sameKey,this]
theorem Su.perm{D:List (Lit×DataW Unit)}{b:List (Nat×Nat)}{left:Lit->Bool} (h:Su (.map D) left ss)(hl:∀I,left I=false)(A:D.Perm ((QO b).map λp=>((keyOf prog 53 p.1).getD (.bool false),.lit (.bool true))))(hk:b.Pairwise (λp q=>p.1≠q.1))(hb:∀p∈b,p.1<4294967296/\p.2≠0):ss.Perm (b.map (·.1)):=by
 refine(List.perm_ext_iff_of_nodup h.1 (afa.2 hk)).2 λx=> ?_
 rw[h.2 x,hl];have e:∀p∈b,((keyOf prog 53 (.int .u32 p.1)).getD (.bool false))=.int .u32 (p.1:Int):=λp hp=>by
  rw[keyOf_int_mk underlying53 (by have:=(hb p hp).1;show(decide (IntKind.u32.min<=(p.1:Int))&&decide ((p.1:Int)<=IntKind.u32.max))=true;rw[aeg,adg,adg];show(0:Int)<=(p.1:Int)/\(p.1:Int)<=4294967295;omega)]
  rfl
 rw[Maps.has_eq,akg,ah];constructor
 ·rintro⟨⟨q,C,hs⟩,_⟩;obtain⟨v,hv,rfl⟩:=ah.1 (A.mem_iff.1 C);obtain⟨p,hp,rfl⟩:=ah.1 hv;rw[show(QO b).map _=_ from rfl] at*;dsimp only at hs;rw[e p hp] at hs;refine⟨p,hp,?_⟩;have:(p.1:Int)=(x:Int):=by simpa [Lit.sameKey] using hs
  omega
 ·rintro⟨p,hp,rfl⟩;refine⟨⟨_,A.mem_iff.2 (ah.2 ⟨(.int .u32 p.1,.int .i64 p.2),ah.2 ⟨p,hp,rfl⟩,rfl⟩),?_⟩,rfl⟩;dsimp only;rw[e p hp];simp[Lit.sameKey]
theorem vC(n:Nat)(hn:1<=n)(Bm B nn:Nat)(D:DataW Unit)(w:World)(Y:Z8 w Bm 133 #[.map (some B)])(A:w.ownsMap prog 53 Rc B nn D):
 QX Fence.wide n prog 108 #[.pointer (some ⟨Bm,0,none⟩)] (λx:Nat=>#[ZM x]) (λh r=>r=h) (λh r=>r=h\/r=B) 1 (λss=>Su D (λ_=>false) ss) (λpre=>pre.length<=Maps.size D) w:=λl J Jx W hW hJ hJx hY h0=>by
 have hlt:=A.lt;have hm:=(Y.below hW Y.lt).e0;have Z:W.ownsMap prog 53 Rc B nn D:=by obtain⟨es,clock,hb,Ft,hs,hD⟩:=A;exact⟨es,clock,(hW.block B hlt).trans hb,Ft,hs,hD⟩
 have hBW:B<W.heap.size:=acf hlt hW.size;refine aAc func108 rfl trivial ?_ rfl;simp only[ntmps108,aic,aj,acg,Nat.reduceAdd,Nat.reduceSub,alf,alg,anf,amc,ahe,ahb];clear A Y
 gi_wp2_with (first
  |(gi_at_range;refine wpListIn_range_own _ rfl _ 133 rfl 53 3 Lm underlying133 _ B nn _ rfl Z ?_;intro w0 hrg0 hg0 hs0)
  |gi_in)
 try go_frame
 gi_loopw [3] (λ_ wr=>∃(left:Lit->Bool) (cnt:Nat) (ss:List Nat),wr.ranges prog 53 Rc B W.heap.size nn D left cnt/\ss.length+cnt<=Maps.size D/\Su D left ss/\J ss wr/\W.heap.size+1<=wr.heap.size)
  (λ_ wr=>wr.rangeLeft B W.heap.size)
 case atStart=>
  exact⟨_,_,[],hrg0,jS,Su.start D,hJ [] W w0 none h0 hg0 (λr e=>by cases e),jO⟩
 case round=>
  obtain⟨left,cnt,ss,hrg,hcs,hC,hJs,hsz⟩:=hrel
  gi_wp2_with (first
   |(gi_at_next;refine wpListIn_next_ranges _ rfl _ rfl 53 Lm Rc ZM id (λkey kl hk=>by obtain⟨x,hx,_⟩:=Iy hk;exact⟨x,hx⟩) (λv _ _=>⟨v,rfl⟩) B W.heap.size nn _ _ _ rfl hrg ?_ ?_)
   |gi_in)
  ·intro hc0 hl0
   gi_wp2
   go_end0;refine⟨⟨_,rfl⟩,.inl ⟨ss,⟨hC.1,λx=> ?_⟩,hJs⟩⟩;rw[hC.2 x,hl0]
  ·intro x c kl yd yp w2 I hkey hlk hv hat hrg2 Pd hg2 hs2 hen;obtain⟨x',ex,rfl⟩:=Iy hkey;obtain rfl:x=x':=qy ex;have hJ2:J ss w2:=hJ ss wr w2 (some W.heap.size) hJs hg2 (λr e=>by cases e;rfl);have av1:Maps.has D (.int .u32 x)=true:=Maps.has_true_of_atKey hat;obtain⟨fn,tmps,assign,body,hy,hR⟩:=hY ss x w2 hJ2 (by rw[ay,aod];omega) (by rw[hs2];exact hsz);have Jz:W.heap.size+1<=w2.heap.size:=by rw[hs2];exact hsz
   clear hs2
   gi_wp2
   refine hR.mono ?_;rintro e W3 ⟨T,(⟨rfl,U⟩|⟨rfl,U⟩)⟩
   ·gi_wp2
    have C:W3.ranges prog 53 Rc B W.heap.size nn D (λz=>left z && !z.sameKey (.int .u32 x)) I:=by obtain⟨es,clock,since,seen,c0,hb,F,hs,hD,hr,rest⟩:=hrg2;exact⟨es,clock,since,seen,c0,(T.2 B jO (.inr rfl)).trans hb,F,hs,hD,(T.2 W.heap.size jO (.inl rfl)).trans hr,rest⟩
    go_roundw
    case rel=>exact⟨_,I,ss++[x],C,by rw[ay,aod];omega,hC.step av1 hlk,U,aO Jz T.1⟩
    case measure=>rw[C.left_eq,hrg.left_eq];exact Pd
   ·gi_wp2
    refine aaf (apa rfl _ _ _) rfl ?_;exact⟨⟨_,rfl⟩,.inr ⟨_,by rw[ay,aod];omega,U⟩⟩
def bc(Bs base:Nat)(w:World)(xs:List Nat)(W:World):Prop:=∃v,Z8 W Bs 100 #[v]/\W.ownsRow base 53 1 v xs.length (xs.map ZM)/\Below Bs w W
theorem DN{Bs:Nat} {own:Nat->Prop}(hs:Bs<=w.heap.size)(h:∀r,own r->Bs<r/\r<base):YQ own (bc Bs base w):=λs A B row ⟨v,J,D,I⟩ C hr=>by
 refine⟨v,J.kept C (λe=>by have:=h _ (hr _ e.symm);omega),D.kept C ?_,I.grown C (aO hs I.size) (λk e=>by have:=h _ (hr _ e);omega)⟩;rcases D.2 with⟨rfl,_⟩|⟨k,cap,T,rfl,U,hk,_⟩;·exact .inl rfl
 ·refine .inr (λe=> ?_);have e2:some k=row:=e;have:=h k (hr k e2.symm);omega
theorem aZ:(prog.info? 53).map (λi=>(i.zero,i.size,i.bytes))=some (some (.int .u32 0),1,4):=jK
def MK(D:DataW Unit)(w:World):Ending->World->Prop:=λe w'=>∃(v:Value) (xs:List Nat),e=.returned v/\Su D (λ_=>false) xs/\w'.ownsRow w.heap.size 53 1 v xs.length (xs.map ZM)/\Below w.heap.size w w'
theorem DM{B:Nat}{D:DataW Unit}(hD:Maps.size D<=1000000)(w:World)(hBm:Z8 w Bm 133 #[.map (some B)])(Y:w.ownsMap prog 53 Rc B nn D):
 Calls prog 176 #[.slice none 0 0,.func (.func 108) #[] #[.pointer (some ⟨Bm,0,none⟩)]] w (MK D w):=by
 have hB:=Y.lt;have mU:Below w.heap.size w (w.alloc (.cells #[.slice none 0 0] 100)):=(aG _ w).alloc (aP _) _;have FW:Hid (bc w.heap.size (w.heap.size+4) w [] (w.alloc (.cells #[.slice none 0 0] 100))):=⟨_,Z8.new w _ _,Yg _ _ _ _,mU⟩;have HSq:=aT (vC 7 jD Bm B nn D (w.alloc (.cells #[.slice none 0 0] 100)) (hBm.alloc _) (by obtain⟨es,clock,hb,Ft,hs,hD⟩:=Y;exact⟨es,clock,(mU.block B hB).trans hb,Ft,hs,hD⟩))
 clear hBm Y mU;refine(ajb (n:=8)).1 ?_;refine ayc func176 rfl trivial ?_ rfl;simp only[ntmps176,aic,aj,acg,Nat.reduceAdd,Nat.reduceSub,alf,alg,anf,amc,ahe,ahb]
 gi_upto_region 1 with fail
 obtain⟨w1,Jy⟩:=jX (w.alloc (.cells #[.slice none 0 0] 100));rw[Jy] at FW HSq ⊢;have hs1:w1.heap.size=w.heap.size+1:=by rw[<-Jy];simp
 clear Jy
 gi_wp2_with fail
 refine Xl rfl jD (gf:=108) (lb:=#[.pointer (some ⟨Bm,0,none⟩)]) rfl trivial (enters_of func108 jK rfl)
  HSq (λr h=>by subst h;omega) (λr h=>jO) (aG _ _) (λ_=>rfl)
  (bc w.heap.size (w.heap.size+4) w)
  (λ_ _ _=>False)
  (DN (aP _) (λr h=>by rcases h with rfl|rfl<;>omega))
  (λc _ _ _ _ h _ _=>h)
  FW
  (λx a' W=>a'={tmps:=#[.slice none 0 0,.func (.func 108) #[] #[.pointer (some ⟨Bm,0,none⟩)],.pointer (some ⟨w.heap.size,0,none⟩),undef,.slice none 0 0,ZM x,.func (.func 108) #[] #[.pointer (some ⟨Bm,0,none⟩)],ZM x,undef,undef,undef,undef,undef],defers:=[]})
  (λ_ _ _ _ _ _ h _ _=>h)
  ?assign ?body ?done ?stop
 case assign=>
  rintro l' A x W K hI hsp hsz hK
  gi_wp2
  exact hK _ _ (ZU.refl _ _) hI rfl
 case body=>
  rintro l' A x a' W hsz hsp hI rfl;obtain⟨v,hblk,C,U⟩:=hI;obtain⟨va,vc,rfl⟩:=Ki C;have hpl:A.length+1<=1000000:=by rw[ay,aod] at hsp;omega
  obtain⟨i0,XW,hz0,hz1,hz2⟩:=ZQ aZ;have HX:Hid ((A++[x]).length=A.length+1/\(A++[x]).map ZM=A.map ZM++[ZM x]):=⟨jS,jS⟩;have Z:=aT hblk;have I:=aT C;have Bl:=aT U;have hws:w.heap.size<W.heap.size:=hblk.lt;obtain⟨pm,FU⟩:=jX (A.map ZM);rw[FU] at HX I;obtain⟨P,hP⟩:=jX A.length;rw[hP] at HX I hpl Z;clear hblk C U hsp FU hP;have c0:=Z.e0;unfold ZM at*
  gi_wp2_with (gi_at_builtin;refine wpListIn_append_own _ rfl _ _ 100 rfl (w.heap.size+4) 53 i0 (.int .u32 0) 1 4 underlying100 XW hz0 hz1 hz2 rfl jD _ P _ rfl (ZF I (fH W (.cells #[.int .u32 x] 53))) ⟨W.heap.size,0,none⟩ 1 1 [.int .u32 x] rfl ?c1 ?c2 ?c3 ?c4 ?c5 ?c6 ?_;(case c1=>rfl);(case c2=>exact Y1 rfl);(case c3=>simp[Value.oneCell']);(case c4=>unfold maxLen;omega);(case c5=>omega);(case c6=>rw[ai];omega);intro v' w3 T hg3 hnil3;have J:=(Z.alloc (.cells #[.int .u32 x] 53)).kept hg3 (λe=>by have:=(I.lt _ e.symm).1;omega);have hc3:=J.cell 0;have hf3:=J.frozen 0;have hb3:Below w.heap.size w w3:=(Bl.alloc Bl.size _).grown hg3 (by rw[ai];omega) (λk e=>by have:=(I.lt k e).1;omega);have hk3:ZU (Y3 (λh r=>r=h\/r=B) w1.heap.size) W w3:=(ZU.alloc W _).trans (ZU.grown hg3 (λr e hr=>by have:=(I.lt r e).1;rcases hr with rfl|rfl|rfl|rfl<;>omega));simp only[ak,aL] at hc3;obtain⟨va3,vc3,rfl⟩:=Ki T)
  try gi_wp2
  refine⟨hk3.trans (ZU.setCell _ _ _ (λhr=>by rcases hr with e|e|e|e<;>(have e:w.heap.size=_:=e;omega))),_,J.set 0 _,?_,hb3.setCell (p:=⟨w.heap.size,0,none⟩) (aP _) _⟩;have e2:(A++[x]).map ZM=pm++[ZM x]:=HX.2;rw[HX.out.1,e2];exact VR T (λe=>by have:=(T.lt _ e).1;omega)
 case done=>
  rintro xs W hS ⟨v,hblk,C,U⟩ hK;have k0:=hblk.e0;have HS:=aT hS;clear hS
  gi_wp2
  refine⟨jS,.inl ⟨_,_,rfl,axg hK,?_⟩⟩;refine⟨v,?_,v,xs,rfl,HS,?_,U.trans (belowK_b (w:=w) (aP _) _ w1.heap.size _ (.deferred none) jO hK rfl rfl)⟩;·simp[results,Tryz.f176,go_sem]
  ·have:=Ze C (show w.heap.size<=w.heap.size+4 from jO);refine⟨this.1,?_⟩;rcases this.2 with h2|⟨k,cap,cur,h1,h2,h3,h4⟩;·exact .inl h2
   ·refine .inr ⟨k,cap,cur,h1,h2,?_,h4⟩;show(W.heap.setIfInBounds w1.heap.size _)[k]? =_;rw[aie (by have:=C.lt k (by rw[h1];rfl);omega)];exact h3
 case stop=>
  rintro c A W hS h hK;exact h.elim
theorem Gt{B:Nat}{D:DataW Unit}(U:Maps.size D<=1000000)(w:World)(I:Z8 w Bm 133 #[.map (some B)])(A:w.ownsMap prog 53 Rc B nn D):
 Calls prog 106 #[.func (.func 108) #[] #[.pointer (some ⟨Bm,0,none⟩)]] w (MK D w):=by
 have J:=aT (DM U w I A);clear I A;go_enter func106,ntmps106;go_wp2_with fail;refine J.mono ?_;rintro e Y ⟨v,xs,rfl,hS,C,hb⟩;have T:=aT (And.intro hS (And.intro C hb));clear hS C hb J;go_wp2_with fail;go_ret;exact⟨v,xs,rfl,T⟩
theorem aY {e:TypeId} (hb:w.heap[g]? =some (.cells cur e (0,0)))(ht:cur.toList.take ss.length=ss.map ZM):Sort.Holds ZM w g 0 ss.toArray:=by
 intro j D;have A:j<ss.length:=by simpa using D
 refine⟨?_,by simp[World.frozen?,hb]⟩;have C:(cur.toList.take ss.length)[j]? =(ss.map ZM)[j]? :=by rw[ht]
 rw[List.getElem?_take_of_lt A] at C;simp only[World.cell?,hb,adf];simp only[Option.isSome_none,Bool.false_eq_true,if_false];rw[<-aga,C];simp[A]
theorem aj2 {n:Nat}{os:Array Obj} {e:TypeId}(d:Array Nat)(hb:w.heap[g]? =some (.cells cur e (0,0))):(Sort.grow (Sort.putRow ZM (Sort.ahead w n) g 0 d) os).heap[g]? =some (.cells (Sort.putCells ZM 0 d cur) e (0,0)):=by
 have A:g<w.heap.size:=(aab.1 hb).1;rw[Sort.heap_grow_old _ _ (by simpa using A)];simp[Sort.putRow,Sort.mapBlock,Sort.ahead,ala,hb,onCells]
theorem aX {n:Nat}{os:Array Obj}(d:Array Nat):w.grownBy (Sort.grow (Sort.putRow ZM (Sort.ahead w n) g 0 d) os) (some g):=by
 refine⟨rfl,rfl,rfl,jS,λk hk A=> ?_⟩;rw[Sort.heap_grow_old _ _ (by simpa using hk)];have:g≠k:=λe=>A (by rw[e])
 simp[Sort.putRow,Sort.mapBlock,Sort.ahead,ala,this]
theorem DK {cap n k:Nat}{e:TypeId}{os:Array Obj} {d:Array Nat}(hl:d.size=n)(A:base<=g)(hb:w.heap[g]? =some (.cells cur e (0,0)))(I:n<=cap)(D:cap<=maxLen)(J:cur.size=cap*1):(Sort.grow (Sort.putRow ZM (Sort.ahead w k) g 0 d) os).ownsRow base e 1 (.slice (some ⟨g,0,none⟩) n cap) n (d.toList.map ZM):=by
 refine⟨by simp[hl],.inr ⟨g,cap,_,rfl,A,aj2 _ hb,I,D,by simp[Sort.putCells,J],?_⟩⟩;rw[aqc];apply agb;intro j;by_cases C:j<n;·rw[List.getElem?_take_of_lt C,aga];simp[Sort.putCells,hl,C,show j<cur.size from jO]
 ·rw[List.getElem?_take_eq_none jO,ahg (by simp;omega)]
theorem DJ {B:Nat}{b:List (Nat×Nat)}(h:ZB W B (QO b))(hk:b.Pairwise (λp q=>p.1≠q.1))(hb:∀p∈b,p.1<4294967296/\p.2≠0)(hl:b.length<=1000000)(hne:b≠[]):
 Calls prog 56 #[.func (.func 108) #[] #[.pointer (some ⟨W.heap.size,0,none⟩)]] (W.alloc (.cells #[.map (some B)] 133)) λe w'=>∃v cs,e=.returned v/\cs.Perm (b.map (·.1))/\w'.ownsRow W.heap.size 53 1 v cs.length (VG cs)/\Below W.heap.size W w':=by
 have hSl:(QO b).length=b.length:=by unfold QO;rw[aac]
 obtain⟨DL,D,hD⟩:=(h.alloc (.cells #[.map (some B)] 133)).owns (P:=prog) (k:=53) (λp hp=>by obtain⟨q,hq,rfl⟩:=ah.1 hp;exact xV (hb q hq).1) (by rw[hSl];unfold maxLen;omega)
 have hDs:Maps.size (.map DL)=b.length:=by show DL.length=_;rw[hD.length_eq,aac,hSl]
 have HC:=aT (Gt (by rw[hDs];exact hl) _ (Z8.new W _ _) D);have hb1:Below W.heap.size W (W.alloc (.cells #[.map (some B)] 133)):=fH W _;have HP:Hid (∀ss:List Nat,Su (.map DL) (λ_=>false) ss->ss.Perm (b.map (·.1))):=λss hs=>hs.perm (λ_=>rfl) hD hk hb
 have I:=aT hb1;clear D hD hDs h hb1;go_enter func56,ntmps56;generalize W.alloc (.cells #[.map (some B)] 133)=W1 at*;go_wp2_with fail;refine HC.mono ?_;rintro e w2 ⟨v,xs,rfl,hS,C,hb2⟩;have Y:=HP xs hS;have bZ:xs.length<=1000000:=by rw[Y.length_eq,aac];exact hl
 have J:=aT Y;have X1:=aT (I.trans (hb2.mono I.size));have hs1:=I.size;clear hS hb2 HC HP Y;rcases C.2 with⟨rfl,hz⟩|⟨gb,cap,cur,rfl,A,T,r1,r2,r3,r4⟩
 ·have hx0:xs=[]:=aof hz;subst hx0;exact absurd (List.map_eq_nil_iff.1 (List.nil_perm.1 J)) hne
 ·have hH:Sort.Holds ZM w2 gb 0 xs.toArray:=aY T (by simpa using r4)
  have hx1:0<xs.length:=by rw[J.out.length_eq,aac];exact ayb.2 hne
  obtain⟨n,hn⟩:=jX xs.length;rw[hn] at bZ hx1 r1 ⊢;have HSo:=aT (vR (cap:=cap) hH (n:=n) (by rw[<-hn];simp) bZ hx1);have HN:=aT hn;have HG:=aT T;clear hH C r4 hn T;go_wp2_with fail;refine HSo.mono ?_;rintro e w3 ⟨v,d',rfl,rfl,⟨⟨_,k3,os3,U⟩,_,Z,hp',_⟩⟩;have uq:Hid (w3.ownsRow W.heap.size 53 1 (.slice (some ⟨gb,0,none⟩) n cap) n (d'.toList.map ZM)):=by rw[U];exact DK Z (aO hs1 A) HG r1 r2 r3
  have Ul:Hid (Below W.heap.size W w3):=by rw[U];exact X1.grown (aX d') X1.size (λk e=>by cases e;exact aO hs1 A)
  have HD:Hid (d'.toList.length=n/\d'.toList.Perm (b.map (·.1))):=⟨by rw[ang];exact Z,hp'.trans J⟩;clear U Z hp' HG;go_wp2_with fail;go_ret;refine⟨_,d'.toList,rfl,HD.2,?_,Ul⟩;rw[HD.out.1,vE];exact uq
end Go.Proofs.YtclgigmgbebhgaaGreatDoor
namespace Go.Proofs.YtclgigmgbebhgaaGreatDoor
open Tryz
open Go Go.Proofs Go.RowKit Go.Maps Go.WideMaps Go.ChangeMaps
def aI(i:Nat):Nat:=if i=0 then 0 else i+1
def jQ(i:Nat):Nat:=if i=0 then RV else if i=1 then QR else if i=2 then QQ else QP
theorem aW{i:Nat}(hi:i<4)(w:World):Calls prog 48 #[.int .i64 (aI i:Int)] w λe w'=>(∃nm bit bits,e=.returned (.tuple #[.agg #[.string nm,.int .u32 (jQ i:Int),.bool bit,.int .i64 bits],.int .i64 0]))/\Below w.heap.size w w':=by
 refine(GI (aI i:Int) w).mono ?_;rintro e w' ⟨rfl,hb⟩;refine⟨?_,hb⟩;rcases (show i=0\/i=1\/i=2\/i=3 from jO) with rfl|rfl|rfl|rfl;·exact⟨r0.name,r0.bit,r0.bits,rfl⟩
 ·exact⟨r2.name,r2.bit,r2.bits,rfl⟩
 ·exact⟨r3.name,r3.bit,r3.bits,rfl⟩
 ·exact⟨r4.name,r4.bit,r4.bits,rfl⟩
def Sj(i:Nat):List (Value×Value):=(List.range i).map λj=>(.int .i64 (aI j:Int),.int .i64 ((j:Int)+1))
theorem vB(i:Nat):Sj (i+1)=Sj i++[(.int .i64 (aI i:Int),.int .i64 ((i:Int)+1))]:=by
 unfold Sj;rw[amf,adb];rfl
theorem qw{i j:Nat}(h:j<i):(Value.int .i64 (aI j:Int),Value.int .i64 ((j:Int)+1))∈Sj i:=ah.2 ⟨j,aib.2 h,rfl⟩
theorem qu{i j:Nat}(h:aI i=aI j):i=j:=by unfold aI at h;split at h<;>split at h<;>omega
theorem qq{i:Nat}(h:i<=5):aI i<=6:=by unfold aI;split<;>omega
theorem DI{i:Nat}(hi:i<=5):∀p∈Sj i,∃l,keyOf prog 3 p.1=some l:=λp hp=>by
 obtain⟨j,A,rfl⟩:=ah.1 hp;have:=qq (i:=j) (by have:=aib.1 A;omega);exact Pg _ jO
theorem Bi(i:Nat):(Sj i).Pairwise (λp q=>p.1≠q.1):=by
 unfold Sj;rw[afa];refine List.nodup_range.imp (λ{a b} A e=> ?_);injection e with _ e;exact A (qu jO)
theorem DG{W:World}{B i j:Nat}(h:ZB W B (Sj i))(hi:i<=5)(A:j<i):(Instr.lookup 140 (.map (some B)) (.int .i64 (aI j:Int)) false).run prog W=.ok (.int .i64 ((j:Int)+1)) W:=
 Xu underlying140 Wi h (DI hi) (Pg _ (by have:=qq (i:=j) jO;omega)) (qw A) (Bi i)
theorem jP{W:World}{B i:Nat}(h:ZB W B (Sj i))(hi:i<5):∃W',(Instr.mapUpdate 140 (.map (some B)) (.int .i64 (aI i:Int)) (.int .i64 ((i:Int)+1))).run prog W=.ok () W'/\ZB W' B (Sj (i+1))/\W.grownBy W' (some B):=by
 rw[vB];refine Vq underlying140 Wi h (DI jO) (Pg _ (by have:=qq (i:=i) jO;omega)) (λp hp e=> ?_) _;obtain⟨j,A,rfl⟩:=ah.1 hp;have:=aib.1 A;injection e with _ e;have:=qu (show aI j=aI i from jO);omega
def Py(i:Nat):G:=⟨ins 0x20 4 0 0::(List.range i).map (λj=>ins 0x15 (jQ j) ((j:Int)+1) 0),i,[]⟩
theorem jN:Py 4=Lu:=rfl
theorem Bh(i:Nat):Py (i+1)=(Py i).mark.put [ins 0x15 (jQ i) ((i:Int)+1) 0]:=by
 unfold Py G.put G.mark;rw[amf,adb];rfl
theorem qp(i:Nat):Wl (Py i):=⟨List.Pairwise.nil,λp hp=>(by cases hp),abb _⟩
structure U4(N M Bm Bt P0:Nat)(q:Ya)(es:Nat->List (Nat×List Z3))(s0 s1:List (Nat×Nat))(w0 W:World)(v:Value)(g:G)(S:List (Value×Value)):Prop where
 Xj:Zl w0.heap.size M Bm W v g
 Zs:Below w0.heap.size w0 W
 pl:Z8 W P0 Xy (ZA q)
 tk:ZB W Bt S
 pk:Uv N W q es s0 s1
 ok:Wl g
 ne:Bt≠M/\Bt≠Bm/\w0.heap.size<=Bt
 hN:N<=w0.heap.size
section
variable {N M Bm Bt P0:Nat} {q:Ya} {es:Nat->List (Nat×List Z3)} {s0 s1:List (Nat×Nat)} {w0 W W':World} {v:Value} {g:G} {S:List (Value×Value)}
theorem Yh.av2{LO:Nat}(f:Yh LO M Bm W W')(h:ZB W Bt S)(C:Bt≠M)(A:Bt≠Bm):ZB W' Bt S:=by
 obtain⟨es,c,hb,D⟩:=h;exact⟨es,c,f.2.2 Bt _ hb C A (λcs f e=>by cases e),D⟩
theorem U4.BQ{v':Value}{g':G}(h:U4 N M Bm Bt P0 q es s0 s1 w0 W v g S)(f:Yh w0.heap.size M Bm W W')(hm:Zl w0.heap.size M Bm W' v' g')(ho:Wl g'):U4 N M Bm Bt P0 q es s0 s1 w0 W' v' g' S:=
 ⟨hm,h.Zs.trans f.1,f.Yz h.Xj h.pl jD jD,f.av2 h.tk h.ne.1 h.ne.2.1,h.pk.below f.1 h.hN,ho,h.ne,h.hN⟩
theorem U4.bl(h:U4 N M Bm Bt P0 q es s0 s1 w0 W v g S)(hb:Below W.heap.size W W'):U4 N M Bm Bt P0 q es s0 s1 w0 W' v g S:=
 ⟨h.Xj.Zs hb,h.Zs.trans (hb.mono h.Zs.size),h.pl.below hb h.pl.lt,h.tk.below hb h.tk.lt,h.pk.below hb (aO h.hN h.Zs.size),h.ok,h.ne,h.hN⟩
theorem U4.alloc(h:U4 N M Bm Bt P0 q es s0 s1 w0 W v g S)(o:Obj):U4 N M Bm Bt P0 q es s0 s1 w0 (W.alloc o) v g S:=h.bl ((aG _ W).alloc (aP _) o)
theorem U4.tok{S':List (Value×Value)}(h:U4 N M Bm Bt P0 q es s0 s1 w0 W v g S)(A:W.grownBy W' (some Bt))(hm:ZB W' Bt S'):U4 N M Bm Bt P0 q es s0 s1 w0 W' v g S':=by
 have hb:Below w0.heap.size W W':=(aG _ W).grown A h.Zs.size (λk e=>by have:=au e;have:=h.ne.2.2;omega);refine⟨⟨h.Xj.blk.kept A (λe=>h.ne.1 (au e).symm),h.Xj.own.kept A (.inr (Lq h.Xj.own h.tk)),h.Xj.map.kept A (λe=>h.ne.2.1 (au e).symm),h.Xj.lo⟩,h.Zs.trans hb,h.pl.kept A (λe=>Wd h.pl h.tk (au e)),hm,h.pk.below hb h.hN,h.ok,h.ne,h.hN⟩
theorem U4.lo(h:U4 N M Bm Bt P0 q es s0 s1 w0 W v g S):w0.heap.size<=W.heap.size:=h.Zs.size
end
theorem av3{i:Nat}(hi:i<4):(#[Value.int .i64 0,.int .i64 2,.int .i64 3,.int .i64 4]:Array Value)[i]? =some (.int .i64 (aI i:Int)):=by
 rcases (show i=0\/i=1\/i=2\/i=3 from jO) with rfl|rfl|rfl|rfl<;>rfl
def gN(p:YH):Nat->G
 |0=>XK
 |1=>gA p
 |2=>gB p
 |3=>gC p
 |_=>gD p
def PC(es:Nat->List (Nat×List Z3))(s0 s1:List (Nat×Nat))(a:Nat)(l:List (Nat×ZO)):Prop:=l.Perm (Z1 a (es a) s0 s1)/\l.Pairwise (λx y=>x.1<y.1)
def PR(q:Ya)(es:Nat->List (Nat×List Z3))(s0 s1:List (Nat×Nat))(i:Nat)(p:YH):Prop:=
 p.d=q.d/\p.Vy=q.x/\(0<i->PC es s0 s1 0 p.p0/\((q.x=true->p.p1.Perm (Z1 1 (es 1) s0 s1))/\(q.x=false->p.p1=[])/\p.p1.Pairwise (λx y=>x.1<y.1)))/\(1<i->PC es s0 s1 2 p.p2)/\(2<i->PC es s0 s1 3 p.p3)/\(3<i->PC es s0 s1 4 p.p4)
theorem vA:look (Lu.goes Zo).b Zo=5:=jD
theorem jM:([0,2,3,4]:List Int).mergeSort leI=[0,2,3,4]:=by
 first
  |exact List.mergeSort_of_pairwise jD
  |exact List.CO jD
theorem av4{i:Nat}(hi:i<4):(([0,2,3,4]:List Int).map encZ)[i]? =some (.int .i64 (aI i:Int)):=by
 rcases (show i=0\/i=1\/i=2\/i=3 from jO) with rfl|rfl|rfl|rfl<;>rfl
theorem DF:∀{b:List (Nat×Nat)} {p:Nat×Nat},(∀p∈b,p.2≠0)->p∈b->look b p.1≠0:=λ{b p} hz hp e=>Xt hz e p hp rfl
theorem qo{p:YH}(A:Wl (gD p)){cs:List Nat}(h:cs.Perm ((gD p).b.map (·.1))):OU p cs:=by
 refine⟨h.nodup_iff.2 (afa.2 A.keys),λc=> ?_⟩;rw[h.mem_iff,ah];constructor;·rintro⟨q,C,rfl⟩;exact DF (λp hp=>(A.FY p hp).2) C
 ·intro hc;exact⟨_,Ln hc,rfl⟩
theorem DD(b:List (Nat×Nat)){cs:List Nat}{i c:Nat}(h:cs[i]? =some c):Zx b (cs.take (i+1))=Zx b (cs.take i)++[Zr (look b c),ins 0x06 c 0 0]:=by
 unfold Zx;rw[afb,h,aca];rfl
theorem Tl(b:List (Nat×Nat)):∀cs:List Nat,(Zx b cs).length=2*cs.length
 |[]=>rfl
 |c::cs=>by have:=Tl b cs;unfold Zx at*;rw[acb,ay,this];simp only[aj,acg];omega
theorem jL{q:Ya}{es:Nat->List (Nat×List Z3)}{s0 s1:List (Nat×Nat)}{i:Nat}{p:YH}{ps:List (Nat×ZO)}(hi:0<i)(Z:i<4)(h:PR q es s0 s1 i p)(A:PC es s0 s1 (i+1) ps):∃J,PR q es s0 s1 (i+1) J/\Za q.d ps (Vr (i+1) (gN p i))=gN J (i+1):=by
 obtain⟨C,D,I,T,U,Y⟩:=h;rcases (show i=1\/i=2\/i=3 from jO) with rfl|rfl|rfl;·exact⟨{p with p2:=ps},⟨C,D,λ_=>I jD,λ_=>A,λh=>absurd h jD,λh=>absurd h jD⟩,by rw[<-C];rfl⟩
 ·exact⟨{p with p3:=ps},⟨C,D,λ_=>I jD,λ_=>T jD,λ_=>A,λh=>absurd h jD⟩,by rw[<-C];rfl⟩
 ·exact⟨{p with p4:=ps},⟨C,D,λ_=>I jD,λ_=>T jD,λ_=>U jD,λ_=>A⟩,by rw[<-C];rfl⟩
def qm(q:Ya)(es:Nat->List (Nat×List Z3))(s0 s1:List (Nat×Nat))(w:World):Ending->World->Prop:=λe w'=>∃(v:Value) (p:YH) (cs:List Nat),e=.returned v/\p.d=q.d/\p.Vy=q.x/\
     (p.p0.Perm (Z1 0 (es 0) s0 s1)/\p.p0.Pairwise (λx y=>x.1<y.1))/\((q.x=true->p.p1.Perm (Z1 1 (es 1) s0 s1))/\(q.x=false->p.p1=[])/\p.p1.Pairwise (λx y=>x.1<y.1))/\(p.p2.Perm (Z1 2 (es 2) s0 s1)/\p.p2.Pairwise (λx y=>x.1<y.1))/\(p.p3.Perm (Z1 3 (es 3) s0 s1)/\p.p3.Pairwise (λx y=>x.1<y.1))/\(p.p4.Perm (Z1 4 (es 4) s0 s1)/\p.p4.Pairwise (λx y=>x.1<y.1))/\
     OU p cs/\(∀c∈cs,c<4294967296)/\(ZN p cs).length<=1000000/\(ZN p cs).length<=80+2*T6 p/\w'.ownsRow w.heap.size Wm 5 v (ZN p cs).length (XX (ZN p cs))/\Below w.heap.size w w'
theorem vz{N:Nat}{q:Ya}{es:Nat->List (Nat×List Z3)}{s0 s1:List (Nat×Nat)}(w:World)(hp:Uv N w q es s0 s1)(hN:N<=w.heap.size)(hk:∀a,a<5->ZX (Z1 a (es a) s0 s1)<=10000):
 Calls prog 24 #[.agg (ZA q)] w (qm q es s0 s1 w):=by
 have JO:= @apb prog;have HK:=aT hk;have HPK:=aT hp;have HN:=aT hN;clear hk hp hN;unfold ZA VO at*;go_enter func24,ntmps24;go_upto_region 2 with fail;have hP1:Z8 (((w.alloc (.cells #[.int .u32 q.d,.bool q.x,.slice q.e0.1 q.e0.2.1 q.e0.2.2,.slice q.e1.1 q.e1.2.1 q.e1.2.2,.slice q.e2.1 q.e2.2.1 q.e2.2.2,.slice q.e3.1 q.e3.2.1 q.e3.2.2,.slice q.e4.1 q.e4.2.1 q.e4.2.2,.slice q.s0.1 q.s0.2.1 q.s0.2.2,.slice q.s1.1 q.s1.2.1 q.s1.2.2] Xy)).alloc (.map #[] 0)).alloc (.cells #[.slice none 0 0,.int .i64 0,.map (some (w.heap.size+1))] FZ)) w.heap.size Xy #[.int .u32 q.d,.bool q.x,.slice q.e0.1 q.e0.2.1 q.e0.2.2,.slice q.e1.1 q.e1.2.1 q.e1.2.2,.slice q.e2.1 q.e2.2.1 q.e2.2.2,.slice q.e3.1 q.e3.2.1 q.e3.2.2,.slice q.e4.1 q.e4.2.1 q.e4.2.2,.slice q.s0.1 q.s0.2.1 q.s0.2.2,.slice q.s1.1 q.s1.2.1 q.s1.2.2]:=((Z8.new w _ _).alloc _).alloc _;have mz:ZB (((w.alloc (.cells #[.int .u32 q.d,.bool q.x,.slice q.e0.1 q.e0.2.1 q.e0.2.2,.slice q.e1.1 q.e1.2.1 q.e1.2.2,.slice q.e2.1 q.e2.2.1 q.e2.2.2,.slice q.e3.1 q.e3.2.1 q.e3.2.2,.slice q.e4.1 q.e4.2.1 q.e4.2.2,.slice q.s0.1 q.s0.2.1 q.s0.2.2,.slice q.s1.1 q.s1.2.1 q.s1.2.2] Xy)).alloc (.map #[] 0)).alloc (.cells #[.slice none 0 0,.int .i64 0,.map (some (w.heap.size+1))] FZ)) (w.heap.size+1) []:=by have:=(ZB.made (w.alloc (.cells #[.int .u32 q.d,.bool q.x,.slice q.e0.1 q.e0.2.1 q.e0.2.2,.slice q.e1.1 q.e1.2.1 q.e1.2.2,.slice q.e2.1 q.e2.2.1 q.e2.2.2,.slice q.e3.1 q.e3.2.1 q.e3.2.2,.slice q.e4.1 q.e4.2.1 q.e4.2.2,.slice q.s0.1 q.s0.2.1 q.s0.2.2,.slice q.s1.1 q.s1.2.1 q.s1.2.2] Xy))).alloc (.cells #[.slice none 0 0,.int .i64 0,.map (some (w.heap.size+1))] FZ);rwa [ai] at this
 have hK1:Z8 (((w.alloc (.cells #[.int .u32 q.d,.bool q.x,.slice q.e0.1 q.e0.2.1 q.e0.2.2,.slice q.e1.1 q.e1.2.1 q.e1.2.2,.slice q.e2.1 q.e2.2.1 q.e2.2.2,.slice q.e3.1 q.e3.2.1 q.e3.2.2,.slice q.e4.1 q.e4.2.1 q.e4.2.2,.slice q.s0.1 q.s0.2.1 q.s0.2.2,.slice q.s1.1 q.s1.2.1 q.s1.2.2] Xy)).alloc (.map #[] 0)).alloc (.cells #[.slice none 0 0,.int .i64 0,.map (some (w.heap.size+1))] FZ)) (w.heap.size+1+1) FZ #[.slice none 0 0,.int .i64 0,.map (some (w.heap.size+1))]:=by have:=Z8.new ((w.alloc (.cells #[.int .u32 q.d,.bool q.x,.slice q.e0.1 q.e0.2.1 q.e0.2.2,.slice q.e1.1 q.e1.2.1 q.e1.2.2,.slice q.e2.1 q.e2.2.1 q.e2.2.2,.slice q.e3.1 q.e3.2.1 q.e3.2.2,.slice q.e4.1 q.e4.2.1 q.e4.2.2,.slice q.s0.1 q.s0.2.1 q.s0.2.2,.slice q.s1.1 q.s1.2.1 q.s1.2.2] Xy)).alloc (.map #[] 0)) FZ #[.slice none 0 0,.int .i64 0,.map (some (w.heap.size+1))];rwa [ai,ai] at this
 have mU:Below w.heap.size w (((w.alloc (.cells #[.int .u32 q.d,.bool q.x,.slice q.e0.1 q.e0.2.1 q.e0.2.2,.slice q.e1.1 q.e1.2.1 q.e1.2.2,.slice q.e2.1 q.e2.2.1 q.e2.2.2,.slice q.e3.1 q.e3.2.1 q.e3.2.2,.slice q.e4.1 q.e4.2.1 q.e4.2.2,.slice q.s0.1 q.s0.2.1 q.s0.2.2,.slice q.s1.1 q.s1.2.1 q.s1.2.2] Xy)).alloc (.map #[] 0)).alloc (.cells #[.slice none 0 0,.int .i64 0,.map (some (w.heap.size+1))] FZ)):=(((aG w.heap.size w).alloc (aP _) _).alloc (by rw[ai];omega) _).alloc (by rw[ai,ai];omega) _;generalize ((w.alloc (.cells #[.int .u32 q.d,.bool q.x,.slice q.e0.1 q.e0.2.1 q.e0.2.2,.slice q.e1.1 q.e1.2.1 q.e1.2.2,.slice q.e2.1 q.e2.2.1 q.e2.2.2,.slice q.e3.1 q.e3.2.1 q.e3.2.2,.slice q.e4.1 q.e4.2.1 q.e4.2.2,.slice q.s0.1 q.s0.2.1 q.s0.2.2,.slice q.s1.1 q.s1.2.1 q.s1.2.2] Xy)).alloc (.map #[] 0)).alloc (.cells #[.slice none 0 0,.int .i64 0,.map (some (w.heap.size+1))] FZ)=w1 at*;have hlM:w.heap.size<=w.heap.size+1+1:=jO;have hlB:w.heap.size<=w.heap.size+1:=jO;generalize w.heap.size+1+1=M at*;generalize w.heap.size+1=Bm at*;have HH:Hid (Zl w.heap.size M Bm w1 (.slice none 0 0) ⟨[],0,[]⟩):=⟨hK1,Yg _ _ _ _,mz,hlM,hlB⟩;have HP1:Hid (Z8 w1 w.heap.size Xy #[.int .u32 q.d,.bool q.x,.slice q.e0.1 q.e0.2.1 q.e0.2.2,.slice q.e1.1 q.e1.2.1 q.e1.2.2,.slice q.e2.1 q.e2.2.1 q.e2.2.2,.slice q.e3.1 q.e3.2.1 q.e3.2.2,.slice q.e4.1 q.e4.2.1 q.e4.2.2,.slice q.s0.1 q.s0.2.1 q.s0.2.2,.slice q.s1.1 q.s1.2.1 q.s1.2.2]):=hP1;have Ue:=aT mU;have Nk:=mU.size;clear hP1 mz hK1 mU
 go_wp2_with (refine Great.wpList_buildSliceTo rfl 79 Wm 1 _ rfl _ rfl _ rfl underlying79 #[.int .i64 0,.int .u16 32,.int .u32 4,.int .i64 0,.int .i64 0] jK ?_)
 refine(Y0 (xs:=[ins 0x20 4 0 0]) w1 HH rfl rfl jD Nk).mono ?_;rintro e w2 ⟨rfl,v2,h2,f2⟩;have hI:U4 N M Bm w2.heap.size w.heap.size q es s0 s1 w (w2.alloc (.map #[] 0)) v2 (Py 0) (Sj 0):=by
  have hb:Below w.heap.size w w2:=Ue.trans f2.1;refine⟨h2.al _,hb.alloc hb.size _,(f2.Yz HH HP1 jD jD).alloc _,ZB.made w2,(HPK.below hb HN).below ((aG _ w2).alloc (aP _) _) (aO HN hb.size),qp 0,⟨?_,?_,hb.size⟩,HN⟩;·have:=h2.blk.lt;omega
  ·have:=h2.map.lt;omega
 have C:=aT hI;clear h2 f2 HH HP1 Ue hI;go_upto_region 4 with fail;generalize w2.alloc (.map #[] 0)=w3 at*;generalize w2.heap.size=Bt at*;have HI4:=aT (C.alloc (.cells #[.int .i64 0,.int .i64 2,.int .i64 3,.int .i64 4] 3));have HL4:=aT (Z8.new w3 3 #[.int .i64 0,.int .i64 2,.int .i64 3,.int .i64 4]);go_upto_region 5 with(refine Great.wpList_buildSliceTo rfl 94 3 4 _ rfl _ rfl _ rfl underlying94 #[.int .i64 0,.int .i64 2,.int .i64 3,.int .i64 4] jK ?_)
 generalize w3.alloc (.cells #[.int .i64 0,.int .i64 2,.int .i64 3,.int .i64 4] 3)=w4 at*;generalize w3.heap.size=BL at*;clear C;go_loopg [23] 5 (λgg iv wr=>∃(i:Nat) (v':Value),i<=4/\4-i<gg/\iv=.int .i64 (i:Int)/\Hid (U4 N M Bm Bt w.heap.size q es s0 s1 w wr v' (Py i) (Sj i))/\Hid (Z8 wr BL 3 #[.int .i64 0,.int .i64 2,.int .i64 3,.int .i64 4]));case atStart=>exact⟨0,v2,jO,jO,rfl,HI4,HL4⟩
 case round=>
  obtain⟨i,v',hi4,VM,rfl,C,aV⟩:=hrel;clear HI4 HL4;have i0:=jZ i;by_cases hlt:i<4
  ·have Zc:(i:Int)<4:=by omega
   have y0:wr.cell? ⟨BL,i,none⟩=some (.int .i64 (aI i:Int)):=(aV.cell i).trans (av3 hlt);have iw:=jW i;obtain⟨A,hA⟩:=jX (aI i);rw[hA] at y0;have HA:=aT hA;have IM:=aT (aW hlt wr);rw[hA] at IM;clear hA;go_wp2_with fail;refine IM.mono ?_;rintro e w5 ⟨⟨nm,bit,bits,rfl⟩,yD⟩;obtain⟨T,hT⟩:=jX (jQ i);rw[hT];have HT:=aT hT;have Y:=aT ((C.bl yD).alloc (.cells #[.string nm,.int .u32 T,.bool bit,.int .i64 bits] 142));have aj3:=aT ((aV.below yD aV.lt).alloc (.cells #[.string nm,.int .u32 T,.bool bit,.int .i64 bits] 142));have CT:=aT (Z8.new w5 142 #[.string nm,.int .u32 T,.bool bit,.int .i64 bits]);clear hT yD IM C aV y0;go_upto_region 8 with fail;generalize w5.alloc (.cells #[.string nm,.int .u32 T,.bool bit,.int .i64 bits] 142)=w6 at*;generalize w5.heap.size=B6 at*;have HMK:Hid (Calls prog 49 #[.pointer (some ⟨M,0,none⟩)] w6 λe w'=>e=.returned (.int .i64 ((i:Int)+1))/\Zl w.heap.size M Bm w' v' (Py i).mark/\Yh w.heap.size M Bm w6 w'):=Vp w6 Y.Xj (by show i+1<=_;omega);go_wp2_with fail;refine HMK.mono ?_;rintro e w7 ⟨rfl,h7,f7⟩;have hI7:=Y.BQ f7 h7 Y.ok.mark;obtain⟨w8,u8,m8,g8⟩:=jP hI7.tk jO;have hI8:=hI7.tok g8 m8;rw[HA.out] at u8;have Uw:=f7.Yz Y.Xj CT jD jD;have z1:w8.cell? ⟨B6,1,none⟩=some (.int .u32 T):=by have:=(Uw.kept g8 (λe=>Wd Uw hI7.tk (au e))).cell 1;simpa using this
   have aU:=f7.Yz Y.Xj aj3 jD jD;have aj4:=aT (aU.kept g8 (λe=>Wd aU hI7.tk (au e)));have lk:=DG hI8.tk jO (amg i);rw[HA.out] at lk;have U:=aT hI8;have ql:=hI8.lo;clear h7 f7 hI7 m8 g8 hI8 Uw aU HMK Y aj3 CT
   go_wp2_with (refine Great.wpList_buildSliceTo rfl 79 Wm 1 _ rfl _ rfl _ rfl underlying79 #[.int .i64 0,.int .u16 21,.int .u32 T,.int .i64 ((i:Int)+1),.int .i64 0] jK ?_)
   refine(Y0 (xs:=[ins 0x15 T ((i:Int)+1) 0]) w8 U.Xj rfl rfl (by show((Py i).l.length+1<=_);simp[Py];omega) ql).mono ?_;rintro e w9 ⟨rfl,v9,h9,f9⟩;have hI9:=U.BQ f9 h9 (U.ok.put _);have av5:=aT (f9.Yz U.Xj aj4 jD jD);rw[<-HT.out,<-Bh] at hI9;have D:=aT hI9;clear h9 f9 hI9 U aj4 u8 lk z1 ql;go_wp2_with fail;go_roundg (4-i);case measure=>omega
   case rel=>exact⟨i+1,v9,jO,jO,by go_num,D,av5⟩
  ·obtain rfl:i=4:=by omega
   have Zc:¬(((4:Nat):Int)<4):=jO;rw[jN] at C;clear aV;have OO:=C.lo;go_wp2_with fail;refine(Ud (c:=Zo) wr C.Xj C.ok jD jD OO).mono ?_;rintro e w5 ⟨rfl,h5,f5⟩;have Y:=aT (C.BQ f5 h5 (C.ok.goes jD));have EM:=Y.lo;rw[vA];clear h5 f5 C OO
   go_wp2_with (refine Great.wpList_buildSliceTo rfl 79 Wm 1 _ rfl _ rfl _ rfl underlying79 #[.int .i64 0,.int .u16 5,.int .u32 0,.int .i64 5,.int .i64 0] jK ?_)
   refine(Y0 (xs:=[ins 0x05 0 5 0]) w5 Y.Xj rfl rfl jD EM).mono ?_;rintro e w6 ⟨rfl,v6,h6,f6⟩;have gL:=Y.BQ f6 h6 (Y.ok.put _);have cf:Hid (U4 N M Bm Bt w.heap.size q es s0 s1 w w6 v6 XK (Sj 4)):=gL;clear h6 f6 gL Y EM;have HKY:=aT (wR (some Bt) w6);have HSO:=aT (Eg (ks:=[0,2,3,4]) cf.tk rfl jD jD);rw[jM] at HSO;go_wp2_with fail;refine HKY.mono ?_;rintro e w7 ⟨rfl,rfl⟩;go_wp2_with fail;refine HSO.mono ?_;rintro e w7 ⟨vs,rfl,J,Uw⟩;obtain⟨gS,cS,rfl,_,_⟩:=World.ownsRow.form J jD;have HI7:=aT (cf.bl Uw);have HRW:=aT (Ze J cf.lo);clear J Uw HKY HSO cf;go_upto_region 13 with fail;go_loopg [56] 5 (λgg iv wq=>∃(i:Nat) (v':Value) (g':G) (p:YH),i<=4/\4-i<gg/\iv=.int .i64 (i:Int)/\Hid (U4 N M Bm Bt w.heap.size q es s0 s1 w wq v' g' (Sj 4))/\Hid (wq.ownsRow w.heap.size 3 1 (.slice (some ⟨gS,0,none⟩) 4 cS) 4 (([0,2,3,4]:List Int).map encZ))/\Hid (PR q es s0 s1 i p)/\Hid (g'=gN p i)/\Hid (g'.sz<=20+i*22000));case atStart=>exact⟨0,v6,XK,⟨q.x,q.d,[],[],[],[],[]⟩,jO,jO,rfl,HI7,HRW,⟨rfl,rfl,λh=>absurd h jD,λh=>absurd h jD,λh=>absurd h jD,λh=>absurd h jD⟩,rfl,(show XK.sz<=20 from jD)⟩
   case round=>
    obtain⟨i,v',g',p,hi4,VM,rfl,C,Bg,HPR,HGN,fG⟩:=hrel;clear HI7 HRW;have i0:=jZ i;by_cases hlt:i<4
    ·have Zc:(i:Int)<4:=by omega
     have y0:wr.cell? ⟨gS,i,none⟩=some (.int .i64 (aI i:Int)):=(Bg.cellAt i jO).trans (av4 hlt);obtain⟨A,hA⟩:=jX (aI i);have lk:=DG C.tk jO hlt;rw[hA] at y0 lk;have HA:=aT hA;clear hA;have hsz:=fG.out;have hg1:g'.l.length+1<=1000000:=by unfold G.sz at hsz;omega
     have hg2:(g'.here (i+1)).l.length+1<=1000000:=by have:=UW g' (i+1);unfold G.sz at this hsz;omega
     have NL:=C.lo;go_wp2_with fail;refine(Ua (m:=i) wr C.Xj hg1 NL).mono ?_;rintro e w8 ⟨rfl,v8,h8,f8⟩;have U:=aT (C.BQ f8 h8 (C.ok.here _));have gj:=aT (f8.T4 C.Xj Bg jD jD);have ql:=U.lo;clear h8 f8 C Bg y0 lk NL hg1
     go_wp2_with (refine Great.wpList_buildSliceTo rfl 79 Wm 1 _ rfl _ rfl _ rfl underlying79 #[.int .i64 0,.int .u16 32,.int .u32 0,.int .i64 0,.int .i64 0] jK ?_)
     refine(Y0 (xs:=[ins 0x20 0 0 0]) w8 U.Xj rfl rfl hg2 ql).mono ?_;rintro e w9 ⟨rfl,v9,h9,f9⟩;have hI9:U4 N M Bm Bt w.heap.size q es s0 s1 w w9 v9 (Vr (i+1) g') (Sj 4):=U.BQ f9 h9 (U.ok.put _);have D:=aT hI9;have HR9:=aT (f9.T4 U.Xj gj jD jD);have aj5:=D.lo;have hst:=tF (i+1) g';clear h9 f9 hI9 U gj ql hg2;obtain⟨c0,c1,c2,c3,c4,c5,c6,c7,c8⟩:=KE D.pl;have iw:=jW i;by_cases tH:i=0
     ·subst tH;obtain rfl:A=0:=HA.out.symm;have hk0:=HK 0 jD;have uz:=HK 1 jD;have HX:=aT (kL w9 D.pk D.Xj D.ok jO HN aj5);unfold ZA VO at HX;go_wp2_with fail;refine HX.mono ?_;rintro e w10 ⟨rfl,v10,p0,p1,a1,a2,b1,b2,b3,h10,f10,o10⟩;have aa0:=aT (D.BQ f10 h10 o10);have aa1:=aT (f10.T4 D.Xj HR9 jD jD)
      have qj:(UD q.x q.d p0 p1 (Vr 1 g')).sz<=20+1*22000:=by
       have h1:=tG q.x q.d p0 p1 (Vr 1 g');have e0:=Y8 a1;have e1:ZX p1<=10000:=by
        cases hx:q.x with
        |true=>rw[Y8 (b1 hx)];exact uz
        |false=>rw[b2 hx];decide
       simp only[Nat.zero_mul,aec] at hsz;rw[show(0+1)=1 from rfl] at hst;omega
      have qh:Hid (PR q es s0 s1 1 ⟨q.x,q.d,p0,p1,[],[],[]⟩):=⟨rfl,rfl,λ_=>⟨⟨a1,a2⟩,b1,b2,b3⟩,λh=>absurd h jD,λh=>absurd h jD,λh=>absurd h jD⟩;have aa2:Hid (UD q.x q.d p0 p1 (Vr 1 g')=gN ⟨q.x,q.d,p0,p1,[],[],[]⟩ 1):=by rw[show g'=XK from HGN.out];rfl
      have aa3:=aT qj;clear h10 f10 o10 a1 a2 b1 b2 b3 HX D HR9 c0 c1 c2 c3 c4 c5 c6 c7 c8 qj hst;go_wp2_with fail;go_roundg (4-0);case measure=>omega
      case rel=>exact⟨1,v10,_,_,jO,jO,by go_num,aa0,aa1,qh,aa2,aa3⟩
     ·have hAi:A=i+1:=by rw[<-HA.out];unfold aI;rw[aN tH]
      have um:A<5:=jO;have haz:((A:Int) == 0)=false:=by rw[af];omega
      have HAI:=aT hAi;have hka:=HK A um;have HX:=aT (Ol w9 D.pk um D.Xj D.ok jO HN aj5);unfold ZA VO at HX;clear hAi;go_wp2_with fail;refine HX.mono ?_;rintro e w10 ⟨rfl,v10,ps,a1,a2,h10,f10,o10⟩;have aa0:=aT (D.BQ f10 h10 o10);have aa1:=aT (f10.T4 D.Xj HR9 jD jD);have qj:(Za q.d ps (Vr (i+1) g')).sz<=20+(i+1)*22000:=by have h1:=WI q.d ps (Vr (i+1) g');have e0:=Y8 a1;omega
      rw[HAI.out] at a1;obtain⟨p',mS,ui⟩:=jL jO hlt HPR (ps:=ps) ⟨a1,a2⟩;rw[<-HGN.out] at ui;have qh:=aT mS;have aa2:=aT ui;have aa3:=aT qj;clear h10 f10 o10 a1 a2 HX D HR9 c0 c1 c2 c3 c4 c5 c6 c7 c8 qj hst mS ui;go_wp2_with fail;go_roundg (4-i);case measure=>omega
      case rel=>exact⟨i+1,v10,_,p',jO,jO,by go_num,aa0,aa1,qh,aa2,aa3⟩
    ·obtain rfl:i=4:=by omega
     have Zc:¬(((4:Nat):Int)<4):=jO;have hgd:g'=gD p:=HGN;subst hgd;have hsz:=fG.out;unfold G.sz at hsz;have mC:=C.ok;have hbl:(gD p).b.length<=100000:=by have:=mC.len;omega
     have HSO:=aT (DJ C.Xj.map mC.keys mC.FY jO (by
      have h1:=OV.2.2;obtain⟨_,_,_,_,l1,l2,l3,l4⟩:=Uh p;have h2:=(((l1.trans l2).trans l3).trans l4).b _ h1;have hk:look (gD p).b Zo≠0:=by rw[h2];exact h1
      intro e;exact hk (by rw[e];rfl)))
     have HKY:=aT (vD (some Bm) wr);have m2:wr.cell? ⟨M,2,none⟩=some (.map (some Bm)):=by simpa using C.out.Xj.blk.cell 2
     have aV:=aT hbl;clear mC;go_wp2_with fail;refine HKY.mono ?_;rintro e w11 ⟨rfl,rfl⟩;go_wp2_with fail;refine HSO.mono ?_;rintro e w11 ⟨vc,cs,rfl,FU,J,aj6⟩;obtain⟨K,hK⟩:=jX cs.length;have hKb:K<=100000:=by have:=FU.length_eq;rw[aac] at this;have:=aV.out;omega
     rw[hK] at J;obtain⟨ka,kc,rfl⟩:=ZK J;have aj7:=aT (C.bl aj6);have aj8:=aT (Ze J C.lo);have mX:=aT FU;have HKK:=aT hK;have I:Hid (U4 N M Bm Bt w.heap.size q es s0 s1 w w11 v' ⟨(gD p).l++Zx (gD p).b (cs.take 0),(gD p).n,(gD p).b⟩ (Sj 4)):=by
      have h:=aj7.out;rw[show(⟨(gD p).l++Zx (gD p).b (cs.take 0),(gD p).n,(gD p).b⟩:G)=gD p by rw[List.take_zero];show G.mk ((gD p).l++[]) _ _=_;rw[ade]]
      exact h
     clear FU hK J aj6 HKY HSO C m2 Bg aj7;go_upto_region 22 with fail;go_loopg [86] (K+1) (λgg iv wq=>∃(i:Nat) (v':Value),i<=K/\K-i<gg/\iv=.int .i64 (i:Int)/\Hid (U4 N M Bm Bt w.heap.size q es s0 s1 w wq v' ⟨(gD p).l++Zx (gD p).b (cs.take i),(gD p).n,(gD p).b⟩ (Sj 4))/\Hid (wq.ownsRow w.heap.size 53 1 (.slice ka K kc) K (VG cs)));case atStart=>exact⟨0,v',jO,jO,rfl,I,aj8⟩
     case round=>
      obtain⟨i,v3,hiK,af8,rfl,C,Bg⟩:=hrel;clear I aj8;have j0:=jZ i;by_cases hlt:i<K
      ·have qg:(i:Int)<(K:Int):=by omega
       obtain⟨c,hc⟩:∃c,cs[i]? =some c:=⟨_,aM (by rw[HKK.out];exact hlt)⟩;obtain⟨kg,rfl,BM,I9⟩:=Ye (λn:Nat=>[Value.int .u32 n]) 1 (λ_=>rfl) HKK Bg hc;have y0:=I9 0 jD;simp only[aqc,aec,aL] at y0;have hcm:c∈(gD p).b.map (·.1):=mX.mem_iff.1 (ag hc);obtain⟨pp,hpp,hpc⟩:=ah.1 hcm;have av6:c<4294967296:=by rw[<-hpc];exact(C.ok.FY pp hpp).1
       have m2:wr.cell? ⟨M,2,none⟩=some (.map (some Bm)):=by simpa using C.out.Xj.blk.cell 2
       have lk:=Ll C.Xj.map C.ok.keys C.ok.FY av6;dsimp only at lk;have tL:=aT (DD (gD p).b hc);obtain⟨LK,hLK⟩:=jX (look (gD p).b c);rw[hLK] at lk tL;have hl1:((gD p).l++Zx (gD p).b (cs.take i)).length+2<=1000000:=by rw[ay,Tl,abg];omega
       have NL:=C.lo;have dW:=aT hl1;clear I9 hc hcm hpp hpc hLK hl1;go_wp2_with fail;refine(Lk (m:=LK) wr C.Xj (by have:=dW.out;show((gD p).l++Zx (gD p).b (cs.take i)).length+1<=_;omega) NL).mono ?_;rintro e w12 ⟨rfl,v12,h12,f12⟩;have I:=aT (C.BQ f12 h12 (C.ok.here _));have aj9:=aT (f12.T4 C.Xj Bg jD jD);have fF:=I.lo;clear h12 f12 C Bg m2 lk y0 NL
       go_wp2_with (refine Great.wpList_buildSliceTo rfl 79 Wm 1 _ rfl _ rfl _ rfl underlying79 #[.int .i64 0,.int .u16 6,.int .u32 c,.int .i64 0,.int .i64 0] jK ?_)
       refine(Y0 (xs:=[ins 0x06 c 0 0]) w12 I.Xj rfl rfl (by show(((gD p).l++Zx (gD p).b (cs.take i))++[Zr (LK:Int)]).length+1<=_;have:=dW.out;rw[ay];show((gD p).l++Zx (gD p).b (cs.take i)).length+1+1<=_;omega) fF).mono ?_;rintro e w13 ⟨rfl,v13,h13,f13⟩;have ak0:=I.BQ f13 h13 (I.ok.put _);have av7:Hid (U4 N M Bm Bt w.heap.size q es s0 s1 w w13 v13 ⟨(gD p).l++Zx (gD p).b (cs.take (i+1)),(gD p).n,(gD p).b⟩ (Sj 4)):=by
        rw[show(⟨(gD p).l++Zx (gD p).b (cs.take (i+1)),(gD p).n,(gD p).b⟩:G)=((⟨(gD p).l++Zx (gD p).b (cs.take i),(gD p).n,(gD p).b⟩:G).here LK).put [ins 0x06 c 0 0] by rw[tL.out];unfold G.here G.put;simp only[aba];rfl]
        exact ak0
       have av8:=aT (f13.T4 I.Xj aj9 jD jD);have iw:=jW i;clear h13 f13 ak0 I aj9 fF dW;go_wp2_with fail;go_roundg (K-i);case measure=>omega
       case rel=>exact⟨i+1,v13,jO,jO,by go_num,av7,av8⟩
      ·obtain rfl:i=K:=by omega
       have qg:¬(i:Int)<(i:Int):=jO;have m0:wr.cell? ⟨M,0,none⟩=some v3:=by simpa using C.out.Xj.blk.cell 0
       have Z:(gD p).l++Zx (gD p).b (cs.take i)=ZN p cs:=by rw[abd (by rw[HKK.out];exact aP _)];rfl
       have hlen:(ZN p cs).length<=1000000:=by rw[<-Z,ay,Tl,abg];omega
       have fE:(ZN p cs).length<=80+2*T6 p:=by have z1:=ae3 p;have z2:(gD p).b.length<=(gD p).n:=C.ok.len;have z3:=mX.length_eq;rw[aac] at z3;rw[<-Z,ay,Tl,abg];unfold G.sz at z1;omega
       have HIT:=aT Z;have HLN:=aT hlen;have HL2:=aT fE;clear Z hlen fE Bg;go_wp2_with fail;go_ret;have hown:=C.Xj.own;dsimp only at hown;rw[HIT.out] at hown;obtain⟨a1,a2,a3,a4,a5,a6⟩:=HPR.out;exact⟨_,p,cs,rfl,a1,a2,(a3 jD).1,(a3 jD).2,a4 jD,a5 jD,a6 jD,qo (by
        have h:=C.ok;exact⟨h.keys,h.FY,h.len⟩) mX,(λc hc=>by
        obtain⟨q,hq,rfl⟩:=ah.1 (mX.mem_iff.1 hc);exact(C.ok.FY q hq).1),HLN,HL2,hown,C.Zs⟩
end Go.Proofs.YtclgigmgbebhgaaGreatDoor
namespace Go.Proofs.YtclgigmgbebhgaaGreatDoor
open Tryz
open Go Go.Proofs Go.RowKit
theorem MJ:∀l:List Z3,(YJ l).length<=l.length
 |[]=>aP _
 |(cs,code)::r=>by
  have A:=MJ r;unfold YJ;split;·rw[aj];omega
  ·rw[aj,aj,acg];omega
  ·rw[aj,aj];omega
theorem Iw:∀l:List Z3,(UX l).length<=l.length
 |[]=>aP _
 |(cs,code)::r=>by
  have A:=Iw r;unfold UX;split;·rw[aj,aj,acg];omega
  ·rw[aj,aj];omega
theorem Kh:∀l:List Z3,∀r∈YJ l,∃q∈l,r.1.length<=q.1.length/\r.2=q.2
 |[],r,h=>by cases h
 |(cs,code)::l,r,h=>by
  have D:=Kh l;unfold YJ at h;split at h;·obtain⟨q,C,A⟩:=D r h;exact⟨q,by simp[C],A⟩
  ·rw[aaa.1 h];exact⟨(cs,code),jS,abb _,rfl⟩
  ·rename_i ns I;rcases abf.1 h with rfl|h;·exact⟨(cs,code),jS,TD jA,rfl⟩
   ·obtain⟨q,C,A⟩:=D r h;exact⟨q,by simp[C],A⟩
theorem yC(a d:Nat)(g:List Z3):(Yt a d g).length<=g.length:=by
 unfold Yt strike;rw[ava];have h:=(List.dropWhile_suffix (λr:Z3=>r.2 == d) (l:=(if a=2 then YJ g else UX g).reverse)).length_le;rw[ava] at h;have C:=MJ g;have A:=Iw g;split at h<;>split<;>omega
theorem Bf{a d:Nat}{g:List Z3}{r:Z3}(h:r∈Yt a d g):∃q∈g,r.1.length<=q.1.length/\r.2=q.2:=by
 have hm:=KU (V2 d _ (if a=2 then YJ g else UX g) (aP _)) r h;split at hm;·exact Kh g r hm
 ·exact⟨r,Nx g r hm,aP _,rfl⟩
theorem N8{C:Nat}:∀rs:List Z3,(∀r∈rs,r.1.length<=C)->We rs<=1+rs.length*(8*C+4)
 |[],_=>by show 1<=1+_;omega
 |r::rs,h=>by have D:=N8 rs (λq A=>h q (by simp[A]));have I:=h r jS;unfold We;rw[aj,arb,Nat.one_mul];omega
theorem Px:∀xs ys:List (Nat×ZO),ZX (xs++ys)+2=ZX xs+ZX ys
 |[],ys=>by show ZX ys+2=2+ZX ys;omega
 |x::xs,ys=>by have A:=Px xs ys;show 6+Xz x.2+ZX (xs++ys)+2=6+Xz x.2+ZX xs+ZX ys;omega
theorem MI{C a:Nat}:∀es:List Xp,(∀e∈es,∀r∈e.2,r.1.length<=C)->ZX (es.map (VD a))<=2+7*es.length+(es.map (λe=>e.2.length)).sum*(8*C+4)
 |[],_=>by show 2<=_;omega
 |e::es,h=>by have D:=MI (a:=a) es (λq A=>h q (by simp[A]));have I:=N8 e.2 (h e jS);rw[aed,aed,ajf,aj,arb];show 6+We e.2+ZX (es.map (VD a))<=_;omega
theorem yB:∀{l:List Nat} {x:Nat},x∈l->x<=l.sum
 |[],x,h=>by cases h
 |y::l,x,h=>by
  rw[ajf];rcases abf.1 h with rfl|h;·omega
  ·have:=yB h;omega
theorem qf{l l':List Nat}(h:l.Perm l'):l.sum=l'.sum:=by
 induction h with
 |nil=>rfl
 |cons x _ D=>rw[ajf,ajf,D]
 |swap x y l=>rw[ajf,ajf,ajf,ajf];omega
 |trans _ _ C A=>rw[C,A]
section
variable {l:List Z4.Z0} {dn:List (ByteArray×List Z3)} {x:Bool} {d a m:Nat}
theorem Iu:∀dn:List (ByteArray×List Z3),((Xx x d l dn a).map (λe=>e.2.length)).sum<=(dn.map (λg=>g.2.length)).sum
 |[]=>aP _
 |g::dn=>by
  have A:=Iu dn;unfold Xx at A ⊢;rw[acb,adb,List.sum_append,aed,ajf];have:((Y7 x d (YP l g.1).num g.2 a).map (λe=>e.2.length)).sum<=g.2.length:=by
   have h:=yC a d g.2;unfold Y7;split;·exact abb _
   ·split;·exact abb _
    ·split;·exact abb _
     ·simpa using h
  omega
theorem yA:∀dn:List (ByteArray×List Z3),(∀g∈dn,g.2≠[])->dn.length<=(dn.map (λg=>g.2.length)).sum
 |[],_=>aP _
 |g::dn,h=>by have C:=yA dn (λq A=>h q (by simp[A]));have D:=ayb.2 (h g jS);rw[aj,aed,ajf];omega
theorem Be{C M:Nat}{es:List Xp}{s0 s1:List (Nat×Nat)}(hp:es.Perm (Xx x d l dn a))(U:∀g∈dn,∀r∈g.2,r.1.length<=C)(I:(dn.map (λg=>g.2.length)).sum<=M)(hl:dn.length<=M)(h0:s0.length<=M)(Y:s1.length<=M):ZX (Z1 a es s0 s1)<=18+17*M+M*(8*C+4):=by
 have e1:=MI (C:=C) (a:=a) es (λe T r hr=>by obtain⟨g,J,_,_,_,rfl⟩:=V5.1 (hp.mem_iff.1 T);obtain⟨q,D,A,_⟩:=Bf hr;exact aO A (U g J q D))
 have e2:es.length<=M:=by rw[hp.length_eq];exact aO (Q1 x d l dn a) hl
 have e3:(es.map (λe=>e.2.length)).sum<=M:=by rw[qf (hp.map _)];exact aO (Iu dn) I
 have e4:=aub (8*C+4) e3;have e5:=Px (es.map (VD a)) (if a=2 then [(102,.subs s0),(117,.subs s1)] else []);have Z:ZX (if a=2 then [(102,ZO.subs s0),(117,ZO.subs s1)] else [])<=18+5*s0.length+5*s1.length:=by
  split;·show 6+(5*s0.length+2)+(6+(5*s1.length+2)+2)<=_;omega
  ·show 2<=_;omega
 unfold Z1;omega
theorem vy{es:List Xp}{s0 s1:List (Nat×Nat)}(D:Z4.Zv l)(A:MP l dn)(hn:(dn.map (·.1)).Nodup)(ha:a<5)(hp:es.Perm (Xx x d l dn a)):((Z1 a es s0 s1).map (·.1)).Nodup:=by
 have I:(es.map (·.1)).Nodup:=afa.2 (hp.symm.pairwise (vW D A hn ha) (λh e=>h e.symm));unfold Z1;rw[adb,akb];have e:es.map ((·.1)∘VD a)=es.map (·.1):=rfl;rw[e];split
 ·rename_i J;refine atf.2 ⟨I,jS,λu hu v hv C=> ?_⟩;subst C;obtain⟨q,T,rfl⟩:=ah.1 hu;obtain⟨g,Y,U,_,_,rfl⟩:=V5.1 (hp.mem_iff.1 T);obtain⟨i,hi,e1,_⟩:=Kt (A g Y);have hm:=(Z4.cT (D i hi)).2.2.2.1;rw[<-e1] at hm;unfold Z4.SA at hm;subst J;have e2:(YP l g.1).num 2=(YP l g.1).n2:=rfl;have e3:whole 2 ((YP l g.1).num 2).toNat=((YP l g.1).num 2).toNat:=rfl;rw[e2] at U;simp only[aed,ard,abf,akf,auf] at hv;rw[e3,e2] at hv;rcases hv with hv|hv;·exact hm (.inl jO)
  ·exact hm (.inr jO)
 ·simpa using I
end
structure Vf(pr:List NR)(l:List Z4.Z0)(d:Nat)(x:Bool)(dn:List (ByteArray×List Z3))(es:Nat->List Xp)(s0 s1:List (Nat×Nat)):Prop where
 vx:DnF pr d dn
 tab:Z4.Zv l
 all:MP l dn
 kM:∀a,a<5->(es a).Perm (Xx x d l dn a)
 m0:s0.Perm (WY l dn 0)
 m1:s1.Perm (WY l dn 1)
 r0:SE s0
 r1:SE s1
 d32:d<4294967296
section
variable {pr:List NR} {l:List Z4.Z0} {d:Nat} {x:Bool} {dn:List (ByteArray×List Z3)} {es:Nat->List Xp} {s0 s1:List (Nat×Nat)}
theorem Vf.jJ(h:Vf pr l d x dn es s0 s1):dn.length<=pr.length:=aO (yA dn h.vx.ne) h.vx.cnt
theorem Vf.cost{C:Nat}(h:Vf pr l d x dn es s0 s1)(J:∀q∈pr,q.cs.length<=C){a:Nat}(ha:a<5):ZX (Z1 a (es a) s0 s1)<=18+17*pr.length+pr.length*(8*C+4):=by
 refine Be (h.kM a ha) (λg A r hr=> ?_) h.vx.cnt h.jJ ?_ ?_;·obtain⟨q,I,D⟩:=h.vx.cs g A r hr;exact aO D (J q I)
 ·rw[h.m0.length_eq];exact aO (Vx l dn 0) h.jJ
 ·rw[h.m1.length_eq];exact aO (Vx l dn 1) h.jJ
theorem LC(h:Vf pr l d x dn es s0 s1){m:Nat}:∀p∈WY l dn m,p.1<4294967296/\p.2<4294967296:=λp hp=>by
 unfold WY at hp;obtain⟨g,A,hp⟩:=aqe.1 hp;obtain⟨_,rfl⟩:=Rp hp;have C:=(Q2 h.tab g.1).2.2.2.2;have D:=(Q2 h.tab g.1).2.2.2.1;refine⟨by show(YP l g.1).sub.toNat<_;omega,?_⟩;cases hr:g.2[0]? with
 |none=>show(0:Nat)<_;decide
 |some r=>exact h.vx.code g A r (ag hr)
theorem qc{l:List Z4.Z0}(A:Z4.Zv l)(nm:ByteArray){a:Nat}(ha:a<5)(C:0<=(YP l nm).num a):whole a ((YP l nm).num a).toNat<4294967296:=by
 have:=(Q2 A nm).1 a ha;unfold whole Wj;split<;>omega
theorem Ir(h:Vf pr l d x dn es s0 s1){a:Nat}(ha:a<5):∀e∈es a,e.1<4294967296/\Pf e.2:=λe D=>by
 obtain⟨g,A,C,_,_,rfl⟩:=V5.1 ((h.kM a ha).mem_iff.1 D);refine⟨qc h.tab g.1 ha C,λr hr=>⟨?_,?_⟩⟩;·obtain⟨q,I,_,e2⟩:=Bf hr;rw[e2];exact h.vx.code g A q I
 ·exact(KT (h.vx.rules g A)).2 r hr
theorem Gs{lo:Nat}{W:World}{v:Value}{l:List Xp}(h:RD lo W v l):WK W.heap.size W v l:=by
 obtain⟨ds,rfl,A⟩:=h;obtain⟨a,c,rfl⟩:=ZY A.row;refine⟨a,c,by rw[aac],λi e C=> ?_⟩;rw[ada] at C;obtain⟨y,hy,rfl⟩:=Option.map_eq_some_iff.1 C;obtain⟨g,e1,_,hc⟩:=Ye JJ 2 (λ_=>rfl) rfl A.row hy;have c0:=hc 0 jD;have c1:=hc 1 jD;refine⟨g,0,.slice y.a y.m y.c,e1,afg _ _ c0,by rw[adf];exact c0,by rw[adf];exact c1,(A.rs y (ag hy)).rules⟩
theorem Iq{lo:Nat}{W:World}{v:Value}{l:List (Nat×Nat)}(h:MS lo W v l):VI W.heap.size W v l:=by
 have A:W.ownsRow lo Oy 2 v l.length (l.flatMap encS):=h;obtain⟨a,c,rfl⟩:=ZY A;refine⟨a,c,rfl,λi e C=> ?_⟩;obtain⟨g,e1,_,hc⟩:=Ye encS 2 (λ_=>rfl) rfl A C;have c0:=hc 0 jD;have c1:=hc 1 jD;exact⟨g,0,e1,afg _ _ c0,by rw[adf];exact c0,by rw[adf];exact c1⟩
theorem Vf.ok{C:Nat}(h:Vf pr l d x dn es s0 s1)(hL:pr.length<=4000)(hC:∀q∈pr,q.cs.length<=C)(hCm:C<=1000000){N:Nat}{W:World}{q:Ya}(hd:q.d=d)(Y:∀a,a<5->WK N W (VO (q.e a)) (es a))(I:VI N W (VO q.s0) s0)(D:VI N W (VO q.s1) s1):Uv N W q es s0 s1:=by
 have hdl:=h.jJ;have A:∀a,a<5->(es a).length<=4000:=λa ha=>by rw[(h.kM a ha).length_eq];have:=Q1 x d l dn a;omega
 refine⟨by rw[hd];exact h.d32,Y,λa ha e T=> ?_,A,I,D,⟨?_,h.r0,λp hp=>(LC h p (h.m0.mem_iff.1 hp)).2⟩,⟨?_,h.r1,λp hp=>(LC h p (h.m1.mem_iff.1 hp)).2⟩,λa ha=>vy h.tab h.all h.vx.nodup ha (h.kM a ha)⟩
 ·obtain⟨Z,U⟩:=Ir h ha e T;obtain⟨g,J,g0,_,_,rfl⟩:=V5.1 ((h.kM a ha).mem_iff.1 T);refine⟨Z,U,?_,λr hr=> ?_⟩;·have e1:=yC a d g.2;have e2:g.2.length<=(dn.map (λg=>g.2.length)).sum:=yB (ah.2 ⟨g,J,rfl⟩);have e3:=h.vx.cnt;show(Yt a d g.2).length<=_;omega
  ·obtain⟨q,hq,e2,_⟩:=Bf hr;obtain⟨y,hy,e3⟩:=h.vx.cs g J q hq;have:=hC y hy;omega
 ·rw[h.m0.length_eq];have:=Vx l dn 0;omega
 ·rw[h.m1.length_eq];have:=Vx l dn 1;omega
theorem N7(h:Vf pr l d x dn es s0 s1){a:Nat}(ha:a<5){ps:List (Nat×ZO)}(hp:ps.Perm (Z1 a (es a) s0 s1)):Uq ps:=λp A=>by
 rcases GA.1 (hp.mem_iff.1 A) with⟨e,C,rfl⟩|⟨_,rfl|rfl⟩;·exact Ir h ha e C
 ·exact⟨(by show(102:Nat)<_;decide),λp hp=>LC h p (h.m0.mem_iff.1 hp)⟩
 ·exact⟨(by show(117:Nat)<_;decide),λp hp=>LC h p (h.m1.mem_iff.1 hp)⟩
theorem MH{p:YH}(h:Vf pr l d x dn es s0 s1)(hd:p.d=d)(hx:p.Vy=x)(I:p.p0.Perm (Z1 0 (es 0) s0 s1)/\p.p0.Pairwise (λx y=>x.1<y.1))(A:(x=true->p.p1.Perm (Z1 1 (es 1) s0 s1))/\(x=false->p.p1=[])/\p.p1.Pairwise (λx y=>x.1<y.1))(C:p.p2.Perm (Z1 2 (es 2) s0 s1)/\p.p2.Pairwise (λx y=>x.1<y.1))(J:p.p3.Perm (Z1 3 (es 3) s0 s1)/\p.p3.Pairwise (λx y=>x.1<y.1))(T:p.p4.Perm (Z1 4 (es 4) s0 s1)/\p.p4.Pairwise (λx y=>x.1<y.1)):
 Rz p (gsT l dn) s0 s1/\p.B:=by
 subst hd hx;have at_:∀{a:Nat} {ps:List (Nat×ZO)},a<5->ps.Perm (Z1 a (es a) s0 s1)->ps.Pairwise (λx y=>x.1<y.1)->UK p.Vy p.d (gsT l dn) s0 s1 a ps:=λ{a ps} ha A C=>qT (h.kM a ha) A C h.vx.rules h.r0 h.r1
 have U:WO p.p1/\Uq p.p1:=by
  cases hx:p.Vy with
  |true=>exact⟨(at_ jD (A.1 hx) A.2.2).1,N7 h jD (A.1 hx)⟩
  |false=>
   rw[A.2.1 hx];exact⟨⟨List.Pairwise.nil,λq D=>by cases D⟩,λq D=>by cases D⟩
 refine⟨⟨at_ jD I.1 I.2,λhx=>at_ jD (A.1 hx) A.2.2,U.1,at_ jD C.1 C.2,at_ jD J.1 J.2,at_ jD T.1 T.2,λG Z=> ?_⟩,N7 h jD I.1,U.2,N7 h jD C.1,N7 h jD J.1,N7 h jD T.1⟩;obtain⟨g,Y,rfl⟩:=ah.1 Z;exact h.vx.rules g Y
end
theorem qa{pr:List NR}{gs:List UL}{ss:List ByteArray}{k n:Int}{rn:List NR}(T:ss.Perm (gs.map (·.nm)))(I:gs.Pairwise (λx y=>x.nm≠y.nm))(C:Tu Yf pr gs)(J:Sk pr gs)(Y:ss.flatMap (TK k n gs)=rn)
 (hr:∀r∈pr,r.cs.length<=1000/\∀c∈r.cs,c.right) (ha:∀r∈pr,Yo.Zw r.k r.n=true):rn.length<=pr.length/\∀q∈rn,Yo.Zw q.k q.n=true/\q.cs.length<=1000/\∀c∈q.cs,c.m<YO/\c.v<YO:=by
 subst Y;have U:ss.Nodup:=T.nodup_iff.2 (afa.2 I);refine⟨?_,λq D=> ?_⟩;·rw[List.length_flatMap];refine aO (BS _ (λnm=>(ofName nm pr).length) ss (λnm _=> ?_)) (O7 ss pr U);have h1:=Ea k n gs nm;have h2:=IV (C nm);rw[aac,aac] at h2;omega
 ·obtain⟨nm,_,D⟩:=aqe.1 D;obtain⟨_,q2,A,_,h3,h4,h5⟩:=Ry J (Ts D);have Z:=ha q2 A;rw[h3,h4] at Z;refine⟨Z,aO h5 (hr q2 A).1,λc hc=> ?_⟩
  have hN:Uz ((X0 gs nm).map RA):=Ep (C nm) (λr h=>by obtain⟨y,hy,rfl⟩:=ah.1 h;exact(hr y (Rx hy)).2)
  have:=(hN (RA q) (List.mem_map_of_mem (Ts D)) c hc).1;exact⟨this.2.2.2.1,this.2.2.2.2⟩
theorem Ip{α:Type}{l:List α}{i j:Nat}{q:α}(C:i<=j)(A:l[j]? =some q):(l.drop i).take (j+1-i)=(l.drop i).take (j-i)++[q]:=by
 rw[show j+1-i=(j-i)+1 from jO,afb,avf,show i+(j-i)=j from jO,A];rfl
theorem take_split{α:Type}{l:List α}{i j:Nat}(A:i<=j):l.take j=l.take i++(l.drop i).take (j-i):=by
 rw[<-List.take_add]
 congr 1
 omega
section
variable {lo P R:Nat} {W W':World} {d:Nat} {x:Bool} {ve vs:Nat->Value} {E:Nat->List Xp} {S:Nat->List (Nat×Nat)}
theorem RD.vw{v:Value}{l:List Xp}{B t:Nat}{cs:Array Value}(h:RD lo W v l)(A:Z8 W B t cs)(D:OG≠t)(C:TQ≠t)(J:TC≠t)(j:Nat)(u:Value):RD lo (W.setCell ⟨B,j,none⟩ u) v l:=by
 obtain⟨es,e,T,I⟩:=h;exact⟨es,e,ZW T A D j u,λy hy=>(I y hy).set A C J j u⟩
theorem MS.vw{v:Value}{l:List (Nat×Nat)}{B t:Nat}{cs:Array Value}(h:MS lo W v l)(D:Z8 W B t cs)(C:Oy≠t)(j:Nat)(u:Value):MS lo (W.setCell ⟨B,j,none⟩ u) v l:=by
 have A:W.ownsRow lo Oy 2 v l.length (l.flatMap encS):=h;exact ZW A D C j u
structure Ss(lo:Nat)(W:World)(ve vs:Nat->Value)(E:Nat->List Xp)(S:Nat->List (Nat×Nat)):Prop where
 O8:∀a,a<5->RD lo W (ve a) (E a)
 subs:∀m,m<2->MS lo W (vs m) (S m)
theorem Ss.vw{B t:Nat}{cs:Array Value}(h:Ss lo W ve vs E S)(A:Z8 W B t cs)(D:OG≠t)(C:TQ≠t)(I:TC≠t)(J:Oy≠t)(j:Nat)(u:Value):Ss lo (W.setCell ⟨B,j,none⟩ u) ve vs E S:=⟨λa ha=>(h.O8 a ha).vw A D C I j u,λm hm=>(h.subs m hm).vw A J j u⟩
theorem Ss.set{B:Nat}{cs:Array Value}(h:Ss lo W ve vs E S)(A:Z8 W B Xy cs)(j:Nat)(u:Value):Ss lo (W.setCell ⟨B,j,none⟩ u) ve vs E S:=h.vw A jD jD jD jD j u
theorem Ss.p9{c0 c1 c2 c3 c4 c5 c6 c7 c8:Value}(h:Ss lo W ve vs E S)(hb:Z8 W R Xy #[c0,c1,c2,c3,c4,c5,c6,c7,c8])(Y I C J T U A D d8:Value):Ss lo (((((((((W.setCell ⟨R,0,none⟩ Y).setCell ⟨R,1,none⟩ I).setCell ⟨R,2,none⟩ C).setCell ⟨R,3,none⟩ J).setCell ⟨R,4,none⟩ T).setCell ⟨R,5,none⟩ U).setCell ⟨R,6,none⟩ A).setCell ⟨R,7,none⟩ D).setCell ⟨R,8,none⟩ d8) ve vs E S:=by
 have b0:=hb.set 0 Y;have b1:=b0.set 1 I;have b2:=b1.set 2 C;have Z:=b2.set 3 J;have b4:=Z.set 4 T;have b5:=b4.set 5 U;have b6:=b5.set 6 A;have b7:=b6.set 7 D;exact((((((((h.set hb 0 Y).set b0 1 I).set b1 2 C).set b2 3 J).set Z 4 T).set b4 5 U).set b5 6 A).set b6 7 D).set b7 8 d8
theorem Yy.rows(h:Yy lo P W d x ve vs E S):Ss lo W ve vs E S:=⟨h.O8,h.subs⟩
theorem Yy.ak1(h:Yy lo P W d x ve vs E S):∃q:Ya,q.d=d/\q.x=x/\Vj d x ve vs=ZA q/\(∀a,a<5->VO (q.e a)=ve a)/\VO q.s0=vs 0/\VO q.s1=vs 1:=by
 have A:∀a,a<5->∃t:Option Addr×Nat×Nat,VO t=ve a:=λa ha=>by obtain⟨es,_,I⟩:=h.O8 a ha;obtain⟨b,c,e⟩:=ZY I.row;exact⟨(b,es.length,c),e.symm⟩
 have hs:∀m,m<2->∃t:Option Addr×Nat×Nat,VO t=vs m:=λm hm=>by have Z:W.ownsRow lo Oy 2 (vs m) (S m).length ((S m).flatMap encS):=h.subs m hm;obtain⟨b,c,e⟩:=ZY Z;exact⟨(b,(S m).length,c),e.symm⟩
 obtain⟨U,e0⟩:=A 0 jD;obtain⟨t1,e1⟩:=A 1 jD;obtain⟨t2,e2⟩:=A 2 jD;obtain⟨T,e3⟩:=A 3 jD;obtain⟨t4,e4⟩:=A 4 jD;obtain⟨J,D⟩:=hs 0 jD;obtain⟨Y,C⟩:=hs 1 jD;refine⟨⟨d,x,U,t1,t2,T,t4,J,Y⟩,rfl,rfl,?_,λa ha=> ?_,D,C⟩;·unfold Vj ZA;rw[e0,e1,e2,e3,e4,D,C]
 ·rcases (show a=0\/a=1\/a=2\/a=3\/a=4 from jO) with rfl|rfl|rfl|rfl|rfl<;>assumption
theorem Yy.ak2(h:Yy lo P W d x ve vs E S){a:Nat}(ha:a<5){es es':List L3}(he:es.map (λy=>(y.n,y.rs))=E a)(I:kU lo W (ve a) es)(hp:es'.Perm es)(hO:W'.ownsRow lo OG 2 (ve a) es.length (es'.flatMap JJ))(hb:Below lo W W')(Y:W.heap.size<=W'.heap.size)(hk:∀j o,W.heap[j]? =some o->(ve a).ownBlock≠some j->W'.heap[j]? =some o):
 Yy lo P W' d x ve vs (Oq E a (es'.map (λy=>(y.n,y.rs)))) S/\Kept lo P W W':=by
 have J:W.grownBy W' (ve a).ownBlock:=⟨hb.os,hb.tape,hb.output,Y,λk U hne=>by have e:=aob U;rw[e];exact hk k _ e (λe2=>hne e2.symm)⟩
 have Z:Kept lo P W W':=Kept.grown h.lt I.row (.inl rfl) J;have hP':Z8 W' P Xy (Vj d x ve vs):=h.blk.kept J (λe=>Vi I.row h.blk jD e.symm);refine⟨⟨hP',h.lw,λb C=> ?_,λm hm=> ?_,h.mZ,h.mY⟩,Z⟩
 ·by_cases e:b=a;·subst e;rw[XU];refine⟨es',rfl,?_,λy hy=>Z.Ot (I.rs y (hp.mem_iff.1 hy))⟩;rw[hp.length_eq];exact hO
  ·rw[X9 _ _ e];obtain⟨T,e2,D,h2⟩:=h.O8 b C;refine⟨T,e2,D.kept J ?_,λy hy=>Z.Ot (h2 y hy)⟩;cases A:(ve a).ownBlock with
   |none=>cases (ve b).ownBlock<;>simp
   |some k=>exact .inr (h.mZ a b ha C (ana e) k A)
 ·have D:W.ownsRow lo Oy 2 (vs m) (S m).length ((S m).flatMap encS):=h.subs m hm;refine World.ownsRow.kept D J ?_;cases A:(ve a).ownBlock with
  |none=>cases (vs m).ownBlock<;>simp
  |some k=>
   obtain⟨cs,hc⟩:=Xr I.row A;exact .inr (Vi D hc jD)
theorem Yy.ak3(h:Yy lo P W d x ve vs E S){m:Nat}(hm:m<2){s':List (Nat×Nat)}(hp:s'.Perm (S m))(hO:W'.ownsRow lo Oy 2 (vs m) (S m).length (s'.flatMap encS))(hb:Below lo W W')(U:W.heap.size<=W'.heap.size)(hk:∀j o,W.heap[j]? =some o->(vs m).ownBlock≠some j->W'.heap[j]? =some o):
 Yy lo P W' d x ve vs E (Oq S m s')/\Kept lo P W W':=by
 have I:W.grownBy W' (vs m).ownBlock:=⟨hb.os,hb.tape,hb.output,U,λk T Y=>by have e:=aob T;rw[e];exact hk k _ e (λe2=>Y e2.symm)⟩
 have hS:W.ownsRow lo Oy 2 (vs m) (S m).length ((S m).flatMap encS):=h.subs m hm;have hK:Kept lo P W W':=Kept.grown h.lt hS (.inr rfl) I;have Z:Z8 W' P Xy (Vj d x ve vs):=h.blk.kept I (λe=>Vi hS h.blk jD e.symm);refine⟨⟨Z,h.lw,λb A=> ?_,λb A=> ?_,h.mZ,h.mY⟩,hK⟩
 ·obtain⟨J,e2,D,h2⟩:=h.O8 b A;refine⟨J,e2,D.kept I ?_,λy hy=>hK.Ot (h2 y hy)⟩;cases C:(vs m).ownBlock with
  |none=>cases (ve b).ownBlock<;>simp
  |some k=>
   obtain⟨cs,hc⟩:=Xr hS C;exact .inr (Vi D hc jD)
 ·by_cases e:b=m;·subst e;rw[XU];show World.ownsRow _ _ _ _ _ _ _;rw[hp.length_eq];exact hO
  ·rw[X9 _ _ e];have D:W.ownsRow lo Oy 2 (vs b) (S b).length ((S b).flatMap encS):=h.subs b A;refine World.ownsRow.kept D I ?_;cases C:(vs m).ownBlock with
   |none=>cases (vs b).ownBlock<;>simp
   |some k=>exact .inr (h.mY m b hm A (ana e) k C)
end
end Go.Proofs.YtclgigmgbebhgaaGreatDoor
