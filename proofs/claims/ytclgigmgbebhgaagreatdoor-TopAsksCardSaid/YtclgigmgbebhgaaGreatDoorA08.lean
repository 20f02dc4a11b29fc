/- TopAsks: part 8: TopN5 TopRes2 TopN6 TopMapS TopN7 TopRes3 TopResQ TopRes4 TopRes5. -/
import Derived.Deep.RegionLaw
import Derived.Test.YtclgigmgbebhgaaGreatDoorA07
set_option linter.unusedVariables false
set_option linter.unusedSimpArgs false
set_option maxRecDepth 100000
set_option maxHeartbeats 16000000
namespace Go.Proofs.YtclgigmgbebhgaaGreatDoor
open Tryz
open Go Go.Proofs Go.RowKit
variable {tmps:Array Value} {xs:List Value} {base s t R N L:Nat} {p:Nat->Bool} {a:Option Addr} {P:Prop} {W w w':World}
abbrev TR:Nat:=91
theorem UO{f:Z5->Yv}{c:Z5}:∀{l ls:List Z5},ZP f l=some ls->∀n,f c=.asks n->ZP f (l++[c])=some (ls++[n])
 |[],ls,h,n,hc=>by obtain rfl:=au h;show(match f c with | .never=>none | .always=>ZP f [] | .asks n=>(ZP f []).map (n::·))=_;rw[hc];rfl
 |x::l,ls,h,n,hc=>by
  have e:ZP f (x::l)=(match f x with | .never=>none | .always=>ZP f l | .asks n=>(ZP f l).map (n::·)):=rfl;show(match f x with | .never=>none | .always=>ZP f (l++[c]) | .asks n=>(ZP f (l++[c])).map (n::·))=_;rw[e] at h;cases hx:f x with
  |never=>rw[hx] at h;cases h
  |always=>rw[hx] at h;exact UO h n hc
  |asks m=>
   rw[hx] at h;dsimp only at h ⊢;cases hr:ZP f l with
   |none=>rw[hr] at h;cases h
   |some k=>
    rw[hr] at h;obtain rfl:=au h;rw[UO hr n hc];rfl
theorem UN{f:Z5->Yv}{c:Z5}:∀{l ls:List Z5},ZP f l=some ls->f c=.always->ZP f (l++[c])=some ls
 |[],ls,h,hc=>by show(match f c with | .never=>none | .always=>ZP f [] | .asks n=>(ZP f []).map (n::·))=_;rw[hc];exact h
 |x::l,ls,h,hc=>by
  have e:ZP f (x::l)=(match f x with | .never=>none | .always=>ZP f l | .asks n=>(ZP f l).map (n::·)):=rfl;show(match f x with | .never=>none | .always=>ZP f (l++[c]) | .asks n=>(ZP f (l++[c])).map (n::·))=_;rw[e] at h;cases hx:f x with
  |never=>rw[hx] at h;cases h
  |always=>rw[hx] at h;exact UN h hc
  |asks m=>
   rw[hx] at h;dsimp only at h ⊢;cases hr:ZP f l with
   |none=>rw[hr] at h;cases h
   |some k=>
    rw[hr] at h;rw[UN hr hc];exact h
theorem TE{f:Z5->Yv}:∀{l:List Z5} {c:Z5},c∈l->f c=.never->ZP f l=none
 |x::l,c,hm,hc=>by
  show(match f x with | .never=>none | .always=>ZP f l | .asks n=>(ZP f l).map (n::·))=_;rcases abf.1 hm with rfl|hm;·rw[hc]
  ·have A:=TE hm hc;rw[A];cases f x<;>rfl
theorem TD{f:Z5->Yv}:∀{l ls:List Z5},ZP f l=some ls->ls.length<=l.length
 |[],ls,h=>by obtain rfl:=au h;exact aP _
 |x::l,ls,h=>by
  have e:ZP f (x::l)=(match f x with | .never=>none | .always=>ZP f l | .asks n=>(ZP f l).map (n::·)):=rfl;rw[e] at h;cases hx:f x with
  |never=>rw[hx] at h;cases h
  |always=>rw[hx] at h;exact Nat.le_succ_of_le (TD h)
  |asks m=>
   rw[hx] at h;dsimp only at h;cases hr:ZP f l with
   |none=>rw[hr] at h;cases h
   |some k=>
    rw[hr] at h;obtain rfl:=au h;exact axb (TD hr)
theorem VT{α:Type}{l:List α}{i:Nat}{x:α}(h:l[i]? =some x):l.take (i+1)=l.take i++[x]:=by
 have hl:=aq.1 h;rw[List.take_succ_eq_append_getElem hl.1,hl.2]
theorem YZ {B e n:Nat}{v:Value} {cs:Array Value}(h:W.ownsRow base e s v n xs)(C:Z8 W B t cs)(ht:e≠t):v.ownBlock≠some B:=by
 rcases h.2 with⟨rfl,_⟩|⟨g,cap,D,rfl,_,A,_⟩;·intro e2;cases e2
 ·intro e2;have e3:g=B:=au e2;subst e3;have:=A.symm.trans C;simp only[aka,aye] at this;exact ht this.2.1
theorem ZY {e n:Nat}{v:Value} (h:W.ownsRow base e s v n xs):∃a c,v=.slice a n c:=by
 rcases h.2 with⟨rfl,C⟩|⟨g,cap,A,rfl,_⟩;·exact⟨none,0,by rw[C]⟩
 ·exact⟨_,_,rfl⟩
theorem ZW {B e n:Nat}{v:Value} {cs:Array Value}(h:W.ownsRow base e s v n xs)(C:Z8 W B t cs)(ht:e≠t)(j:Nat)(u:Value):(W.setCell ⟨B,j,none⟩ u).ownsRow base e s v n xs:=
 h.kept (row:=some B) ⟨rfl,rfl,rfl,jS,λk _ A=>afd W ⟨B,j,none⟩ u k (λe=>A (by rw[e]))⟩ (.inr (YZ h C ht))
theorem I8(ls:List Z5)(x:Z5):(ls++[x]).flatMap cL=ls.flatMap cL++cL x:=by rw[aca];simp
theorem GM:(prog.info? TC).map (λi=>(i.zero,i.size,i.bytes))=some (some (.agg #[.int .i64 0,.int .i64 0,.int .u64 0,.int .u64 0]),4,32):=jK
theorem PH{P:Program}{t:TypeId}{z:Value}{s b:Nat}(h:(P.info? t).map (λi=>(i.zero,i.size,i.bytes))=some (some z,s,b)):∃i,P.info? t=some i/\i.zero=some z/\i.size=s/\i.bytes=b:=by
 cases hi:P.info? t with
 |none=>rw[hi] at h;cases h
 |some i=>rw[hi] at h;simp at h;exact⟨i,rfl,h⟩
theorem Et{fn:Func}{t u:Tmp}(h:fn.results=#[.cell t TR,.tmp u]) {c0 c1 c2 c3:Value}(hb:Z8 W R TR #[c0,c1,c2,c3])(ht:tmps.getD t undef=.pointer (some ⟨R,0,none⟩)):(results fn tmps).run prog W=.ok (.tuple #[.agg #[c0,c1,c2,c3],tmps.getD u undef]) W:=by
 obtain⟨⟨e0,e1,e2,e3⟩,_⟩:=Z7 hb;rw[aja] at ht;simp[results,h,go_sem,ht,e0,e1,e2,e3]
def sP(cs:List Z5)(nm:ByteArray)(k n:Int)(w:World)(e:Ending)(w':World):Prop:=
 ((Uc cs none/\e=.returned (.tuple #[.agg #[.string ⟨#[]⟩,.int .i64 0,.int .i64 0,.slice none 0 0],.bool false]))\/
  (∃(v:Value) (ns:List Z5),Uc cs (some ns)/\ns.length<=cs.length/\e=.returned (.tuple #[.agg #[.string nm,.int .i64 k,.int .i64 n,v],.bool true])/\w'.ownsRow w.heap.size TC 4 v ns.length (ns.flatMap cL)))/\Below w.heap.size w w'
theorem xd {ua:Option Addr}{uc:Nat}{cs:List Z5}{nm:ByteArray}{k n:Int}(hL:cs.length=L)(XA:L<=1000)(hr:∀c∈cs,c.right)(w:World)(h:YX N w (.slice ua L uc) cs)(hN:N<=w.heap.size):
 Calls prog 86 #[.agg #[.string nm,.int .i64 k,.int .i64 n,.slice ua L uc]] w (sP cs nm k n w):=by
 have HL:=aT hL;have uv:=aT hr;have HM:=aT h;have HP:Hid (Z8 (((w.alloc (.cells #[.string nm,.int .i64 k,.int .i64 n,.slice ua L uc] TR)).alloc (.cells #[.string ⟨#[]⟩,.int .i64 0,.int .i64 0,.slice none 0 0] TR)).alloc (.cells #[.string nm,.int .i64 k,.int .i64 n,.slice none 0 0] TR)) w.heap.size TR #[.string nm,.int .i64 k,.int .i64 n,.slice ua L uc]):=((Z8.new w _ _).alloc _).alloc _;have HR:Hid (Z8 (((w.alloc (.cells #[.string nm,.int .i64 k,.int .i64 n,.slice ua L uc] TR)).alloc (.cells #[.string ⟨#[]⟩,.int .i64 0,.int .i64 0,.slice none 0 0] TR)).alloc (.cells #[.string nm,.int .i64 k,.int .i64 n,.slice none 0 0] TR)) (w.heap.size+1) TR #[.string ⟨#[]⟩,.int .i64 0,.int .i64 0,.slice none 0 0]):=(Z8.OE _ _ _ _).alloc _;have HO:Hid (Z8 (((w.alloc (.cells #[.string nm,.int .i64 k,.int .i64 n,.slice ua L uc] TR)).alloc (.cells #[.string ⟨#[]⟩,.int .i64 0,.int .i64 0,.slice none 0 0] TR)).alloc (.cells #[.string nm,.int .i64 k,.int .i64 n,.slice none 0 0] TR)) (w.heap.size+1+1) TR #[.string nm,.int .i64 k,.int .i64 n,.slice none 0 0]):=Z8.af0 _ _ _ _ _;have HB:=aT (af1 w (.cells #[.string nm,.int .i64 k,.int .i64 n,.slice ua L uc] TR) (.cells #[.string ⟨#[]⟩,.int .i64 0,.int .i64 0,.slice none 0 0] TR) (.cells #[.string nm,.int .i64 k,.int .i64 n,.slice none 0 0] TR));clear hL hr h;obtain⟨i0,XW,SC,Vo,TF⟩:=PH GM;go_enter func86,ntmps86;go_upto_region 2 with fail;generalize ((w.alloc (.cells #[.string nm,.int .i64 k,.int .i64 n,.slice ua L uc] TR)).alloc (.cells #[.string ⟨#[]⟩,.int .i64 0,.int .i64 0,.slice none 0 0] TR)).alloc (.cells #[.string nm,.int .i64 k,.int .i64 n,.slice none 0 0] TR)=w3 at*;obtain⟨⟨p0,p1,p2,p3⟩,_⟩:=Z7 HP;obtain⟨R,hR⟩:=jX (w.heap.size+1);obtain⟨O,hO⟩:=jX (w.heap.size+1+1);rw[hO] at HO ⊢;rw[hR] at HR ⊢;have ur:w.heap.size<R:=jO;have hRO:R<O:=jO;clear hR hO;go_upto_region 3 with fail;go_loopg [17] (L+1) (λgg iv wr=>∃(i:Nat) (v:Value) (ls:List Z5),i<=L/\L-i<gg/\iv=.int .i64 (i:Int)/\ls.length<=i/\Hid (Z8 wr R TR #[.string ⟨#[]⟩,.int .i64 0,.int .i64 0,.slice none 0 0])/\Hid (Z8 wr O TR #[.string nm,.int .i64 k,.int .i64 n,v])/\Hid (wr.ownsRow w.heap.size TC 4 v ls.length (ls.flatMap cL))/\Hid (ZP Xo (cs.take i)=some ls)/\Hid (Below w.heap.size w wr));case atStart=>exact⟨0,.slice none 0 0,[],abb _,jO,rfl,aP _,HR,HO,ane _ _ _ _,(by show _=_;rfl),HB⟩
 case round=>
  obtain⟨i,v,ls,tM,VM,rfl,hlen,HR,HO,HW,HA,HB⟩:=hrel;have Cq:=jZ i;have JS:=jW i;by_cases hlt:i<L
  ·have Zc:(i:Int)<(L:Int):=by omega
   obtain⟨c,hc⟩:∃c,cs[i]? =some c:=⟨_,aM (by rw[HL.out];exact hlt)⟩;obtain⟨ua2,uc2,e,hrow⟩:=HM.out;injection e with e1 e3 e2;subst e1 e2;clear e3;obtain⟨gu,off,rfl,I7,y0,y1,y2,y3⟩:=hrow i c hc;have y0:=ZZ HB hN I7 y0;have y1:=ZZ HB hN I7 y1;have y2:=ZZ HB hN I7 y2;have y3:=ZZ HB hN I7 y3;have HT:=aT (VT hc);have CS:=aT (ag hc);have HC:=aT (λW=>xl c (uv c CS) W);have QM:Hid (∀m,Xo c=.asks m->ZP Xo (cs.take (i+1))=some (ls++[m])):=λm hm=>by rw[HT.out];exact UO HA m hm
   have LN:Hid (Xo c=.always->ZP Xo (cs.take (i+1))=some ls):=λhm=>by rw[HT.out];exact UN HA hm
   have GL:Hid (Xo c=.never->ZP Xo cs=none):=λhm=>TE CS hm
   clear hrow hc HT CS HA;generalize Xo c=S at*;obtain⟨a,o,m,vv⟩:=c;unfold cC at HC;dsimp only at*;have HK:=aT (Z8.new wr TC #[.int .i64 a,.int .i64 o,.int .u64 m,.int .u64 vv]);have Cp:=aT (HR.alloc (.cells #[.int .i64 a,.int .i64 o,.int .u64 m,.int .u64 vv] TC));have xO:=aT (HO.alloc (.cells #[.int .i64 a,.int .i64 o,.int .u64 m,.int .u64 vv] TC));have dm:=aT (HW.alloc (.cells #[.int .i64 a,.int .i64 o,.int .u64 m,.int .u64 vv] TC));have Ue:=aT (HB.alloc HB.size (.cells #[.int .i64 a,.int .i64 o,.int .u64 m,.int .u64 vv] TC));go_upto_region 5 with fail;clear HR HO HW HB y0 y1 y2 y3;generalize wr.alloc (.cells #[.int .i64 a,.int .i64 o,.int .u64 m,.int .u64 vv] TC)=w1 at*;obtain⟨⟨q0,q1,q2,q3⟩,_⟩:=Z7 HK;go_wp2_with fail;refine(HC w1).mono ?_;rintro e w2 ⟨rfl,hb⟩;have D:=aT (Cp.below hb Cp.lt);have Z:=aT (xO.below hb xO.lt);have J:Hid (w2.ownsRow w.heap.size TC 4 v ls.length (ls.flatMap cL)):=ZF dm hb;have A:=aT (Ue.trans (hb.mono Ue.size));clear hb Cp xO dm Ue HK HC q0 q1 q2 q3;cases S with
   |never=>
    have nt:=aT (GL rfl);obtain⟨_,f0,f1,f2,f3⟩:=Z7 (D.alloc (.cells #[.int .i64 0,.int .i64 0,.int .u64 0,.int .u64 0] TC));obtain⟨⟨r0,r1,r2,r3⟩,_⟩:=Z7 (D.alloc (.cells #[.int .i64 0,.int .i64 0,.int .u64 0,.int .u64 0] TC));simp only[nu,dx,Int.natCast_zero] at*;go_wp2_with fail;refine aaf (Et rfl (ZH (D.alloc _) _ _ _ _) rfl) rfl ?_;exact⟨.inl ⟨nt,rfl⟩,ZG (A.alloc A.size _) (acd ur) _ _ _ _⟩
   |always=>
    have HAL:=aT (LN rfl);simp only[nu,dx,Int.natCast_zero] at*;go_wp2_with fail;go_roundg (L-i);case measure=>omega
    case rel=>exact⟨i+1,v,ls,jO,jO,by go_num,jO,D.alloc _,Z.alloc _,J.alloc _,HAL,A.alloc A.size _⟩
   |asks x=>
    have HAS:=aT (QM x rfl);simp only[nu,dx] at*;obtain⟨va,vc,rfl⟩:=ZY J;obtain⟨xa,xo,xm,xv⟩:=x;dsimp only at*;have HX:=aT (Z8.new w2 TC #[.int .i64 xa,.int .i64 xo,.int .u64 xm,.int .u64 xv]);have JT:=aT (D.alloc (.cells #[.int .i64 xa,.int .i64 xo,.int .u64 xm,.int .u64 xv] TC));have U:=aT (Z.alloc (.cells #[.int .i64 xa,.int .i64 xo,.int .u64 xm,.int .u64 xv] TC));have di:=aT (J.alloc (.cells #[.int .i64 xa,.int .i64 xo,.int .u64 xm,.int .u64 xv] TC));have Ul:=aT (A.alloc A.size (.cells #[.int .i64 xa,.int .i64 xo,.int .u64 xm,.int .u64 xv] TC));go_upto_region 10 with fail;clear D Z J A;generalize w2.alloc (.cells #[.int .i64 xa,.int .i64 xo,.int .u64 xm,.int .u64 xv] TC)=w4 at*;generalize w2.heap.size=XB at*;obtain⟨⟨x0,x1,x2,x3⟩,_⟩:=Z7 HX;obtain⟨⟨_,_,_,o3⟩,_⟩:=Z7 U;obtain⟨⟨_,_,_,o4⟩,_,_,_,f4⟩:=Z7 (U.alloc (.cells #[.int .i64 xa,.int .i64 xo,.int .u64 xm,.int .u64 xv] TC));have zm:=aT (U.alloc (.cells #[.int .i64 xa,.int .i64 xo,.int .u64 xm,.int .u64 xv] TC));have C:=aT (JT.alloc (.cells #[.int .i64 xa,.int .i64 xo,.int .u64 xm,.int .u64 xv] TC));have Co:=aT (di.alloc (.cells #[.int .i64 xa,.int .i64 xo,.int .u64 xm,.int .u64 xv] TC));have NC:=aT (Ul.alloc Ul.size (.cells #[.int .i64 xa,.int .i64 xo,.int .u64 xm,.int .u64 xv] TC))
    go_wp2_with (at_builtin;(refine aea _ rfl _ _ 89 rfl w.heap.size TC i0 (.agg #[.int .i64 0,.int .i64 0,.int .u64 0,.int .u64 0]) 4 32 underlying89 XW SC Vo TF rfl jD _ ls.length _ rfl Co ⟨w4.heap.size,0,none⟩ 1 1 [.int .i64 xa,.int .i64 xo,.int .u64 xm,.int .u64 xv] rfl rfl (World.news_of_block (Z8.new w4 _ _)) (by simp[Value.oneCell']) (by unfold maxLen;omega) jO NC.size ?_;intro v' w7 hown' Y _;obtain⟨dh,vc',rfl⟩:=ZY hown';have L4:=aT (zm.kept Y (λe=>YZ Co zm jD e.symm));obtain⟨⟨_,_,_,o7⟩,_,_,_,f7⟩:=Z7 L4))
    have HR7:=aT (C.kept Y (λe=>YZ Co C jD e.symm));have gY:=aT hown';have OA:=aT (NC.grown Y NC.size (λk e=>(Co.lt k e).1));go_wp2_with fail;go_roundg (L-i);case measure=>omega
    case rel=>exact⟨i+1,.slice dh (ls.length+1) vc',ls++[⟨xa,xo,xm,xv⟩],jO,jO,by go_num,by rw[ay];simp;omega,HR7.other jO 3 _,L4.set 3 _,(by rw[ay,I8];exact ZW gY L4 jD 3 _),HAS,OA.setCell (p:=⟨O,3,none⟩) (show w.heap.size<=O from jO) _⟩
  ·obtain rfl:i=L:=by omega
   have Zc:¬(i:Int)<(i:Int):=jO;have HN:Hid (ZP Xo cs=some ls):=by have h:=HA.out;rwa [abd (by rw[HL.out];exact aP _)] at h
   have HLN:Hid (ls.length<=cs.length):=by show ls.length<=cs.length;rw[HL.out];exact hlen
   have HS:=aT (xe wr rfl (show ls.length<=1000000 from jO) HW);obtain⟨⟨_,_,_,o3⟩,_⟩:=Z7 HO;go_wp2_with fail;refine HS.mono ?_;rintro e w2 ⟨rfl,d,hp,hw2,hb2,hs2,hk2⟩;have Z:=aT (hk2 O _ HO (YZ HW HO jD));have D:=aT (hk2 R _ HR (YZ HW HR jD));have A:=aT (HB.trans hb2);have df:=aT hp;have J:=aT hw2;have HCo:=aT (xg (l:=d) w2 hp.length_eq (show ls.length<=1000000 from jO) hw2);clear hp hw2 hb2 hs2 hk2 HS o3;obtain⟨⟨_,_,_,o3⟩,_⟩:=Z7 (show Z8 w2 O TR #[.string nm,.int .i64 k,.int .i64 n,v] from Z);go_wp2_with fail;refine HCo.mono ?_;rintro e w3 ⟨v',ns,rfl,hw3,hm3,hl3,hg3⟩;obtain⟨T,I,rfl⟩:=ZY hw3;have U:=aT (Z8.kept (show Z8 w2 O TR #[.string nm,.int .i64 k,.int .i64 n,v] from Z) hg3 (λe=>YZ J Z jD e.symm));have JT:=aT (Z8.kept (show Z8 w2 R TR #[.string ⟨#[]⟩,.int .i64 0,.int .i64 0,.slice none 0 0] from D) hg3 (λe=>YZ J D jD e.symm));have Ul:=aT (A.grown hg3 A.size (λk e=>(J.lt k e).1));have di:=aT hw3;have HNS:Hid (Uc cs (some ns)):=⟨ls,HN,λc=>(hm3 c).trans df.mem_iff⟩;have HLS:Hid (ns.length<=cs.length):=aO hl3 HLN;clear hw3 hm3 hg3 hl3 HCo o3;obtain⟨⟨_,_,_,o3⟩,_,_,_,f3⟩:=Z7 U;have zm:=aT (U.set 3 (.slice T ns.length I));have C:=aT (JT.other (show R≠O from jO) 3 (.slice T ns.length I));have Co:=aT (ZW di U jD 3 (.slice T ns.length I));have NC:=aT (Ul.setCell (p:=⟨O,3,none⟩) (show w.heap.size<=O from jO) (.slice T ns.length I));go_upto_region 14 with fail;clear o3 f3;generalize w3.setCell ⟨O,3,none⟩ (.slice T ns.length I)=w4 at*;obtain⟨⟨o0,o1,o2,o3⟩,_⟩:=Z7 (show Z8 w4 O TR #[.string nm,.int .i64 k,.int .i64 n,(.slice T ns.length I)] from zm);obtain⟨⟨r0,r1,r2,r3⟩,f0,f1,f2,f3⟩:=Z7 C;go_wp2_with fail;have h1:=ZW Co C jD 0 (.string nm);have h2:=ZW h1 (C.set 0 _) jD 1 (.int .i64 k);have h3:=ZW h2 ((C.set 0 _).set 1 _) jD 2 (.int .i64 n);have h4:=ZW h3 (((C.set 0 _).set 1 _).set 2 _) jD 3 (.slice T ns.length I);refine aaf (Et rfl (ZH C _ _ _ _) rfl) rfl ?_;exact⟨.inr ⟨(.slice T ns.length I),ns,HNS,HLS,rfl,h4⟩,ZG NC (acd ur) _ _ _ _⟩
abbrev TQ:Nat:=121
theorem XJ{c0 c1:Value}(hb:Z8 W R t #[c0,c1]):(W.cell? ⟨R,0,none⟩=some c0/\W.cell? ⟨R,1,none⟩=some c1)/\W.frozen? ⟨R,0,none⟩=false/\W.frozen? ⟨R,1,none⟩=false:=by
 obtain⟨e0,e1⟩:=hb.q2;exact⟨⟨e0,e1⟩,hb.frozen 0,hb.frozen 1⟩
theorem KZ{c0 c1:Value}(hb:Z8 W R t #[c0,c1])(A C:Value):Z8 ((W.setCell ⟨R,0,none⟩ A).setCell ⟨R,1,none⟩ C) R t #[A,C]:=(hb.set 0 A).set 1 C
theorem RP {n:Nat}(hb:Below n w W)(h:n<=R)(A C:Value):Below n w ((W.setCell ⟨R,0,none⟩ A).setCell ⟨R,1,none⟩ C):=(hb.setCell (p:=⟨R,0,none⟩) h A).setCell (p:=⟨R,1,none⟩) h C
theorem zl{fn:Func}{t u:Tmp}(h:fn.results=#[.cell t TQ,.tmp u]) {c0 c1:Value}(hb:Z8 W R TQ #[c0,c1])(ht:tmps.getD t undef=.pointer (some ⟨R,0,none⟩)):(results fn tmps).run prog W=.ok (.tuple #[.agg #[c0,c1],tmps.getD u undef]) W:=by
 obtain⟨⟨e0,e1⟩,_⟩:=XJ hb;rw[aja] at ht;simp[results,h,go_sem,ht,e0,e1]
def Cn(cs:List Z5)(cd:Nat)(w:World)(e:Ending)(w':World):Prop:=
 ((ZP Zk cs=none/\e=.returned (.tuple #[.agg #[.slice none 0 0,.int .u32 0],.bool false]))\/
  (∃(v:Value) (ns:List Z5),ZP Zk cs=some ns/\e=.returned (.tuple #[.agg #[v,.int .u32 cd],.bool true])/\w'.ownsRow w.heap.size TC 4 v ns.length (ns.flatMap cL)))/\Below w.heap.size w w'
theorem Es {ua:Option Addr}{uc:Nat}{cs:List Z5}{cd:Nat}(hL:cs.length=L)(XA:L<=1000)(hr:∀c∈cs,c.m<YO/\c.v<YO)(w:World)(h:YX N w (.slice ua L uc) cs)(hN:N<=w.heap.size):
 Calls prog 91 #[.agg #[.slice ua L uc,.int .u32 cd]] w (Cn cs cd w):=by
 have HL:=aT hL;have uv:=aT hr;have HM:=aT h;have HP:Hid (Z8 (((w.alloc (.cells #[.slice ua L uc,.int .u32 cd] TQ)).alloc (.cells #[.slice none 0 0,.int .u32 0] TQ)).alloc (.cells #[.slice none 0 0,.int .u32 cd] TQ)) w.heap.size TQ #[.slice ua L uc,.int .u32 cd]):=((Z8.new w _ _).alloc _).alloc _;have HR:Hid (Z8 (((w.alloc (.cells #[.slice ua L uc,.int .u32 cd] TQ)).alloc (.cells #[.slice none 0 0,.int .u32 0] TQ)).alloc (.cells #[.slice none 0 0,.int .u32 cd] TQ)) (w.heap.size+1) TQ #[.slice none 0 0,.int .u32 0]):=(Z8.OE _ _ _ _).alloc _;have HO:Hid (Z8 (((w.alloc (.cells #[.slice ua L uc,.int .u32 cd] TQ)).alloc (.cells #[.slice none 0 0,.int .u32 0] TQ)).alloc (.cells #[.slice none 0 0,.int .u32 cd] TQ)) (w.heap.size+1+1) TQ #[.slice none 0 0,.int .u32 cd]):=Z8.af0 _ _ _ _ _;have Z:=aT (af1 w (.cells #[.slice ua L uc,.int .u32 cd] TQ) (.cells #[.slice none 0 0,.int .u32 0] TQ) (.cells #[.slice none 0 0,.int .u32 cd] TQ));clear hL hr h;obtain⟨i0,XW,SC,Vo,TF⟩:=PH GM;go_enter func91,ntmps91;go_upto_region 2 with fail;generalize ((w.alloc (.cells #[.slice ua L uc,.int .u32 cd] TQ)).alloc (.cells #[.slice none 0 0,.int .u32 0] TQ)).alloc (.cells #[.slice none 0 0,.int .u32 cd] TQ)=w3 at*;obtain⟨⟨p0,p1⟩,_⟩:=XJ HP;obtain⟨R,hR⟩:=jX (w.heap.size+1);obtain⟨O,hO⟩:=jX (w.heap.size+1+1);rw[hO] at HO ⊢;rw[hR] at HR ⊢;have ur:w.heap.size<R:=jO;have hRO:R<O:=jO;clear hR hO;go_upto_region 3 with fail;go_loopg [15] (L+1) (λgg iv wr=>∃(i:Nat) (v:Value) (ls:List Z5),i<=L/\L-i<gg/\iv=.int .i64 (i:Int)/\ls.length<=i/\Hid (Z8 wr R TQ #[.slice none 0 0,.int .u32 0])/\Hid (Z8 wr O TQ #[v,.int .u32 cd])/\Hid (wr.ownsRow w.heap.size TC 4 v ls.length (ls.flatMap cL))/\Hid (ZP Zk (cs.take i)=some ls)/\Hid (Below w.heap.size w wr));case atStart=>exact⟨0,.slice none 0 0,[],abb _,jO,rfl,aP _,HR,HO,ane _ _ _ _,(by show _=_;rfl),Z⟩
 case round=>
  obtain⟨i,v,ls,tM,VM,rfl,hlen,HR,HO,HW,HA,Z⟩:=hrel;have Cq:=jZ i;have JS:=jW i;by_cases hlt:i<L
  ·have Zc:(i:Int)<(L:Int):=by omega
   obtain⟨c,hc⟩:∃c,cs[i]? =some c:=⟨_,aM (by rw[HL.out];exact hlt)⟩;obtain⟨ua2,uc2,e,hrow⟩:=HM.out;injection e with e1 e3 e2;subst e1 e2;clear e3;obtain⟨gu,off,rfl,I7,y0,y1,y2,y3⟩:=hrow i c hc;have y0:=ZZ Z hN I7 y0;have y1:=ZZ Z hN I7 y1;have y2:=ZZ Z hN I7 y2;have y3:=ZZ Z hN I7 y3;have HT:=aT (VT hc);have CS:=aT (ag hc);have HC:=aT (λW=>Ex c (uv c CS).1 (uv c CS).2 W);have QM:Hid (∀m,Zk c=.asks m->ZP Zk (cs.take (i+1))=some (ls++[m])):=λm hm=>by rw[HT.out];exact UO HA m hm
   have LN:Hid (Zk c=.always->ZP Zk (cs.take (i+1))=some ls):=λhm=>by rw[HT.out];exact UN HA hm
   have GL:Hid (Zk c=.never->ZP Zk cs=none):=λhm=>TE CS hm
   clear hrow hc HT CS HA;generalize Zk c=S at*;obtain⟨a,o,m,vv⟩:=c;unfold cC at HC;dsimp only at*;have HK:=aT (Z8.new wr TC #[.int .i64 a,.int .i64 o,.int .u64 m,.int .u64 vv]);have Cp:=aT (HR.alloc (.cells #[.int .i64 a,.int .i64 o,.int .u64 m,.int .u64 vv] TC));have xO:=aT (HO.alloc (.cells #[.int .i64 a,.int .i64 o,.int .u64 m,.int .u64 vv] TC));have dm:=aT (HW.alloc (.cells #[.int .i64 a,.int .i64 o,.int .u64 m,.int .u64 vv] TC));have Ue:=aT (Z.alloc Z.size (.cells #[.int .i64 a,.int .i64 o,.int .u64 m,.int .u64 vv] TC));go_upto_region 5 with fail;clear HR HO HW Z y0 y1 y2 y3;generalize wr.alloc (.cells #[.int .i64 a,.int .i64 o,.int .u64 m,.int .u64 vv] TC)=w1 at*;obtain⟨⟨q0,q1,q2,q3⟩,_⟩:=Z7 HK;go_wp2_with fail;refine(HC w1).mono ?_;rintro e w2 ⟨rfl,hb⟩;have T:=aT (Cp.below hb Cp.lt);have wZ:=aT (xO.below hb xO.lt);have gX:Hid (w2.ownsRow w.heap.size TC 4 v ls.length (ls.flatMap cL)):=ZF dm hb;have A:=aT (Ue.trans (hb.mono Ue.size));clear hb Cp xO dm Ue HK HC q0 q1 q2 q3;cases S with
   |never=>
    have nt:=aT (GL rfl);obtain⟨_,f0,f1⟩:=XJ (T.alloc (.cells #[.int .i64 0,.int .i64 0,.int .u64 0,.int .u64 0] TC));obtain⟨⟨r0,r1⟩,_⟩:=XJ (T.alloc (.cells #[.int .i64 0,.int .i64 0,.int .u64 0,.int .u64 0] TC));simp only[nu,dx,Int.natCast_zero] at*;go_wp2_with fail;refine aaf (zl rfl (KZ (T.alloc _) _ _) rfl) rfl ?_;exact⟨.inl ⟨nt,rfl⟩,RP (A.alloc A.size _) (acd ur) _ _⟩
   |always=>
    have HAL:=aT (LN rfl);simp only[nu,dx,Int.natCast_zero] at*;go_wp2_with fail;go_roundg (L-i);case measure=>omega
    case rel=>exact⟨i+1,v,ls,jO,jO,by go_num,jO,T.alloc _,wZ.alloc _,gX.alloc _,HAL,A.alloc A.size _⟩
   |asks x=>
    have HAS:=aT (QM x rfl);simp only[nu,dx] at*;obtain⟨va,vc,rfl⟩:=ZY gX;obtain⟨J,U,I,D⟩:=x;dsimp only at*;have HX:=aT (Z8.new w2 TC #[.int .i64 J,.int .i64 U,.int .u64 I,.int .u64 D]);have JT:=aT (T.alloc (.cells #[.int .i64 J,.int .i64 U,.int .u64 I,.int .u64 D] TC));have uq:=aT (wZ.alloc (.cells #[.int .i64 J,.int .i64 U,.int .u64 I,.int .u64 D] TC));have di:=aT (gX.alloc (.cells #[.int .i64 J,.int .i64 U,.int .u64 I,.int .u64 D] TC));have Ul:=aT (A.alloc A.size (.cells #[.int .i64 J,.int .i64 U,.int .u64 I,.int .u64 D] TC));go_upto_region 10 with fail;clear T wZ gX A;generalize w2.alloc (.cells #[.int .i64 J,.int .i64 U,.int .u64 I,.int .u64 D] TC)=w4 at*;generalize w2.heap.size=XB at*;obtain⟨⟨x0,x1,x2,x3⟩,_⟩:=Z7 HX;obtain⟨⟨o3,_⟩,_⟩:=XJ uq;obtain⟨⟨o4,_⟩,f4,_⟩:=XJ (uq.alloc (.cells #[.int .i64 J,.int .i64 U,.int .u64 I,.int .u64 D] TC));have zm:=aT (uq.alloc (.cells #[.int .i64 J,.int .i64 U,.int .u64 I,.int .u64 D] TC));have HR4:=aT (JT.alloc (.cells #[.int .i64 J,.int .i64 U,.int .u64 I,.int .u64 D] TC));have Co:=aT (di.alloc (.cells #[.int .i64 J,.int .i64 U,.int .u64 I,.int .u64 D] TC));have NC:=aT (Ul.alloc Ul.size (.cells #[.int .i64 J,.int .i64 U,.int .u64 I,.int .u64 D] TC))
    go_wp2_with (at_builtin;(refine aea _ rfl _ _ 89 rfl w.heap.size TC i0 (.agg #[.int .i64 0,.int .i64 0,.int .u64 0,.int .u64 0]) 4 32 underlying89 XW SC Vo TF rfl jD _ ls.length _ rfl Co ⟨w4.heap.size,0,none⟩ 1 1 [.int .i64 J,.int .i64 U,.int .u64 I,.int .u64 D] rfl rfl (World.news_of_block (Z8.new w4 _ _)) (by simp[Value.oneCell']) (by unfold maxLen;omega) jO NC.size ?_;intro v' w7 Y C _;obtain⟨dh,vc',rfl⟩:=ZY Y;have L4:=aT (zm.kept C (λe=>YZ Co zm jD e.symm));obtain⟨⟨o7,_⟩,f7,_⟩:=XJ L4))
    have HR7:=aT (HR4.kept C (λe=>YZ Co HR4 jD e.symm));have gY:=aT Y;have OA:=aT (NC.grown C NC.size (λk e=>(Co.lt k e).1));go_wp2_with fail;go_roundg (L-i);case measure=>omega
    case rel=>exact⟨i+1,.slice dh (ls.length+1) vc',ls++[⟨J,U,I,D⟩],jO,jO,by go_num,by rw[ay];simp;omega,HR7.other jO 0 _,L4.set 0 _,(by rw[ay,I8];exact ZW gY L4 jD 0 _),HAS,OA.setCell (p:=⟨O,0,none⟩) (show w.heap.size<=O from jO) _⟩
  ·obtain rfl:i=L:=by omega
   have Zc:¬(i:Int)<(i:Int):=jO;have HN:Hid (ZP Zk cs=some ls):=by have h:=HA.out;rwa [abd (by rw[HL.out];exact aP _)] at h
   obtain⟨va,vc,rfl⟩:=ZY HW;obtain⟨⟨o0,o1⟩,_⟩:=XJ HO;obtain⟨⟨r0,r1⟩,f0,f1⟩:=XJ HR;have h1:=aT (ZW HW HR jD 0 (.slice va ls.length vc));have h2:=aT (ZW h1 (HR.set 0 _) jD 1 (.int .u32 cd));go_wp2_with fail;refine aaf (zl rfl (KZ HR _ _) rfl) rfl ?_;exact⟨.inr ⟨(.slice va ls.length vc),ls,HN,rfl,h2⟩,RP Z (acd ur) _ _⟩
theorem KY{n:Nat}{wr:World}(h:Below n w wr)(q:Nat):Below n w (wr.drewN q):=⟨h.os,h.tape,h.output,h.size,h.block⟩
def sN(P:Prop)(w:World)(e:Ending)(w':World):Prop:=∃b:Bool,e=.returned (.bool b)/\(b=true↔P)/\Below w.heap.size w w'
theorem sM(h:P)(hb:Below w.heap.size w w'):sN P w (.returned (.bool true)) w':=⟨true,rfl,⟨λ_=>h,λ_=>rfl⟩,hb⟩
theorem zk(h:¬P)(hb:Below w.heap.size w w'):sN P w (.returned (.bool false)) w':=⟨false,rfl,⟨λe=>(Bool.false_ne_true e).elim,λe=>(h e).elim⟩,hb⟩
theorem YX.at {n c:Nat}{cs:List Z5}(h:YX N W (.slice a n c) cs){k:Nat}{x:Z5}(hk:cs[k]? =some x):∃A off,a=some ⟨A,off,none⟩/\A<N/\W.cell? ⟨A,off+k*4,none⟩=some (.int .i64 x.a)/\W.cell? ⟨A,off+k*4+1,none⟩=some (.int .i64 x.o)/\W.cell? ⟨A,off+k*4+2,none⟩=some (.int .u64 x.m)/\W.cell? ⟨A,off+k*4+3,none⟩=some (.int .u64 x.v):=by
 obtain⟨ua,uc,e,hr⟩:=h;injection e with e1 _ e2;subst e1;exact hr k x hk
theorem YX.form{v:Value}{cs:List Z5}(h:YX N W v cs):∃a c,v=.slice a cs.length c:=by
 obtain⟨ua,uc,e,_⟩:=h;exact⟨ua,uc,e⟩
theorem Cl {v1 v2:Value}{cs ds:List Z5}(hl:cs.length<=1000000)(w:World)(Y:YX N w v1 cs)(T:YX N w v2 ds)(hN:N<=w.heap.size):
 Calls prog 140 #[v1,v2] w (sN (cs=ds) w):=by
 obtain⟨a1,c1,rfl⟩:=Y.form;obtain⟨a2,c2,rfl⟩:=T.form;by_cases hlen:cs.length=ds.length
 ·generalize hL:cs.length=L at*;rw[<-hlen] at T ⊢;have HL:=aT hL;have HD:=aT hlen;have zz:=aT Y;have nA:=aT T;clear hL hlen Y T;go_enter func140,ntmps140;go_upto_region 4 with fail;go_loopg [13] (L+1) (λgg iv wr=>∃q:Nat,q<=L/\L-q<gg/\iv=.int .i64 (q:Int)/\Hid (cs.take q=ds.take q)/\Hid (Below w.heap.size w wr));case atStart=>exact⟨0,abb _,jO,rfl,(by show _=_;rfl),aG _ _⟩
  case round=>
   obtain⟨q,hqL,VM,rfl,HT,A⟩:=hrel;have q0:=jZ q;have iw:=jW q;by_cases hq:q<L
   ·have lH:(q:Int)<(L:Int):=by omega
    obtain⟨c,hc⟩:∃c,cs[q]? =some c:=⟨_,aM (by rw[HL.out];exact hq)⟩;obtain⟨d,hd⟩:∃d,ds[q]? =some d:=⟨_,aM (by rw[<-HD.out];exact hq)⟩;obtain⟨g1,o1,rfl,D,Z,y1,y2,U⟩:=zz.at hc;obtain⟨g2,o2,rfl,C,z0,z1,z2,z3⟩:=nA.at hd;have Z:=ZZ A hN D Z;have y1:=ZZ A hN D y1;have y2:=ZZ A hN D y2;have U:=ZZ A hN D U;have z0:=ZZ A hN C z0;have z1:=ZZ A hN C z1;have z2:=ZZ A hN C z2;have z3:=ZZ A hN C z3;by_cases he:c=d
    ·subst he;have Un:Hid (cs.take (q+1)=ds.take (q+1)):=by show _=_;rw[VT hc,VT hd,HT.out]
     clear hc hd;go_wp2;go_quiet (fail);have I:=aT (KY A nq);clear Z y1 y2 U z0 z1 z2 z3;go_wp2;go_roundg (L-q);case measure=>omega
     case rel=>exact⟨q+1,jO,jO,by go_num,Un,I⟩
    ·have hne:=af3 he;have J:Hid (cs≠ds):=λe=>by rw[e,hd] at hc;exact he (au hc).symm
     clear hc hd he;go_wp2;go_quiet (fail);have I:=aT (KY A nq);clear Z y1 y2 U z0 z1 z2 z3;go_wp2;go_ret;exact zk J I
   ·obtain rfl:L=q:=by omega
    have lH:¬(L:Int)<(L:Int):=jO;have HEQ:Hid (cs=ds):=by have h:=HT.out;rwa [abd (by rw[HL.out];exact aP _),abd (by rw[<-HD.out];exact aP _)] at h
    go_wp2;go_ret;exact sM HEQ A
 ·have hb:((cs.length:Int) != (ds.length:Int))=true:=by simp;omega
  have J:Hid (cs≠ds):=λe=>hlen (by rw[e])
  clear Y T;generalize cs.length=L1 at*;generalize ds.length=L2 at*;have hz:¬(L1:Int)=(L2:Int):=jO;go_enter func140,ntmps140;go_wp2;go_ret;exact zk J (aG _ _)
structure Ny where
 nm:ByteArray
 (k n:Int)
 u:Value
def sL(N:Nat)(W:World)(a:Option Addr)(qs:List Ny):Prop:=∀(i:Nat) (q:Ny),qs[i]? =some q->∃g off,a=some ⟨g,off,none⟩/\g<N/\W.cell? ⟨g,off+i*4,none⟩=some (.string q.nm)/\W.cell? ⟨g,off+i*4+1,none⟩=some (.int .i64 q.k)/\W.cell? ⟨g,off+i*4+2,none⟩=some (.int .i64 q.n)/\W.cell? ⟨g,off+i*4+3,none⟩=some q.u
def ap5(b:Bool)(w:World)(e:Ending)(w':World):Prop:=∃z:Int,e=.returned (.int .i64 z)/\(decide (0<=z)=b)/\-1<=z/\Below w.heap.size w w'
theorem lG {i:Nat}(hi:i<L)(h:p i=true):(List.range L).any p=true:=akg.2 ⟨i,aib.2 hi,h⟩
theorem sK(h:∀i,i<L->p i=false):(List.range L).any p=false:=by
 rw[List.any_eq_false];intro i hi;rw[h i (aib.1 hi)]
 decide
theorem Er(p:Nat->Bool)(g:Nat)(lb:Array Value)(eg:∀args w,(callFunc g args).run prog w=.ok (.enter g args) w){c:Nat} {qs:List Ny}(hL:qs.length=L)(XA:L<=1000000)(w:World)(hQ:sL N w a qs)(hN:N<=w.heap.size)
 (hp:∀(W:World) (i:Nat) (q:Ny),Below w.heap.size w W->qs[i]? =some q->Calls prog g (#[.agg #[.string q.nm,.int .i64 q.k,.int .i64 q.n,q.u]]++lb) W λe w'=>e=.returned (.bool (p i))/\Below W.heap.size W w'):
 Calls prog 83 #[.slice a L c,.func (.func g) #[] lb] w (ap5 ((List.range L).any p) w):=by
 have HQ:=aT hQ;have HL:=aT hL;have Hp:=aT hp;clear hQ hL hp;go_enter func83,ntmps83;go_upto_region 2 with fail;go_loopg [5,8] (L+1) (λgg _ iv wr=>∃i:Nat,i<=L/\L-i<gg/\iv=.int .i64 (i:Int)/\Hid (∀j,j<i->p j=false)/\Hid (Below w.heap.size w wr));case atStart=>exact⟨0,abb _,jO,rfl,(show Hid _ from λj hj=>absurd hj (ake _)),aG _ _⟩
 case round=>
  obtain⟨i,tM,VM,rfl,HT,D⟩:=hrel;have i0:=jZ i;have iw:=jW i;by_cases T:i<L
  ·have J:(i:Int)<(L:Int):=by omega
   obtain⟨q,hq⟩:∃q,qs[i]? =some q:=⟨_,aM (by rw[HL.out];exact T)⟩;obtain⟨b,off,rfl,hb,Y,y1,Z,U⟩:=HQ i q hq;have Y:=ZZ D hN hb Y;have y1:=ZZ D hN hb y1;have Z:=ZZ D hN hb Z;have U:=ZZ D hN hb U;have HC:=aT (Hp wr i q D hq);clear hq;obtain⟨nm,k,n,u⟩:=q;dsimp only at*;cases A:p i with
   |true=>
    rw[A] at HC;have HA:=aT (lG T A);clear A;go_wp2_with fail;refine HC.mono ?_;rintro e w1 ⟨rfl,C⟩;have I:=aT (D.trans (C.mono D.size));clear C Y y1 Z U;go_wp2;go_ret;exact⟨_,rfl,by rw[HA.out];exact ace i0,jO,I⟩
   |false=>
    rw[A] at HC;have Un:Hid (∀j,j<i+1->p j=false):=λj hj=>by
     by_cases e:j=i;·subst e;exact A
     ·exact HT j jO
    clear A;go_wp2_with fail;refine HC.mono ?_;rintro e w1 ⟨rfl,C⟩;have I:=aT (D.trans (C.mono D.size));clear C Y y1 Z U;go_wp2;go_roundg (L-i);case measure=>omega
    case rel=>exact⟨i+1,jO,jO,by go_num,Un,I⟩
  ·obtain rfl:L=i:=by omega
   have J:¬(L:Int)<(L:Int):=jO;have HA:=aT (sK HT);go_wp2;go_ret;exact⟨_,rfl,by rw[HA.out];decide,jD,D⟩
theorem sJ(p:Nat->Bool)(g:Nat)(lb:Array Value)(U:∀args w,(callFunc g args).run prog w=.ok (.enter g args) w){c:Nat} {qs:List Ny}(I:qs.length=L)(A:L<=1000000)(w:World)(J:sL N w a qs)(hN:N<=w.heap.size)
 (hp:∀(W:World) (i:Nat) (q:Ny),Below w.heap.size w W->qs[i]? =some q->Calls prog g (#[.agg #[.string q.nm,.int .i64 q.k,.int .i64 q.n,q.u]]++lb) W λe w'=>e=.returned (.bool (p i))/\Below W.heap.size W w'):
 Calls prog 124 #[.slice a L c,.func (.func g) #[] lb] w λe w'=>e=.returned (.bool ((List.range L).any p))/\Below w.heap.size w w':=by
 have T:=aT (Er p g lb U (c:=c) I A w J hN hp);generalize (List.range L).any p=b at*;clear J hp I;go_enter func124,ntmps124;go_wp2_with fail;refine T.mono ?_;rintro e Z ⟨z,rfl,hz,_,C⟩;have D:=aT C;have Y:Hid (decide ((0:Int)<=z)=b):=hz;clear C T hz;go_wp2;go_ret;exact⟨G8 Y,D⟩
instance:DecidableEq Z5:=λa b=>decidable_of_iff (a.a=b.a/\a.o=b.o/\a.m=b.m/\a.v=b.v) (by
 cases a;cases b;simp)
structure NR where
 nm:ByteArray
 (k n:Int)
 cs:List Z5
def UM(N:Nat)(W:World)(a:Option Addr)(rs:List NR):Prop:=∀(i:Nat) (r:NR),rs[i]? =some r->∃g off u,a=some ⟨g,off,none⟩/\g<N/\W.cell? ⟨g,off+i*4,none⟩=some (.string r.nm)/\W.cell? ⟨g,off+i*4+1,none⟩=some (.int .i64 r.k)/\W.cell? ⟨g,off+i*4+2,none⟩=some (.int .i64 r.n)/\W.cell? ⟨g,off+i*4+3,none⟩=some u/\YX N W u r.cs
theorem UM.rows {rs:List NR}(h:UM N W a rs):∃I:List Ny,I.length=rs.length/\sL N W a I/\∀(i:Nat) (q:Ny) (r:NR),I[i]? =some q->rs[i]? =some r->q.nm=r.nm/\q.k=r.k/\q.n=r.n/\YX N W q.u r.cs:=by
 obtain⟨U,T⟩:∃U:Nat->NR->Value,∀i r,rs[i]? =some r->∃g off,a=some ⟨g,off,none⟩/\g<N/\W.cell? ⟨g,off+i*4,none⟩=some (.string r.nm)/\W.cell? ⟨g,off+i*4+1,none⟩=some (.int .i64 r.k)/\W.cell? ⟨g,off+i*4+2,none⟩=some (.int .i64 r.n)/\W.cell? ⟨g,off+i*4+3,none⟩=some (U i r)/\YX N W (U i r) r.cs:=by
  have hv:∀(i:Nat) (r:NR),∃u:Value,rs[i]? =some r->∃g off,a=some ⟨g,off,none⟩/\g<N/\W.cell? ⟨g,off+i*4,none⟩=some (.string r.nm)/\W.cell? ⟨g,off+i*4+1,none⟩=some (.int .i64 r.k)/\W.cell? ⟨g,off+i*4+2,none⟩=some (.int .i64 r.n)/\W.cell? ⟨g,off+i*4+3,none⟩=some u/\YX N W u r.cs:=λi r=>by
   by_cases hr:rs[i]? =some r;·obtain⟨g,off,u,J⟩:=h i r hr;exact⟨u,λ_=>⟨g,off,J⟩⟩
   ·exact⟨.nilFunc,λe=>absurd e hr⟩
  refine⟨λi r=>(hv i r).choose,λi r hr=> ?_⟩;exact(hv i r).choose_spec hr
 have C:∀(i:Nat) (q:Ny),((List.range rs.length).map λi=>match rs[i]? with|some r=>Ny.mk r.nm r.k r.n (U i r)|none=>Ny.mk ⟨#[]⟩ 0 0 Value.nilFunc)[i]? =some q->∃r,rs[i]? =some r/\q=⟨r.nm,r.k,r.n,U i r⟩:=λi q A=>by
  have hi:i<rs.length:=by have:=(aq.1 A).1;simpa using this
  rw[ada,aoa hi,avc] at A;obtain⟨r,hr⟩:∃r,rs[i]? =some r:=⟨_,aM hi⟩;rw[hr] at A;exact⟨r,hr,(au A).symm⟩
 refine⟨(List.range rs.length).map (λi=>match rs[i]? with|some r=>Ny.mk r.nm r.k r.n (U i r)|none=>Ny.mk ⟨#[]⟩ 0 0 Value.nilFunc),jS,λi q A=> ?_,λi q r A hr=> ?_⟩;·obtain⟨r,hr,rfl⟩:=C i q A;obtain⟨g,off,J,Z,h3,h4,h5,h6,_⟩:=T i r hr;exact⟨g,off,J,Z,h3,h4,h5,h6⟩
 ·obtain⟨r',D,rfl⟩:=C i q A;rw[hr] at D;obtain rfl:=au D;obtain⟨g,off,_,_,_,_,_,_,Y⟩:=T i r hr;exact⟨rfl,rfl,rfl,Y⟩
theorem UM.below{K:Nat}{W':World} {rs:List NR}(h:UM N W a rs)(hb:Below K W W')(hN:N<=K):UM N W' a rs:=by
 intro i r hr;obtain⟨g,off,u,D,A,J,U,T,I,C⟩:=h i r hr;exact⟨g,off,u,D,A,ZZ hb hN A J,ZZ hb hN A U,ZZ hb hN A T,ZZ hb hN A I,C.below hb hN⟩
def WG(ns:List Z5)(r:NR):Bool:=decide (r.cs=[]) || decide (r.cs=ns)
theorem sI{B:Nat}{nm nm2:ByteArray}{k n k2 n2:Int}{u v:Value}{cs ns:List Z5}(hl:cs.length<=1000)(w:World)(h:YX N w u cs)(hv:YX N w v ns)(hN:N<=w.heap.size)(Y:Z8 w B TR #[.string nm2,.int .i64 k2,.int .i64 n2,v]):
 Calls prog 139 #[.agg #[.string nm,.int .i64 k,.int .i64 n,u],.pointer (some ⟨B,0,none⟩)] w λe w'=>e=.returned (.bool (decide (cs=[]) || decide (cs=ns)))/\Below w.heap.size w w':=by
 obtain⟨ua,uc,rfl⟩:=h.form;obtain⟨va,vc,rfl⟩:=hv.form;have HA:=aT (Z8.new w TR #[.string nm,.int .i64 k,.int .i64 n,.slice ua cs.length uc]);have HB:=aT (Y.alloc (.cells #[.string nm,.int .i64 k,.int .i64 n,.slice ua cs.length uc] TR));have A:=aT (Yk w (.cells #[.string nm,.int .i64 k,.int .i64 n,.slice ua cs.length uc] TR));have HQ:=aT (Cl jO _ (h.below A hN) (hv.below A hN) (aO hN A.size));by_cases J:cs=[];·subst J;have C:(([]:List Z5).length:Int)=0:=rfl;clear h hv Y HQ;simp only[acg] at*;go_enter func139,ntmps139;go_upto_region 1 with fail;generalize w.alloc (.cells #[.string nm,.int .i64 k,.int .i64 n,.slice ua 0 uc] TR)=w1 at*;obtain⟨⟨_,_,_,a3⟩,_⟩:=Z7 HA;obtain⟨⟨_,_,_,b3⟩,_⟩:=Z7 HB;go_wp2_with fail;go_ret;exact⟨jS,A⟩
 ·have C:¬((cs.length:Int)=0):=by
   intro e;exact J (alb.1 jO)
  have hl0':((cs.length:Int) == 0)=false:=by rw[af];exact C
  have H0:Hid (decide (cs=[])=false):=aee J;obtain⟨b,hb⟩:∃b,b=decide (cs=ns):=⟨_,rfl⟩;rw[<-hb];have U:=aT hb;clear h hv Y hb J;generalize hc:decide (cs=[])=c0 at*;generalize cs.length=L at*;generalize ns.length=L2 at*;go_enter func139,ntmps139;go_upto_region 1 with fail;generalize w.alloc (.cells #[.string nm,.int .i64 k,.int .i64 n,.slice ua L uc] TR)=w1 at*;obtain⟨⟨_,_,_,a3⟩,_⟩:=Z7 HA;obtain⟨⟨_,_,_,b3⟩,_⟩:=Z7 HB;go_wp2_with fail;refine HQ.mono ?_;rintro e w2 ⟨Z,rfl,I,D⟩;have T:=aT (A.trans (D.mono A.size));have HX:Hid (Z=b):=by show Z=b;rw[U.out,ale,adg];exact I
  clear I D;go_wp2;go_ret;exact⟨by rw[H0.out,HX.out];simp,T⟩
theorem KX{c:Nat} {rs:List NR}{nm:ByteArray}{k n:Int}{v:Value}{ns:List Z5}(hL:rs.length=L)(Y:L<=1000000)(hcs:∀r∈rs,r.cs.length<=1000)(w:World)(h:UM N w a rs)(hv:YX N w v ns)(hN:N<=w.heap.size):
 Calls prog 87 #[.slice a L c,.agg #[.string nm,.int .i64 k,.int .i64 n,v]] w λe w'=>e=.returned (.bool (rs.any (WG ns)))/\Below w.heap.size w w':=by
 obtain⟨va,vc,rfl⟩:=hv.form;obtain⟨qs,D,J,I⟩:=h.rows;have A:=aT (Yk w (.cells #[.string nm,.int .i64 k,.int .i64 n,.slice va ns.length vc] TR));have HB:=aT (Z8.new w TR #[.string nm,.int .i64 k,.int .i64 n,.slice va ns.length vc]);have C:(List.range L).any (λi=>match rs[i]? with|some r=>WG ns r|none=>false)=rs.any (WG ns):=by
  rw[ale,akg,akg];constructor
  ·rintro⟨i,hi,e⟩;cases hr:rs[i]? with
   |none=>rw[hr] at e;cases e
   |some r=>rw[hr] at e;exact⟨r,ag hr,e⟩
  ·rintro⟨r,hr,e⟩;obtain⟨i,hi,rfl⟩:=ahd.1 hr;refine⟨i,aib.2 jO,?_⟩;rw[aM hi];exact e
 have U:=A.size;have hc:=sJ (c:=c) (λi=>match rs[i]? with|some r=>WG ns r|none=>false) 139 #[.pointer (some ⟨w.heap.size,0,none⟩)] (enters_of func139 jK rfl) (D.trans hL) Y (w.alloc (.cells #[.string nm,.int .i64 k,.int .i64 n,.slice va ns.length vc] TR)) (λi q Z=>by
  obtain⟨g,off,h1,T,h3,h4,h5,h6⟩:=J i q Z;exact⟨g,off,h1,T,ZZ A hN T h3,ZZ A hN T h4,ZZ A hN T h5,ZZ A hN T h6⟩) (aO hN U) (λW i q hb Z=>by
  have hi:i<rs.length:=by have:=(aq.1 Z).1;omega
  obtain⟨r,hr⟩:∃r,rs[i]? =some r:=⟨_,aM hi⟩;obtain⟨_,_,_,h4⟩:=I i q r Z hr;have e:(match rs[i]? with|some r=>WG ns r|none=>false)=(decide (r.cs=[]) || decide (r.cs=ns)):=by rw[hr];rfl
  rw[e];have hk:Below w.heap.size w W:=A.trans (hb.mono U);exact sI (hcs r (ag hr)) W (h4.below hk hN) (hv.below hk hN) (aO hN hk.size) (HB.below hb HB.lt))
 rw[C] at hc;have HC:=aT hc;clear hc C D J I h hv HB;generalize rs.any (WG ns)=b at*;go_enter func87,ntmps87;go_wp2_with fail;refine HC.mono ?_;rintro e w2 ⟨rfl,hb⟩;have X1:=aT (A.trans (hb.mono A.size));clear hb;go_wp2;go_ret;exact⟨rfl,X1⟩
end Go.Proofs.YtclgigmgbebhgaaGreatDoor
namespace Go.Proofs.YtclgigmgbebhgaaGreatDoor
open Tryz
open Go Go.Proofs Go.RowKit Go.Maps Go.WideMaps Go.ChangeMaps
theorem TA:Keyed prog 9:=string_keyed underlying9
theorem Oz(s:ByteArray)(hs:s.size<=1000000):∃l,keyOf prog 9 (.string s)=some l:=by
 have h:s.size<=maxLen:=by unfold maxLen;omega
 refine⟨.string s.data.toList,?_⟩;unfold keyOf mapKey;simp[underlying9,h]
theorem sH{P:Program}{tm tk tv:TypeId}(hu:P.underlying tm=some (.map tk tv))(K:Keyed P tk){W:World}{B:Nat}{S1 S2:List (Value×Value)}{k v0:Value}(h:ZB W B (S1++(k,v0)::S2))(hS:∀p∈S1++(k,v0)::S2,∃l,keyOf P tk p.1=some l)(hn1:∀p∈S1,p.1≠k)(Y:∀p∈S2,p.1≠k)(v:Value):
 ∃W',(Instr.mapUpdate tm (.map (some B)) k v).run P W=.ok () W'/\ZB W' B (S1++(k,v)::S2)/\W.grownBy W' (some B):=by
 obtain⟨es,clock,hb,h2,hst⟩:=h;obtain⟨k1,k2⟩:=Ug h2;obtain⟨kl,A⟩:=hS (k,v0) jS;rcases K.find W A es.toList (λe he=>hS _ (k1 e he)) with⟨h4,U⟩|⟨j,e0,h4,U,h6⟩
 ·obtain⟨e,he,e1,_⟩:=k2 (k,v0) jS;exact absurd e1 (U e he)
 ·have C:e0.key=k:=by first|exact h6|exact h6.symm
  have J:(S1++(k,v0)::S2)[j]? =some (e0.key,e0.val):=by rw[<-h2,ada,U];rfl
  have Z:j=S1.length:=by
   rcases Nat.lt_trichotomy j S1.length with hl|hl|hl;·rw[abc hl] at J;exact absurd C (hn1 _ (ag J))
   ·exact hl
   ·rw[aae jO] at J;obtain⟨d,hd⟩:∃d,j-S1.length=d+1:=⟨j-S1.length-1,jO⟩;rw[hd,aF] at J;exact absurd C (Y _ (ag J))
  have D:es[j]? =some e0:=by simpa using U
  have I:=K.stays W A;refine⟨setBlock W B (.map (es.modify j λe=>{e with key:=k,val:=v}) clock),?_,⟨_,_,heap_setBlock_same hb _,?_,?_⟩,⟨rfl,rfl,rfl,by simp[setBlock],λi _ hi=>heap_setBlock_other hb _ (λe=>hi (by rw[e]))⟩⟩;·simp[Instr.mapUpdate,akd hu,aid hb,K.check W false A,h4,avg _ hb,Result.andThen,setBlock,D,C,I]
  ·apply agb;intro i;have tH:(S1++(k,v0)::S2)[i]? =(es[i]?).map (λe=>(e.key,e.val)):=by rw[<-h2,ada,aga]
   rw[ada,aga,ala];by_cases e:j=i;·subst e;rw[aH rfl,D,Z,aae (aP _),alc];rfl
   ·rw[aN e,<-tH];rcases aza (show i≠S1.length from jO) with hl|hl;·rw[abc hl,abc hl]
    ·rw[aae jO,aae jO];obtain⟨d,hd⟩:∃d,i-S1.length=d+1:=⟨i-S1.length-1,jO⟩;rw[hd,aF,aF]
  ·obtain⟨s1,s2,s3⟩:=hst
   have T:(es.modify j λe=>{e with key:=k,val:=v}).toList.map (·.born)=es.toList.map (·.born):=by
    apply agb;intro i;rw[ada,ada,aga,aga,ala];by_cases e:j=i;·subst e;rw[aH rfl,D];rfl
    ·rw[aN e]
   have hk':(es.modify j λe=>{e with key:=k,val:=v}).toList.map (·.key)=es.toList.map (·.key):=by
    apply agb;intro i;rw[ada,ada,aga,aga,ala];by_cases e:j=i;·subst e;rw[aH rfl,D];show some k=some e0.key;rw[C]
    ·rw[aN e]
   refine⟨λx hx=> ?_,by rw[T];exact s2,by rw[hk'];exact s3⟩;have:x.born∈es.toList.map (·.born):=by rw[<-T];exact ah.2 ⟨x,hx,rfl⟩
   obtain⟨y,hy,e⟩:=ah.1 this;rw[<-e];exact s1 y hy
def rC(r:NR)(u:Value):List Value:=[.string r.nm,.int .i64 r.k,.int .i64 r.n,u]
def YG:List NR->List Value->List Value
 |r::rs,u::us=>rC r u++YG rs us
 |_,_=>[]
theorem KW(r:NR)(u:Value):∀(rs:List NR) (us:List Value),us.length=rs.length->YG (rs++[r]) (us++[u])=YG rs us++rC r u
 |[],[],_=>by simp[YG]
 |x::rs,y::us,h=>by show rC x y++YG (rs++[r]) (us++[u])=rC x y++YG rs us++rC r u;rw[KW r u rs us (by simpa using h),aba]
theorem RO:∀(rs:List NR) (us:List Value) (i:Nat) (r:NR) (u:Value),rs[i]? =some r->us[i]? =some u->∀j,j<4->(YG rs us)[i*4+j]? =(rC r u)[j]?
 |x::rs,y::us,0,r,u,hr,hu,j,hj=>by
  simp at hr hu;subst hr hu;show(rC x y++YG rs us)[0*4+j]? =_;rw[abc (by show _<4;omega)]
  congr 1
  omega
 |x::rs,y::us,i+1,r,u,hr,hu,j,hj=>by have A:=RO rs us i r u (by simpa using hr) (by simpa using hu) j hj;show(rC x y++YG rs us)[(i+1)*4+j]? =_;rw[aae (by show 4<=_;omega),show(i+1)*4+j-(rC x y).length=i*4+j by show(i+1)*4+j-4=_;omega];exact A
 |[],_,i,r,u,hr,_,_,_=>by simp at hr
 |_::_,[],i,r,u,_,hu,_,_=>by simp at hu
structure TZ(lo:Nat)(W:World)(v:Value)(rs:List NR)(us:List Value):Prop where
 len:us.length=rs.length
 row:W.ownsRow lo TR 4 v rs.length (YG rs us)
 cs:∀(j:Nat) (u:Value) (r:NR),us[j]? =some u->rs[j]? =some r->W.ownsRow lo TC 4 u r.cs.length (r.cs.flatMap cL)
theorem Tz{W:World}{lo:Nat}{u:Value}{cs:List Z5}(h:W.ownsRow lo TC 4 u cs.length (cs.flatMap cL)):YX W.heap.size W u cs:=by
 obtain⟨a,c,rfl⟩:=ZY h;refine⟨a,c,rfl,λk x hk=> ?_⟩;have C:=(aq.1 hk).1;rcases h.2 with⟨e,J⟩|⟨g,cap,A,e,_,I,_⟩;·omega
 ·injection e with e1 _ e2;subst e1 e2;have at_:∀j,j<4->W.cell? ⟨g,k*4+j,none⟩=(cL x)[j]? :=λj D=>by rw[h.cellAt (k*4+j) jO,RQ cs k x hk j D]
  refine⟨g,0,rfl,(aab.1 I).1,?_,?_,?_,?_⟩<;>rw[adf]
  ·exact at_ 0 jD
  ·exact at_ 1 jD
  ·exact at_ 2 jD
  ·exact at_ 3 jD
section
variable {lo:Nat} {W W':World} {v:Value} {rs:List NR} {us:List Value}
theorem TZ.rows{a:Option Addr}{n c:Nat}(h:TZ lo W (.slice a n c) rs us):UM W.heap.size W a rs:=by
 intro i r hr;have A:=(aq.1 hr).1;obtain⟨u,hu⟩:∃u,us[i]? =some u:=⟨_,aM (by rw[h.len];exact A)⟩;rcases h.row.2 with⟨e,T⟩|⟨g,cap,C,e,_,I,_⟩;·omega
 ·injection e with e1 _ e2;subst e1
  have at_:∀j,j<4->W.cell? ⟨g,i*4+j,none⟩=(rC r u)[j]? :=λj D=>by
   have hn:n=rs.length:=by obtain⟨a',U,J⟩:=ZY h.row;injection J
   subst hn;have:=h.row.cellAt (i*4+j) jO;rw[this,RO rs us i r u hr hu j D]
  refine⟨g,0,u,rfl,(aab.1 I).1,?_,?_,?_,?_,Tz (h.cs i u r hu hr)⟩<;>rw[adf]
  ·exact at_ 0 jD
  ·exact at_ 1 jD
  ·exact at_ 2 jD
  ·exact at_ 3 jD
theorem TZ.grown{row:Option Nat}(h:TZ lo W v rs us)(I:W.grownBy W' row)(hr:∀k,row=some k->v.ownBlock≠some k/\∀cs,¬Z8 W k TC cs):TZ lo W' v rs us:=by
 refine⟨h.len,h.row.kept I ?_,λj u r hu C=>(h.cs j u r hu C).kept I ?_⟩
 ·cases A:row with
  |none=>cases v.ownBlock<;>simp
  |some k=>exact .inr (hr k A).1
 ·cases A:row with
  |none=>cases u.ownBlock<;>simp
  |some k=>
   refine .inr (λe=> ?_);rcases (h.cs j u r hu C).2 with⟨rfl,_⟩|⟨g,cap,D,rfl,_,hb,_⟩
   ·cases e
   ·have e2:g=k:=au e;subst e2;exact(hr g A).2 D hb
theorem TZ.Zs(h:TZ lo W v rs us)(hb:Below W.heap.size W W'):TZ lo W' v rs us:=
 h.grown (row:=none) ⟨hb.os,hb.tape,hb.output,hb.size,λk hk _=>hb.block k hk⟩ (λk e=>by cases e)
end
structure UL where
 nm:ByteArray
 (g cap:Nat)
 rs:List NR
 us:List Value
def UL.v(G:UL):Value:=.slice (some ⟨G.g,0,none⟩) G.rs.length G.cap
def RN(gs:List UL):List (Value×Value):=gs.map λG=>(.string G.nm,G.v)
structure U6(lo B:Nat)(W:World)(gs:List UL):Prop where
 map:ZB W B (RN gs)
 rows:∀G∈gs,TZ lo W G.v G.rs G.us
 names:gs.Pairwise (λx y=>x.nm≠y.nm)
 wY:gs.Pairwise (λx y=>x.g≠y.g)
 size:∀G∈gs,G.nm.size<=1000000
section
variable {lo B:Nat} {W W':World} {gs:List UL}
theorem U6.keys(h:U6 lo B W gs):∀p∈RN gs,∃l,keyOf prog 9 p.1=some l:=λp hp=>by
 obtain⟨G,A,rfl⟩:=ah.1 hp;exact Oz _ (h.size G A)
theorem U6.Zs(h:U6 lo B W gs)(hb:Below W.heap.size W W'):U6 lo B W' gs:=⟨h.map.below hb h.map.lt,λG A=>(h.rows G A).Zs hb,h.names,h.wY,h.size⟩
theorem U6.nil{w:World}:U6 lo w.heap.size (w.alloc (.map #[] 0)) []:=⟨ZB.made w,λG h=>(by cases h),List.Pairwise.nil,List.Pairwise.nil,λG h=>(by cases h)⟩
theorem wX:∀W,(zeroValue 49).run prog W=.ok (.slice none 0 0) W:=λ_=>jK
theorem U6.Xt(h:U6 lo B W gs){nm:ByteArray}(hs:nm.size<=1000000)(hn:∀G∈gs,G.nm≠nm):(Instr.lookup 191 (.map (some B)) (.string nm) false).run prog W=.ok (.slice none 0 0) W:=
 Uf underlying191 TA wX h.map h.keys (Oz nm hs) (λp hp e=>by obtain⟨G,A,rfl⟩:=ah.1 hp;exact hn G A (aqg e))
theorem U6.I6(h:U6 lo B W gs){G:UL}(C:G∈gs):(Instr.lookup 191 (.map (some B)) (.string G.nm) false).run prog W=.ok G.v W:=
 Xu underlying191 TA h.map h.keys (Oz _ (h.size G C)) (ah.2 ⟨G,C,rfl⟩) (afa.2 (h.names.imp (λ{a b} A e=>A (aqg e))))
theorem KV(h:ZB W B (RN gs))(t:TypeId)(cs:Array Value):¬Z8 W B t cs:=λhb=>by
 obtain⟨es,c,hm,_⟩:=h;have:=hm.symm.trans hb;cases this
theorem Q4{e s n base:Nat}{v:Value}{xs:List Value}(h:W.ownsRow base e s v n xs){k:Nat}(hk:v.ownBlock=some k):k<W.heap.size:=(h.lt k hk).2
theorem U6.more{g1 g2:List UL}{G:UL}{W':World}{r:NR}{u:Value}{gb cap:Nat}(h:U6 lo B W (g1++G::g2))(hg:W.grownBy W' (some G.g))(hown:W'.ownsRow lo TR 4 (.slice (some ⟨gb,0,none⟩) (G.rs.length+1) cap) (G.rs.length+1) (YG G.rs G.us++rC r u))(hat:gb=G.g\/gb=W.heap.size)(hu:W.ownsRow lo TC 4 u r.cs.length (r.cs.flatMap cL)):
 ∃W2,(Instr.mapUpdate 191 (.map (some B)) (.string G.nm) (.slice (some ⟨gb,0,none⟩) (G.rs.length+1) cap)).run prog W'=.ok () W2/\U6 lo B W2 (g1++⟨G.nm,gb,cap,G.rs++[r],G.us++[u]⟩::g2)/\W'.grownBy W2 (some B):=by
 have nr:G∈g1++G::g2:=jS;have C:=h.rows G nr;have hGb:∃cs,Z8 W G.g TR cs:=by
  rcases C.row.2 with⟨e,_⟩|⟨g,cap',cur,e,_,hb,_⟩
  ·cases e
  ·have e2:G.g=g:=by unfold UL.v at e;injection e with e1;injection e1 with e1;injection e1
   rw[e2];exact⟨cur,hb⟩
 have hnC:∀cs,¬Z8 W G.g TC cs:=λcs hb=>by
  obtain⟨cs',hb'⟩:=hGb;have Y:TR=TC:=by have:=(show W.heap[G.g]? =_ from hb').symm.trans hb;simp only[aka,aye] at this;exact this.2.1
  exact absurd Y jD
 have hBg:B≠G.g:=λe=>by obtain⟨cs',hb'⟩:=hGb;rw[<-e] at hb';exact KV h.map _ _ hb'
 have D:ZB W' B (RN (g1++G::g2)):=h.map.kept hg (λe=>hBg (au e));have U:∀x∈g1,x.nm≠G.nm/\x.g≠G.g:=λx hx=>⟨(afc.1 h.names).2.2 x hx G jS,(afc.1 h.wY).2.2 x hx G jS⟩
 have J:∀x∈g2,G.nm≠x.nm/\G.g≠x.g:=λx hx=>⟨(age.1 (afc.1 h.names).2.1).1 x hx,(age.1 (afc.1 h.wY).2.1).1 x hx⟩
 have hlt:∀x∈g1++G::g2,x.g<W.heap.size:=λx hx=>Q4 (h.rows x hx).row rfl
 have hS:RN (g1++G::g2)=RN g1++(.string G.nm,G.v)::RN g2:=by simp[RN]
 rw[hS] at D;obtain⟨W2,hr,np,Z⟩:=sH underlying191 TA D (by rw[<-hS];exact h.keys) (λp hp e=>by
  obtain⟨x,hx,rfl⟩:=ah.1 hp;exact(U x hx).1 (aqg e)) (λp hp e=>by
  obtain⟨x,hx,rfl⟩:=ah.1 hp;exact(J x hx).1 (aqg e).symm) (.slice (some ⟨gb,0,none⟩) (G.rs.length+1) cap)
 have ap6:∀cs,¬Z8 W' B TC cs:=λcs hb=>by obtain⟨es,c,hm,_⟩:=D;have:=hm.symm.trans hb;cases this
 have T:∀{e s n base:Nat} {v:Value} {xs:List Value},W'.ownsRow base e s v n xs->v.ownBlock≠some B:=λ{e s n base v xs} Y e1=>by
  rcases Y.2 with⟨rfl,_⟩|⟨g,cap',cur,rfl,_,hb,_⟩
  ·cases e1
  ·have e2:g=B:=au e1;subst e2;obtain⟨es,c,hm,_⟩:=D;have:=hm.symm.trans hb;cases this
 have keep:∀x∈g1++G::g2,x.g≠G.g->TZ lo W2 x.v x.rs x.us:=λx hx hne=>by have Y:=(h.rows x hx).grown hg (λk e=>⟨λe2=>hne (by have:=au e;have e3:x.g=k:=au e2;omega),λcs=>by have:=au e;subst this;exact hnC cs⟩);exact Y.grown Z (λk e=>⟨by have:=au e;subst this;exact T Y.row,λcs=>by have:=au e;subst this;exact ap6 cs⟩)
 refine⟨W2,hr,⟨?_,λx hx=> ?_,?_,?_,λx hx=> ?_⟩,Z⟩
 ·have:RN (g1++⟨G.nm,gb,cap,G.rs++[r],G.us++[u]⟩::g2)=RN g1++(.string G.nm,.slice (some ⟨gb,0,none⟩) (G.rs.length+1) cap)::RN g2:=by simp[RN,UL.v]
  rw[this];exact np
 ·rcases abe.1 hx with hx|hx;·exact keep x (by simp[hx]) (U x hx).2
  ·rcases abf.1 hx with rfl|hx
   ·have hcs:∀(j:Nat) (u':Value) (r':NR),(G.us++[u])[j]? =some u'->(G.rs++[r])[j]? =some r'->W2.ownsRow lo TC 4 u' r'.cs.length (r'.cs.flatMap cL):=λj u' r' I A=>by
     have old:W.ownsRow lo TC 4 u' r'.cs.length (r'.cs.flatMap cL):=by
      by_cases hj:j<G.rs.length;·rw[abc (by rw[C.len];exact hj)] at I;rw[abc hj] at A;exact C.cs j u' r' I A
      ·rw[aae (by rw[C.len];omega),C.len] at I;rw[aae jO] at A
       have gW:j-G.rs.length=0:=by have:=(aq.1 A).1;simp at this;omega
       rw[gW] at I A;simp at I A;subst I A;exact hu
     have Y:=old.kept hg (.inr (λe=>by
      rcases old.2 with⟨rfl,_⟩|⟨g,cap',cur,rfl,_,hb,_⟩
      ·cases e
      ·have e2:g=G.g:=au e;rw[e2] at hb;exact hnC _ hb))
     exact Y.kept Z (.inr (T Y))
    have hrow:W2.ownsRow lo TR 4 (.slice (some ⟨gb,0,none⟩) (G.rs++[r]).length cap) (G.rs++[r]).length (YG (G.rs++[r]) (G.us++[u])):=by rw[KW r u _ _ C.len,ay];exact hown.kept Z (.inr (T hown))
    exact⟨by rw[ay,ay,C.len];rfl,hrow,hcs⟩
   ·exact keep x (by simp[hx]) (λe=>(J x hx).2 e.symm)
 ·have:=h.names;rw[afc] at this ⊢;obtain⟨n1,n2,n3⟩:=this;refine⟨n1,?_,λa ha b hb=> ?_⟩;·exact age.2 (age.1 n2)
  ·rcases abf.1 hb with rfl|hb;·exact n3 a ha G jS
   ·exact n3 a ha b (by simp[hb])
 ·have:=h.wY;rw[afc] at this ⊢;obtain⟨n1,n2,n3⟩:=this;refine⟨n1,age.2 ⟨λx hx=> ?_,(age.1 n2).2⟩,λa ha b hb=> ?_⟩
  ·rcases hat with e|e;·rw[show(UL.mk G.nm gb cap (G.rs++[r]) (G.us++[u])).g=gb from rfl,e];exact(J x hx).2
   ·have:=hlt x (by simp[hx]);show gb≠x.g;omega
  ·rcases abf.1 hb with rfl|hb
   ·rcases hat with e|e;·show a.g≠gb;rw[e];exact(U a ha).2
    ·have:=hlt a (by simp[ha]);show a.g≠gb;omega
   ·exact n3 a ha b (by simp[hb])
 ·rcases abe.1 hx with hx|hx;·exact h.size x (by simp[hx])
  ·rcases abf.1 hx with rfl|hx;·exact h.size G nr
   ·exact h.size x (by simp[hx])
theorem U6.new{W':World}{r:NR}{u:Value}{cap:Nat}(h:U6 lo B W gs)(hs:r.nm.size<=1000000)(hn:∀G∈gs,G.nm≠r.nm)(hg:W.grownBy W' none)(I:W'.ownsRow lo TR 4 (.slice (some ⟨W.heap.size,0,none⟩) 1 cap) 1 (rC r u))(hu:W.ownsRow lo TC 4 u r.cs.length (r.cs.flatMap cL)):
 ∃W2,(Instr.mapUpdate 191 (.map (some B)) (.string r.nm) (.slice (some ⟨W.heap.size,0,none⟩) 1 cap)).run prog W'=.ok () W2/\U6 lo B W2 (gs++[⟨r.nm,W.heap.size,cap,[r],[u]⟩])/\W'.grownBy W2 (some B):=by
 have A:ZB W' B (RN gs):=h.map.kept hg jS;obtain⟨W2,hr,np,D⟩:=Vq underlying191 TA A h.keys (Oz r.nm hs) (λp hp e=>by obtain⟨x,hx,rfl⟩:=ah.1 hp;exact hn x hx (aqg e)) (.slice (some ⟨W.heap.size,0,none⟩) 1 cap)
 have U:∀cs,¬Z8 W' B TC cs:=λcs hb=>by obtain⟨es,c,hm,_⟩:=A;have:=hm.symm.trans hb;cases this
 have C:∀{e s n base:Nat} {v:Value} {xs:List Value},W'.ownsRow base e s v n xs->v.ownBlock≠some B:=λ{e s n base v xs} J e1=>by
  rcases J.2 with⟨rfl,_⟩|⟨g,cap',cur,rfl,_,hb,_⟩
  ·cases e1
  ·have e2:g=B:=au e1;subst e2;obtain⟨es,c,hm,_⟩:=A;have:=hm.symm.trans hb;cases this
 have hlt:∀x∈gs,x.g<W.heap.size:=λx hx=>Q4 (h.rows x hx).row rfl
 refine⟨W2,hr,⟨by rw[show RN (gs++[⟨r.nm,W.heap.size,cap,[r],[u]⟩])=RN gs++[(.string r.nm,.slice (some ⟨W.heap.size,0,none⟩) 1 cap)] by simp[RN,UL.v]];exact np,λx hx=> ?_,?_,?_,λx hx=> ?_⟩,D⟩
 ·rcases abe.1 hx with hx|hx;·have J:=(h.rows x hx).grown hg (λk e=>by cases e);exact J.grown D (λk e=>⟨by have:=au e;subst this;exact C J.row,λcs=>by have:=au e;subst this;exact U cs⟩)
  ·rcases aaa.1 hx with rfl;refine⟨rfl,?_,λj u' r' Y T=> ?_⟩;·rw[show YG [r] [u]=rC r u by simp[YG]];exact I.kept D (.inr (C I))
   ·have Z:j=0:=by
     have:=(aq.1 T).1;simp at this;omega
    subst Z;simp at Y T;subst Y T;have J:=hu.kept hg (by cases u.ownBlock<;>simp);exact J.kept D (.inr (C J))
 ·rw[afc];exact⟨h.names,ape _ _,λa ha b hb=>by rw[aaa.1 hb];exact hn a ha⟩
 ·rw[afc];exact⟨h.wY,ape _ _,λa ha b hb=>by rw[aaa.1 hb];have:=hlt a ha;show a.g≠W.heap.size;omega⟩
 ·rcases abe.1 hx with hx|hx;·exact h.size x hx
  ·rw[aaa.1 hx];exact hs
end
end Go.Proofs.YtclgigmgbebhgaaGreatDoor
namespace Go.Proofs.YtclgigmgbebhgaaGreatDoor
open Tryz
open Go Go.Proofs Go.RowKit
theorem Ck(cs:List Z5):∀u∈cs.flatMap cL,u.oneCell'=true:=λu hu=>by
 obtain⟨c,_,hc⟩:=aqe.1 hu;simp[cL] at hc;rcases hc with rfl|rfl|rfl|rfl<;>rfl
theorem Cj{N L c:Nat}{a:Option Addr}{cs:List Z5}(hl:cs.length=L)(XA:L<=1000000)(w:World)(hm:YX N w (.slice a L c) cs)(hN:N<=w.heap.size):
 Calls prog 92 #[.slice a L c] w λe w'=>∃v,e=.returned v/\w'.ownsRow w.heap.size TC 4 v L (cs.flatMap cL)/\Below w.heap.size w w':=by
 obtain⟨i0,J,SC,Z,TF⟩:=PH GM;cases a with
 |none=>
  obtain rfl:L=0:=by
   cases hc:cs with
   |nil=>rw[hc] at hl;exact hl.symm
   |cons x r=>
    obtain⟨_,_,e,hr⟩:=hm;injection e with e1;obtain⟨gu,off,e2,_⟩:=hr 0 x (by rw[hc];rfl);rw[<-e1] at e2;cases e2
  obtain rfl:cs=[]:=alb.1 hl;have U:∀w,(binOp .eql 89 (.slice none 0 c) (.slice none 0 0)).run prog w=.ok (.bool true) w:=λ_=>jK
  go_enter func92,ntmps92;go_wp2_with fail;go_ret;exact⟨_,rfl,ane _ _ _ _,aG _ _⟩
 |some A=>
  have I:=aT ((aG w.heap.size w).alloc (aP _) (.cells #[] TC));have T:Hid ((w.alloc (.cells #[] TC)).ownsRow w.heap.size TC 4 (.slice (some ⟨w.heap.size,0,none⟩) 0 0) 0 []):=World.ownsRow_lit (base:=w.heap.size) w #[] 0 (aP _) jD rfl;have HM:=aT (hm.below I hN);have HLB:Hid ((cs.flatMap cL).length=L*4):=by show _=_;rw[Q5,hl]
  have HON:=aT (Ck cs);have HNW:Hid (∀j u,(cs.flatMap cL)[j]? =some u->(w.alloc (.cells #[] TC)).cell? (A.add j)=some u):=λj u hu=>by
   have hj:j<(cs.flatMap cL).length:=(aq.1 hu).1;rw[Q5] at hj;obtain⟨x,hx⟩:∃x,cs[j/4]? =some x:=⟨_,aM jO⟩;obtain⟨_,_,e,hr⟩:=HM.out;injection e with e1;obtain⟨gu,off,e2,_,h0,h1,h2,h3⟩:=hr (j/4) x hx;rw[<-e1] at e2;cases e2;have Y:=RQ cs (j/4) x hx (j%4) (ave _ jD);rw[show j/4*4+j%4=j from jO,hu] at Y;rw[show(⟨gu,off,none⟩:Addr).add j=⟨gu,off+j,none⟩ by cases j<;>rfl,Y];have h4:=ave j (show 4>0 from jD);rcases (show j%4=0\/j%4=1\/j%4=2\/j%4=3 from jO) with e|e|e|e;·rw[e,show off+j=off+j/4*4 from jO];exact h0
   ·rw[e,show off+j=off+j/4*4+1 from jO];exact h1
   ·rw[e,show off+j=off+j/4*4+2 from jO];exact h2
   ·rw[e,show off+j=off+j/4*4+3 from jO];exact h3
  have U:∀w,(binOp .eql 89 (.slice (some A) L c) (.slice none 0 0)).run prog w=.ok (.bool false) w:=λ_=>jK
  clear hl hm;go_enter func92,ntmps92
  go_wp2_with (first
   |(at_builtin;refine aea _ rfl _ _ 89 rfl w.heap.size TC i0 (.agg #[.int .i64 0,.int .i64 0,.int .u64 0,.int .u64 0]) 4 32 underlying89 J SC Z TF rfl jD _ 0 [] rfl T A L c (cs.flatMap cL) rfl HLB HNW HON (by unfold maxLen;omega) jO I.size ?_;intro v' w6 C D _)
   |(refine wpList_plain rfl λK hK=> ?_;refine Ey _ 89 rfl underlying89 J Z ?_;refine hK _ _ ?_;clear hK K))
  rw[adf,ahe] at C;have HR:=aT C;have CT:=aT (I.grown D I.size (λk e=>(T.lt k e).1));clear C D;go_wp2_with fail;go_ret;exact⟨_,rfl,HR,CT⟩
end Go.Proofs.YtclgigmgbebhgaaGreatDoor
namespace Go.Proofs.YtclgigmgbebhgaaGreatDoor
open Tryz
open Go Go.Proofs
variable {a:Nat} {w:Nat->Nat}
theorem wW{c n:Z5}(h:c.right)(e:Xo c=.asks n):n.kept:=by
 intro C;obtain⟨_,ho,_⟩:=h;unfold Xo Yj XC WM at e;have A:c.o=1\/c.o=2\/c.o=3\/c.o=4\/c.o=5\/c.o=6\/c.o=7:=jO;have one:∀x:Z5,x.o≠7->Yv.asks x=.asks n->False:=λx hx e2=>by obtain rfl:=Yv.asks.inj e2;exact hx C
 rcases A with q|q|q|q|q|q|q;·rw[aH (.inl q)] at e;exact(one c jO e).elim
 ·rw[aH (.inr q)] at e;exact(one c jO e).elim
 ·rw[aN jO,aH q] at e;split at e
  ·cases e
  ·split at e;·exact(one _ jS e).elim
   ·exact(one _ jS e).elim
 ·rw[aN jO,aN jO,aH q] at e;split at e
  ·cases e
  ·split at e
   ·cases e
   ·split at e;·exact(one _ jS e).elim
    ·exact(one _ jS e).elim
 ·rw[aN jO,aN jO,aN jO,aH q] at e;split at e
  ·cases e
  ·split at e
   ·cases e
   ·split at e;·exact(one _ jS e).elim
    ·exact(one _ jS e).elim
 ·rw[aN jO,aN jO,aN jO,aN jO,aH q] at e;split at e
  ·cases e
  ·split at e;·exact(one _ jS e).elim
   ·exact(one _ jS e).elim
 ·rw[aN jO,aN jO,aN jO,aN jO,aN jO] at e;split at e
  ·cases e
  ·rename_i hn;split at e
   ·cases e
   ·split at e;·exact(one _ jS e).elim
    ·obtain rfl:=Yv.asks.inj e;exact Classical.not_not.1 hn
theorem Ty{f:Z5->Yv}:∀{cs ns:List Z5},ZP f cs=some ns->∀n∈ns,∃c∈cs,f c=.asks n
 |[],ns,h,n,hn=>by obtain rfl:=au h;cases hn
 |c::cs,ns,h,n,hn=>by
  unfold ZP at h;cases hf:f c with
  |never=>rw[hf] at h;cases h
  |always=>
   rw[hf] at h;obtain⟨d,C,A⟩:=Ty (cs:=cs) h n hn;exact⟨d,by simp[C],A⟩
  |asks m=>
   rw[hf] at h;dsimp only at h;cases hr:ZP f cs with
   |none=>rw[hr] at h;cases h
   |some l=>
    rw[hr] at h;obtain rfl:=au h;rcases abf.1 hn with rfl|hn;·exact⟨c,jS,hf⟩
    ·obtain⟨d,C,A⟩:=Ty hr n hn;exact⟨d,by simp[C],A⟩
def Uz(l:List Z3):Prop:=∀r∈l,∀c∈r.1,c.nf/\c.kept
theorem Ep{rs g:List Z3}(h:Ub rs g):(∀r∈rs,∀c∈r.1,c.right)->Uz g:=by
 induction h with
 |nil=>intro _ r hr;cases hr
 |gone _ _ C=>intro hr;exact C (λr hm=>hr r (by simp[hm]))
 |hid _ _ _ C=>intro hr;exact C (λr hm=>hr r (by simp[hm]))
 | @more rs g cs code ns _ hn _ C=>
   intro hr r hm;rcases abe.1 hm with hm|hm;·exact C (λr hm=>hr r (by simp[hm])) r hm
   ·rcases aaa.1 hm with rfl;intro c hc;obtain⟨l,J,I⟩:=hn;obtain⟨d,hd,D⟩:=Ty J c ((I c).1 hc);have A:=hr (cs,code) jS d hd;have:=(G6 A).1;rw[D] at this;exact⟨this.1,wW A D⟩
theorem KU{d:Nat}{l l':List Z3}(h:WL d l l'):∀r∈l',r∈l:=by
 induction h with
 |same l=>exact λr hr=>hr
 |one _ A=>exact λr hr=>abe.2 (.inl (A r hr))
def strike(d:Nat)(l:List Z3):List Z3:=(l.reverse.dropWhile (λr=>r.2 == d)).reverse
theorem V2(d:Nat):∀(k:Nat) (l:List Z3),l.length<=k->WL d l (strike d l)
 |_,[],_=>WL.same []
 |0,x::r,h=>by simp at h
 |k+1,x::r,h=>by
  have A:x::r≠[]:=jS;have e:x::r=(x::r).dropLast++[(x::r).getLast A]:=(apd A).symm;generalize hi:(x::r).dropLast=i at*;generalize hz:(x::r).getLast A=z at*;have hlen:i.length<=k:=by rw[<-hi];simp at h ⊢;omega
  rw[e];unfold strike;rw[List.reverse_append];show WL d (i++[z]) ((z::i.reverse).dropWhile (λr=>r.2 == d)).reverse;rw[aqa];by_cases hd:z.2=d;·rw[aH (by simpa using hd)];obtain⟨D,C⟩:=z;obtain rfl:C=d:=hd;exact WL.one (V2 _ k i hlen)
  ·rw[aN (by simpa using hd)];rw[awe,axd];exact WL.same _
def Yt(a d:Nat)(g:List Z3):List Z3:=strike d (if a=2 then YJ g else UX g)
theorem dc (hw:He w){d:Nat}{g:List Z3}(h:Uz g):(ZC (VX w (decide (a≠2))) (Yt a d g)).getD d=(ZC (VX w (decide (a≠2))) g).getD d:=by
 unfold Yt;rw[Jh (V2 d _ _ (aP _))];by_cases ha:a=2
 ·rw[aH ha]
  have:∀x,VX w (decide (a≠2)) x<Vb:=λx=>by unfold VX;rw[aN (by simp[ha])];exact hw _
  rw[Lf this g h]
 ·rw[aN ha,EN]
theorem MT:∀(l:List Z3),Uz l->∀r∈YJ l,∀c∈r.1,c.nf/\c.v<Vb/\c.m<Vb
 |[],_,r,hr,_,_=>by cases hr
 |(cs,code)::l,h,r,hr,c,hc=>by
  have D:=MT l (λx hx=>h x (by simp[hx]));unfold YJ at hr;cases ha:ZP Zk cs with
  |none=>rw[ha] at hr;exact D r hr c hc
  |some ns=>
   rw[ha] at hr;have C:∀n∈ns,n.nf/\n.v<Vb/\n.m<Vb:=λn hn=>by obtain⟨d,hd,I⟩:=Ty ha n hn;have A:=h (cs,code) jS d hd;have:=(NI A.1 A.2).2;rw[I] at this;exact⟨this.1,this.2.2.1,this.2.2.2⟩
   cases ns with
   |nil=>
    rcases aaa.1 hr with rfl;cases hc
   |cons n ns=>
    rcases abf.1 hr with rfl|hr;·exact C c hc
    ·exact D r hr c hc
theorem Nx:∀(l:List Z3),∀r∈UX l,r∈l
 |[],r,hr=>by cases hr
 |(cs,code)::l,r,hr=>by
  unfold UX at hr;split at hr;·rcases aaa.1 hr with rfl;simp
  ·rcases abf.1 hr with rfl|hr;·simp
   ·exact aff _ (Nx l r hr)
theorem KT{d:Nat}{g:List Z3}(h:Uz g):Hb (.rules (decide (a≠2)) (Yt a d g))/\∀r∈Yt a d g,∀c∈r.1,c.nf:=by
 have sub:=KU (V2 d _ (if a=2 then YJ g else UX g) (aP _));have all:∀r∈Yt a d g,∀c∈r.1,c.nf/\(a≠2\/(c.v<Vb/\c.m<Vb)):=by
  intro r hr c hc;have hm:=sub r hr;by_cases ha:a=2;·rw[aH ha] at hm;have:=MT g h r hm c hc;exact⟨this.1,.inr this.2⟩
  ·rw[aN ha] at hm;exact⟨(h r (Nx g r hm) c hc).1,.inl ha⟩
 refine⟨λr hr c hc=> ?_,λr hr c hc=>(all r hr c hc).1⟩;obtain⟨C,A⟩:=all r hr c hc;exact⟨C.2.1,A.imp (λe=>by simpa using e) id⟩
structure Pc where
 num:Nat->Int
 rules:List Z3
def whole(a n:Nat):Nat:=if a=1 then n+Wj else n
def UK(Vy:Bool)(d:Nat)(gs:List Pc)(s0 s1:List (Nat×Nat))(a:Nat)(ps:List (Nat×ZO)):Prop:=
 WO ps/\∀q:Nat×ZO,q∈ps↔(∃g∈gs,0<=g.num a/\(a=1->Vy=true)/\Yt a d g.rules≠[]/\q=(whole a (g.num a).toNat,.rules (decide (a≠2)) (Yt a d g.rules)))\/(a=2/\(q=(102,.subs s0)\/q=(117,.subs s1)))
theorem Eo{ps:List (Nat×ZO)}(h:ps.Pairwise (λp q=>p.1<q.1)){q:Nat×ZO}(A:q∈ps):ps.find? (λp=>p.1 == q.1)=some q:=by
 induction ps with
 |nil=>cases A
 |cons p ps I=>
  obtain⟨D,C⟩:=age.1 h;rcases abf.1 A with rfl|A;·exact aqb jS
  ·have:=D q A;rw[anb (by simp;omega)];exact I C A
theorem I5{n m:Nat}(h:whole a n=whole a m):n=m:=by
 unfold whole at h;split at h<;>omega
theorem RM (hw:He w){Vy:Bool}{d:Nat}{gs:List Pc}{s0 s1:List (Nat×Nat)} {ps:List (Nat×ZO)}(hp:UK Vy d gs s0 s1 a ps)(hx:a=1->Vy=true)(hR:∀g∈gs,Uz g.rules)
 {n:Nat} {G:List Z3} (C:a=2->n≠102/\n≠117) (hG:(∃g∈gs,g.num a=n/\g.rules=G/\∀g'∈gs,g'.num a=n->g'=g)\/(G=[]/\∀g∈gs,g.num a≠n)):
 UZ w d ps (whole a n)=(ZC (VX w (decide (a≠2))) G).getD d:=by
 obtain⟨⟨T,_⟩,D⟩:=hp;have A:(∀g∈gs,g.num a=n->Yt a d g.rules=[])->UZ w d ps (whole a n)=d:=by
  intro J;unfold UZ;have:ps.find? (λp=>p.1 == whole a n)=none:=by
   rw[ayg];intro q Z e;have e:q.1=whole a n:=by simpa using e
   rcases (D q).1 Z with⟨g,U,h0,_,hne,rfl⟩|⟨ha,rfl|rfl⟩;·have:=I5 e;exact hne (J g U jO)
   ·have:whole a n=n:=by unfold whole;rw[aN jO]
    rw[this] at e;exact(C ha).1 e.symm
   ·have:whole a n=n:=by unfold whole;rw[aN jO]
    rw[this] at e;exact(C ha).2 e.symm
  rw[this];rfl
 rcases hG with⟨g,U,hn,rfl,I⟩|⟨rfl,J⟩
 ·have ho:=dc (a:=a) (d:=d) hw (hR g U);by_cases he:Yt a d g.rules=[];·rw[A (λg' Y hn'=>by rw[I g' Y hn'];exact he),<-ho,he];rfl
  ·have Z:(whole a n,ZO.rules (decide (a≠2)) (Yt a d g.rules))∈ps:=(D _).2 (.inl ⟨g,U,jO,hx,he,by rw[show(g.num a).toNat=n from jO]⟩);unfold UZ;have hf:=Eo T Z;rw[show(whole a n,ZO.rules (decide (a≠2)) (Yt a d g.rules)).1=whole a n from rfl] at hf;rw[hf];show Pq w (decide (a≠2)) d (Yt a d g.rules)=_;rw[OP (KT (hR g U)).2,ho]
 ·rw[A (λg U e=>absurd e (J g U))];rfl
end Go.Proofs.YtclgigmgbebhgaaGreatDoor
namespace Go.Proofs.YtclgigmgbebhgaaGreatDoor
open Tryz
open Go Go.Proofs Go.RowKit
theorem sG:(prog.info? TQ).map (λi=>(i.zero,i.size,i.bytes))=some (some (.agg #[.slice none 0 0,.int .u32 0]),2,32):=jK
def qC(r:Z3)(u:Value):List Value:=[u,.int .u32 r.2]
def Xh:List Z3->List Value->List Value
 |r::rs,u::us=>qC r u++Xh rs us
 |_,_=>[]
theorem Pb(r:Z3)(u:Value):∀(rs:List Z3) (us:List Value),us.length=rs.length->Xh (rs++[r]) (us++[u])=Xh rs us++qC r u
 |[],[],_=>by simp[Xh]
 |x::rs,y::us,h=>by show qC x y++Xh (rs++[r]) (us++[u])=qC x y++Xh rs us++qC r u;rw[Pb r u rs us (by simpa using h),aba]
theorem En:∀(rs:List Z3) (us:List Value) (i:Nat) (r:Z3) (u:Value),rs[i]? =some r->us[i]? =some u->∀j,j<2->(Xh rs us)[i*2+j]? =(qC r u)[j]?
 |x::rs,y::us,0,r,u,hr,hu,j,hj=>by
  simp at hr hu;subst hr hu;show(qC x y++Xh rs us)[0*2+j]? =_;rw[abc (by show _<2;omega)]
  congr 1
  omega
 |x::rs,y::us,i+1,r,u,hr,hu,j,hj=>by have A:=En rs us i r u (by simpa using hr) (by simpa using hu) j hj;show(qC x y++Xh rs us)[(i+1)*2+j]? =_;rw[aae (by show 2<=_;omega),show(i+1)*2+j-(qC x y).length=i*2+j by show(i+1)*2+j-2=_;omega];exact A
 |[],_,i,r,u,hr,_,_,_=>by simp at hr
 |_::_,[],i,r,u,_,hu,_,_=>by simp at hu
theorem I4:∀(a:List Z3) (ua:List Value),ua.length=a.length->(Xh a ua).length=a.length*2
 |[],[],_=>rfl
 |x::a,y::ua,h=>by show(qC x y++Xh a ua).length=_;rw[ay,I4 a ua (by simpa using h)];show 2+_=(a.length+1)*2;omega
theorem KS:∀(m:Nat) (a:List Z3) (ua:List Value),ua.length=a.length->Xh (a.take m) (ua.take m)=(Xh a ua).take (m*2)
 |0,a,ua,_=>by simp[Xh]
 |m+1,[],[],_=>by simp[Xh]
 |m+1,x::a,y::ua,h=>by have A:=KS m a ua (by simpa using h);show qC x y++Xh (a.take m) (ua.take m)=(qC x y++Xh a ua).take ((m+1)*2);rw[A,List.take_append,show(qC x y).length=2 from rfl,show(m+1)*2-2=m*2 from jO,abd (l:=qC x y) (by show 2<=_;omega)]
structure Yi(lo:Nat)(W:World)(v:Value)(rs:List Z3)(us:List Value):Prop where
 len:us.length=rs.length
 row:W.ownsRow lo TQ 2 v rs.length (Xh rs us)
 cs:∀(j:Nat) (u:Value) (r:Z3),us[j]? =some u->rs[j]? =some r->W.ownsRow 0 TC 4 u r.1.length (r.1.flatMap cL)
section
variable {lo:Nat} {W W':World} {v:Value} {rs:List Z3} {us:List Value}
theorem Yi.cell{a:Option Addr}{n c:Nat}(h:Yi lo W (.slice a n c) rs us){i:Nat}{r:Z3}(hr:rs[i]? =some r):∃g u,a=some ⟨g,0,none⟩/\g<W.heap.size/\lo<=g/\us[i]? =some u/\W.cell? ⟨g,i*2,none⟩=some u/\W.cell? ⟨g,i*2+1,none⟩=some (.int .u32 r.2):=by
 have C:=(aq.1 hr).1;obtain⟨u,hu⟩:∃u,us[i]? =some u:=⟨_,aM (by rw[h.len];exact C)⟩;have hn:n=rs.length:=by obtain⟨a',Y,T⟩:=ZY h.row;injection T
 subst hn;rcases h.row.2 with⟨e,U⟩|⟨g,cap,D,e,A,J,_⟩;·omega
 ·injection e with e1 _ e2;subst e1;have at_:∀j,j<2->W.cell? ⟨g,i*2+j,none⟩=(qC r u)[j]? :=λj I=>by rw[h.row.cellAt (i*2+j) jO,En rs us i r u hr hu j I]
  exact⟨g,u,rfl,(aab.1 J).1,A,hu,at_ 0 jD,at_ 1 jD⟩
theorem Yi.rules(h:Yi lo W v rs us):UC W.heap.size W v rs:=by
 obtain⟨a,c,rfl⟩:=ZY h.row;refine⟨a,c,rfl,λi r hr=> ?_⟩;obtain⟨g,u,e,A,_,hu,C,D⟩:=h.cell hr;exact⟨g,0,u,e,A,by rw[adf];exact C,by rw[adf];exact D,Tz (h.cs i u r hu hr)⟩
theorem Yi.grown{row:Option Nat}(h:Yi lo W v rs us)(I:W.grownBy W' row)(hr:∀k,row=some k->v.ownBlock≠some k/\∀cs,¬Z8 W k TC cs):Yi lo W' v rs us:=by
 refine⟨h.len,h.row.kept I ?_,λj u r hu C=>(h.cs j u r hu C).kept I ?_⟩
 ·cases A:row with
  |none=>cases v.ownBlock<;>simp
  |some k=>exact .inr (hr k A).1
 ·cases A:row with
  |none=>cases u.ownBlock<;>simp
  |some k=>
   refine .inr (λe=> ?_);rcases (h.cs j u r hu C).2 with⟨rfl,_⟩|⟨g,cap,D,rfl,_,hb,_⟩
   ·cases e
   ·have e2:g=k:=au e;subst e2;exact(hr g A).2 D hb
theorem Yi.Zs(h:Yi lo W v rs us)(hb:Below W.heap.size W W'):Yi lo W' v rs us:=
 h.grown (row:=none) ⟨hb.os,hb.tape,hb.output,hb.size,λk hk _=>hb.block k hk⟩ (λk e=>by cases e)
theorem Yi.mono{lo':Nat}(h:Yi lo W v rs us)(hl:lo'<=lo):Yi lo' W v rs us:=⟨h.len,Ze h.row hl,h.cs⟩
theorem Yi.nil(lo:Nat)(W:World):Yi lo W (.slice none 0 0) [] []:=⟨rfl,ane _ _ _ _,λj u r h=>by simp at h⟩
theorem TY{k t t':Nat}{cs cs':Array Value}(h:Z8 W k t cs)(A:Z8 W k t' cs'):t=t':=by
 have:=(show W.heap[k]? =_ from h).symm.trans A;simp only[aka,aye] at this;exact this.2.1
theorem Yi.set{B t:Nat}{cs:Array Value}(h:Yi lo W v rs us)(A:Z8 W B t cs)(D:TQ≠t)(C:TC≠t)(j:Nat)(u:Value):Yi lo (W.setCell ⟨B,j,none⟩ u) v rs us:=
 ⟨h.len,ZW h.row A D j u,λi x r hx hr=>ZW (h.cs i x r hx hr) A C j u⟩
theorem Yi.lF{B:Nat}{cs:Array Value}(h:Yi lo W v rs us)(C:Z8 W B TQ cs)(A:v.ownBlock≠some B)(j:Nat)(u:Value):Yi lo (W.setCell ⟨B,j,none⟩ u) v rs us:=
 h.grown (row:=some B) ⟨rfl,rfl,rfl,jS,λk _ hk=>afd W ⟨B,j,none⟩ u k (λe=>hk (by rw[e]))⟩ (λk e=>by obtain rfl:=au e;exact⟨A,λcs' hb=>absurd (TY C hb) jD⟩)
theorem Yi.take{g n cap:Nat}(h:Yi lo W (.slice (some ⟨g,0,none⟩) n cap) rs us){m:Nat}(hm:m<=rs.length):Yi lo W (.slice (some ⟨g,0,none⟩) m cap) (rs.take m) (us.take m):=by
 have hn:n=rs.length:=by obtain⟨a',c',e'⟩:=ZY h.row;injection e'
 subst hn;refine⟨by rw[abg,abg,h.len],?_,λj u r hu hr=> ?_⟩
 ·have hl:(rs.take m).length=m:=by rw[abg];omega
  rw[KS m rs us h.len,hl];have D:=I4 rs us h.len;refine⟨by rw[abg,D];omega,?_⟩;rcases h.row.2 with⟨e,_⟩|⟨g',I,C,e,A,Y,h4,T,Z,J⟩
  ·cases e
  ·injection e with e1 e2 e3;injection e1 with e1;injection e1 with e1;subst e1 e3;refine .inr ⟨g,cap,C,rfl,A,Y,jO,T,Z,?_⟩;rw[<-J,List.take_take,Nat.min_eq_left jO]
 ·rw[aif] at hu hr;split at hu;·rename_i U;rw[aH U] at hr;exact h.cs j u r hu hr
  ·cases hu
end
end Go.Proofs.YtclgigmgbebhgaaGreatDoor
namespace Go.Proofs.YtclgigmgbebhgaaGreatDoor
open Tryz
open Go Go.Proofs Go.RowKit Go.Maps Go.WideMaps Go.ChangeMaps
def Xg(a:Nat)(l:List Z3):List Z3:=if a=2 then YJ l else UX l
theorem wV(a:Nat):Xg a []=[]:=by unfold Xg;split<;>rfl
theorem sF(a d:Nat)(l:List Z3):Yt a d l=strike d (Xg a l):=rfl
theorem YX.mono{N K:Nat}{W:World}{v:Value}{cs:List Z5}(h:YX N W v cs)(hk:N<=K):YX K W v cs:=by
 obtain⟨ua,uc,e,h⟩:=h;refine⟨ua,uc,e,λk c hc=> ?_⟩;obtain⟨C,off,e,hl,A⟩:=h k c hc;exact⟨C,off,e,acf hl hk,A⟩
structure I3(lo P:Nat)(w0 W:World)(v:Value)(l:List Z3)(us:List Value)(cs:List Z5)(code:Nat)(ua:Option Addr)(K uc:Nat)(pc:Option Value)(pb:Option (Nat×Value)):Prop where
 row:Yi lo W v l us
 Zs:Below lo w0 W
 lw:lo<=W.heap.size
 bp:Z8 W P TQ #[.slice ua K uc,.int .u32 code]
 ne:v.ownBlock≠some P
 cm:pc=none->YX W.heap.size W (.slice ua K uc) cs
 tc:∀x,pc=some x->W.ownsRow 0 TC 4 x cs.length (cs.flatMap cL)
 tb:∀b x,pb=some (b,x)->Z8 W b TQ #[x,.int .u32 code]/\x.oneCell'=true/\pc=some x
section
variable {lo P:Nat} {w0 W:World} {v:Value} {l:List Z3} {us:List Value} {cs:List Z5} {code:Nat} {ua:Option Addr} {K uc:Nat} {pc:Option Value} {pb:Option (Nat×Value)}
theorem I3.S(h:I3 lo P w0 W v l us cs code ua K uc pc pb):W.cell? ⟨P,0,none⟩=some (.slice ua K uc)/\W.cell? ⟨P,1,none⟩=some (.int .u32 code):=(XJ h.bp).1
theorem I3.drew(h:I3 lo P w0 W v l us cs code ua K uc pc pb):I3 lo P w0 W.drew v l us cs code ua K uc pc pb:=
 ⟨⟨h.row.len,h.row.row.drew,λj u r hu hr=>(h.row.cs j u r hu hr).drew⟩,h.Zs.drew,h.lw,h.bp,h.ne,λe=>(h.cm e).below (N:=W.heap.size) (K:=W.heap.size) (aG _ _).drew (aP _),λx e=>(h.tc x e).drew,h.tb⟩
theorem I3.clone(h:I3 lo P w0 W v l us cs code ua K uc none none)(D:cs.length=K)(A:K<=1000000):
 Calls prog 92 #[.slice ua K uc] W λe w'=>∃C xc,e=.returned (.slice C K xc)/\I3 lo P w0 w' v l us cs code ua K uc (some (.slice C K xc)) none:=by
 refine(Cj D A W (h.cm rfl) (aP _)).mono ?_;rintro e w' ⟨x,rfl,hx,hb⟩;obtain⟨C,xc,rfl⟩:=ZY hx;refine⟨C,xc,rfl,h.row.Zs hb,h.Zs.trans (hb.mono h.lw),aO h.lw hb.size,h.bp.below hb h.bp.lt,h.ne,λe=>(by cases e),λy e=> ?_,λb y e=>(by cases e)⟩;cases e;rw[D];exact Ze hx (abb _)
theorem I3.Xm{x:Value}(h:I3 lo P w0 W v l us cs code ua K uc (some x) none)(hx:x.oneCell'=true):I3 lo P w0 (W.alloc (.cells #[x,.int .u32 code] TQ)) v l us cs code ua K uc (some x) (some (W.heap.size,x)):=
 ⟨h.row.Zs ((aG _ _).alloc (aP _) _),h.Zs.alloc h.lw _,by rw[ai];have:=h.lw;omega,h.bp.alloc _,h.ne,λe=>(by cases e),λy e=>(h.tc y e).alloc _,λb y e=>(by cases e;exact⟨Z8.new W _ _,hx,rfl⟩)⟩
theorem Xr{W:World}{B e s n:Nat}{v:Value}{xs:List Value}(h:W.ownsRow B e s v n xs){k:Nat}(hk:v.ownBlock=some k):∃cs,Z8 W k e cs:=by
 rcases h.2 with⟨rfl,_⟩|⟨g,cap,A,rfl,_,hb,_⟩
 ·cases hk
 ·cases hk;exact⟨A,hb⟩
theorem I3.step{ops:Array Oper}{o:Oper}{a:Act}{Kk:Act->World->Prop}{Q:Exit->Act->World->Prop}{E:Prop}{b:Nat}{x:Value}(h:I3 lo P w0 W v l us cs code ua K uc pc (some (b,x)))(U:o.guard=none)(s y:Operand)
 (ho:o.op=.call {callee:=.builtin .append,args:=#[s,y],argTypes:=#[115,115]}) (hs:a.eval s=v) (hx:a.eval y=.slice (some ⟨b,0,none⟩) 1 1) (XA:l.length<=1000000)
 (hK:∀gb cap w',Yi lo w' (.slice (some ⟨gb,0,none⟩) (l.length+1) cap) (l++[(cs,code)]) (us++[x])/\Below lo w0 w'/\Z8 w' P TQ #[.slice ua K uc,.int .u32 code]/\lo<=w'.heap.size->Kk (a.put o.dst (.slice (some ⟨gb,0,none⟩) (l.length+1) cap)) w'):
 if Region.wanted o (yielded ops a.tmps)=true then Oper.wp prog o a W Kk Q else E:=by
 obtain⟨i0,hi,hz0,Y,hz2⟩:=PH sG;obtain⟨hb,C,hpc⟩:=h.tb b x rfl;refine step_append_lies W U s y 115 ho lo TQ i0 (.agg #[.slice none 0 0,.int .u32 0]) 2 32 underlying115 hi hz0 Y hz2 rfl jD v l.length (Xh l us) hs h.row.row ⟨b,0,none⟩ 1 1 [x,.int .u32 code] hx rfl ?_ ?_ jD (by unfold maxLen;omega) jO h.lw _ rfl ?_;·exact World.news_of_block hb
 ·intro u hu;simp at hu;rcases hu with rfl|rfl;·exact C
  ·rfl
 ·intro gb cap w' D J hat _
  have I:∀k,v.ownBlock=some k->∀cs,¬Z8 W k TC cs:=λk hk cs Z=>by obtain⟨cs',h2⟩:=Xr h.row.row hk;exact absurd (TY h2 Z) jD
  have A:∀{u:Value} {ds:List Z5},W.ownsRow 0 TC 4 u ds.length (ds.flatMap cL)->w'.ownsRow 0 TC 4 u ds.length (ds.flatMap cL):=λ{u ds} h1=>by
   refine h1.kept J ?_;cases hv:v.ownBlock with
   |none=>cases u.ownBlock<;>simp
   |some k=>
    refine .inr (λe=> ?_);obtain⟨cs',h2⟩:=Xr h1 e;exact I k hv cs' h2
  refine hK gb cap w' ⟨⟨?_,?_,λj u r hu hr=> ?_⟩,h.Zs.grown J h.lw (λk e=>(h.row.row.lt k e).1),Z8.kept h.bp J (λe=>h.ne e.symm),aO h.lw J.size⟩;·rw[ay,ay,h.row.len];rfl
  ·rw[ay,Pb _ _ _ _ h.row.len];exact D
  ·by_cases hj:j<l.length;·rw[abc (by rw[h.row.len];exact hj)] at hu;rw[abc hj] at hr;exact A (h.row.cs j u r hu hr)
   ·rw[aae (by rw[h.row.len];omega),h.row.len] at hu;rw[aae jO] at hr
    have T:j-l.length=0:=by have:=(aq.1 hr).1;simp at this;omega
    rw[T] at hu hr;simp at hu hr;subst hu hr;exact A (h.tc _ hpc)
end
theorem cZ:∀w,(Go.sizeOf TQ).run prog w=.ok 2 w:=λ_=>jK
theorem Em(W:World)(g n C k:Nat)(hk:k<=C):(Instr.slice 115 (.slice (some ⟨g,0,none⟩) n C) none (some (.int .i64 k)) none).run prog W=.ok (.slice (some ⟨g,0,none⟩) k C) W:=by
 have A:prog.underlying 115=some (.slice (prog.elem 115)):=by simp[Program.elem,underlying115]
 have D:prog.elem 115=TQ:=by simp[Program.elem,underlying115]
 rw[run_slice_h W _ _ _ _ A .i64 _ jO jO,D,cZ];simp[Result.andThen,sliced,Addr.add]
end Go.Proofs.YtclgigmgbebhgaaGreatDoor
