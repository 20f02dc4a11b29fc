/- TopOther: part 8: TopN5 TopRes2 TopN6 TopMapS TopN7 TopRes3 TopResQ TopRes4 TopRes5. -/
import Derived.Deep.RegionLaw
import Derived.Test.YtclgigmgbebhgaaGreatDoorO07
set_option linter.unusedVariables false
set_option linter.unusedSimpArgs false
set_option maxRecDepth 100000
set_option maxHeartbeats 16000000
namespace Go.Proofs.YtclgigmgbebhgaaGreatDoor
open Tryz
open Go Go.Proofs Go.RowKit
variable {tmps:Array Value} {xs:List Value} {base s t R N L:Nat} {p:Nat->Bool} {a:Option Addr} {P:Prop} {W w w':World}
abbrev TR:Nat:=91
theorem UK{f:Z5->Yx}{c:Z5}:∀{l ls:List Z5},ZO f l=some ls->∀n,f c=.asks n->ZO f (l++[c])=some (ls++[n])
 |[],ls,h,n,hc=>by obtain rfl:=ax h;show(match f c with | .never=>none | .always=>ZO f [] | .asks n=>(ZO f []).map (n::·))=_;rw[hc];rfl
 |x::l,ls,h,n,hc=>by
  have e:ZO f (x::l)=(match f x with | .never=>none | .always=>ZO f l | .asks n=>(ZO f l).map (n::·)):=rfl;show(match f x with | .never=>none | .always=>ZO f (l++[c]) | .asks n=>(ZO f (l++[c])).map (n::·))=_;rw[e] at h;cases hx:f x with
  |never=>rw[hx] at h;cases h
  |always=>rw[hx] at h;exact UK h n hc
  |asks m=>
   rw[hx] at h;dsimp only at h ⊢;cases hr:ZO f l with
   |none=>rw[hr] at h;cases h
   |some k=>
    rw[hr] at h;obtain rfl:=ax h;rw[UK hr n hc];rfl
theorem UJ{f:Z5->Yx}{c:Z5}:∀{l ls:List Z5},ZO f l=some ls->f c=.always->ZO f (l++[c])=some ls
 |[],ls,h,hc=>by show(match f c with | .never=>none | .always=>ZO f [] | .asks n=>(ZO f []).map (n::·))=_;rw[hc];exact h
 |x::l,ls,h,hc=>by
  have e:ZO f (x::l)=(match f x with | .never=>none | .always=>ZO f l | .asks n=>(ZO f l).map (n::·)):=rfl;show(match f x with | .never=>none | .always=>ZO f (l++[c]) | .asks n=>(ZO f (l++[c])).map (n::·))=_;rw[e] at h;cases hx:f x with
  |never=>rw[hx] at h;cases h
  |always=>rw[hx] at h;exact UJ h hc
  |asks m=>
   rw[hx] at h;dsimp only at h ⊢;cases hr:ZO f l with
   |none=>rw[hr] at h;cases h
   |some k=>
    rw[hr] at h;rw[UJ hr hc];exact h
theorem TA{f:Z5->Yx}:∀{l:List Z5} {c:Z5},c∈l->f c=.never->ZO f l=none
 |x::l,c,hm,hc=>by
  show(match f x with | .never=>none | .always=>ZO f l | .asks n=>(ZO f l).map (n::·))=_;rcases abf.1 hm with rfl|hm;·rw[hc]
  ·have A:=TA hm hc;rw[A];cases f x<;>rfl
theorem Tz{f:Z5->Yx}:∀{l ls:List Z5},ZO f l=some ls->ls.length<=l.length
 |[],ls,h=>by obtain rfl:=ax h;exact aR _
 |x::l,ls,h=>by
  have e:ZO f (x::l)=(match f x with | .never=>none | .always=>ZO f l | .asks n=>(ZO f l).map (n::·)):=rfl;rw[e] at h;cases hx:f x with
  |never=>rw[hx] at h;cases h
  |always=>rw[hx] at h;exact Nat.le_succ_of_le (Tz h)
  |asks m=>
   rw[hx] at h;dsimp only at h;cases hr:ZO f l with
   |none=>rw[hr] at h;cases h
   |some k=>
    rw[hr] at h;obtain rfl:=ax h;exact axd (Tz hr)
theorem VS{α:Type}{l:List α}{i:Nat}{x:α}(h:l[i]? =some x):l.take (i+1)=l.take i++[x]:=by
 have hl:=au.1 h;rw[List.take_succ_eq_append_getElem hl.1,hl.2]
theorem YZ {B e n:Nat}{v:Value} {cs:Array Value}(h:W.ownsRow base e s v n xs)(D:Z7 W B t cs)(ht:e≠t):v.ownBlock≠some B:=by
 rcases h.2 with⟨rfl,_⟩|⟨g,cap,C,rfl,_,A,_⟩;·intro e2;cases e2
 ·intro e2;have e3:g=B:=ax e2;subst e3;have:=A.symm.trans D;simp only[akf,ayf] at this;exact ht this.2.1
theorem Z1 {e n:Nat}{v:Value} (h:W.ownsRow base e s v n xs):∃a c,v=.slice a n c:=by
 rcases h.2 with⟨rfl,C⟩|⟨g,cap,A,rfl,_⟩;·exact⟨none,0,by rw[C]⟩
 ·exact⟨_,_,rfl⟩
theorem ZV {B e n:Nat}{v:Value} {cs:Array Value}(h:W.ownsRow base e s v n xs)(C:Z7 W B t cs)(ht:e≠t)(j:Nat)(u:Value):(W.setCell ⟨B,j,none⟩ u).ownsRow base e s v n xs:=
 h.kept (row:=some B) ⟨rfl,rfl,rfl,jS,λk _ A=>aef W ⟨B,j,none⟩ u k (λe=>A (by rw[e]))⟩ (.inr (YZ h C ht))
theorem IE(ls:List Z5)(x:Z5):(ls++[x]).flatMap cL=ls.flatMap cL++cL x:=by rw[acb];simp
theorem Gi:(prog.info? TC).map (λi=>(i.zero,i.size,i.bytes))=some (some (.agg #[.int .i64 0,.int .i64 0,.int .u64 0,.int .u64 0]),4,32):=jK
theorem RP{P:Program}{t:TypeId}{z:Value}{s b:Nat}(h:(P.info? t).map (λi=>(i.zero,i.size,i.bytes))=some (some z,s,b)):∃i,P.info? t=some i/\i.zero=some z/\i.size=s/\i.bytes=b:=by
 cases hi:P.info? t with
 |none=>rw[hi] at h;cases h
 |some i=>rw[hi] at h;simp at h;exact⟨i,rfl,h⟩
theorem D4{fn:Func}{t u:Tmp}(h:fn.results=#[.cell t TR,.tmp u]) {c0 c1 c2 c3:Value}(hb:Z7 W R TR #[c0,c1,c2,c3])(ht:tmps.getD t undef=.pointer (some ⟨R,0,none⟩)):(results fn tmps).run prog W=.ok (.tuple #[.agg #[c0,c1,c2,c3],tmps.getD u undef]) W:=by
 obtain⟨⟨e0,e1,e2,e3⟩,_⟩:=Z8 hb;rw[aif] at ht;simp[results,h,go_sem,ht,e0,e1,e2,e3]
def si(cs:List Z5)(nm:ByteArray)(k n:Int)(w:World)(e:Ending)(w':World):Prop:=
 ((Ub cs none/\e=.returned (.tuple #[.agg #[.string ⟨#[]⟩,.int .i64 0,.int .i64 0,.slice none 0 0],.bool false]))\/
  (∃(v:Value) (ns:List Z5),Ub cs (some ns)/\ns.length<=cs.length/\e=.returned (.tuple #[.agg #[.string nm,.int .i64 k,.int .i64 n,v],.bool true])/\w'.ownsRow w.heap.size TC 4 v ns.length (ns.flatMap cL)))/\Below w.heap.size w w'
theorem wI {ua:Option Addr}{uc:Nat}{cs:List Z5}{nm:ByteArray}{k n:Int}(hL:cs.length=L)(Xl:L<=1000)(hr:∀c∈cs,c.right)(w:World)(h:YX N w (.slice ua L uc) cs)(hN:N<=w.heap.size):
 Calls prog 86 #[.agg #[.string nm,.int .i64 k,.int .i64 n,.slice ua L uc]] w (si cs nm k n w):=by
 have HL:=aT hL;have tU:=aT hr;have HM:=aT h;have HP:Hid (Z7 (((w.alloc (.cells #[.string nm,.int .i64 k,.int .i64 n,.slice ua L uc] TR)).alloc (.cells #[.string ⟨#[]⟩,.int .i64 0,.int .i64 0,.slice none 0 0] TR)).alloc (.cells #[.string nm,.int .i64 k,.int .i64 n,.slice none 0 0] TR)) w.heap.size TR #[.string nm,.int .i64 k,.int .i64 n,.slice ua L uc]):=((Z7.new w _ _).alloc _).alloc _;have HR:Hid (Z7 (((w.alloc (.cells #[.string nm,.int .i64 k,.int .i64 n,.slice ua L uc] TR)).alloc (.cells #[.string ⟨#[]⟩,.int .i64 0,.int .i64 0,.slice none 0 0] TR)).alloc (.cells #[.string nm,.int .i64 k,.int .i64 n,.slice none 0 0] TR)) (w.heap.size+1) TR #[.string ⟨#[]⟩,.int .i64 0,.int .i64 0,.slice none 0 0]):=(Z7.O9 _ _ _ _).alloc _;have HO:Hid (Z7 (((w.alloc (.cells #[.string nm,.int .i64 k,.int .i64 n,.slice ua L uc] TR)).alloc (.cells #[.string ⟨#[]⟩,.int .i64 0,.int .i64 0,.slice none 0 0] TR)).alloc (.cells #[.string nm,.int .i64 k,.int .i64 n,.slice none 0 0] TR)) (w.heap.size+1+1) TR #[.string nm,.int .i64 k,.int .i64 n,.slice none 0 0]):=Z7.ah3 _ _ _ _ _;have HB:=aT (ah4 w (.cells #[.string nm,.int .i64 k,.int .i64 n,.slice ua L uc] TR) (.cells #[.string ⟨#[]⟩,.int .i64 0,.int .i64 0,.slice none 0 0] TR) (.cells #[.string nm,.int .i64 k,.int .i64 n,.slice none 0 0] TR));clear hL hr h;obtain⟨i0,XX,SC,Vo,TD⟩:=RP Gi;go_enter func86,ntmps86;go_upto_region 2 with fail;generalize ((w.alloc (.cells #[.string nm,.int .i64 k,.int .i64 n,.slice ua L uc] TR)).alloc (.cells #[.string ⟨#[]⟩,.int .i64 0,.int .i64 0,.slice none 0 0] TR)).alloc (.cells #[.string nm,.int .i64 k,.int .i64 n,.slice none 0 0] TR)=w3 at*;obtain⟨⟨p0,p1,p2,p3⟩,_⟩:=Z8 HP;obtain⟨R,hR⟩:=jX (w.heap.size+1);obtain⟨O,hO⟩:=jX (w.heap.size+1+1);rw[hO] at HO ⊢;rw[hR] at HR ⊢;have tT:w.heap.size<R:=jO;have hRO:R<O:=jO;clear hR hO;go_upto_region 3 with fail;go_loopg [17] (L+1) (λgg iv wr=>∃(i:Nat) (v:Value) (ls:List Z5),i<=L/\L-i<gg/\iv=.int .i64 (i:Int)/\ls.length<=i/\Hid (Z7 wr R TR #[.string ⟨#[]⟩,.int .i64 0,.int .i64 0,.slice none 0 0])/\Hid (Z7 wr O TR #[.string nm,.int .i64 k,.int .i64 n,v])/\Hid (wr.ownsRow w.heap.size TC 4 v ls.length (ls.flatMap cL))/\Hid (ZO Xn (cs.take i)=some ls)/\Hid (Below w.heap.size w wr));case atStart=>exact⟨0,.slice none 0 0,[],abc _,jO,rfl,aR _,HR,HO,akg _ _ _ _,(by show _=_;rfl),HB⟩
 case round=>
  obtain⟨i,v,ls,zm,VP,rfl,hlen,HR,HO,HW,HA,HB⟩:=hrel;have yU:=jZ i;have Jz:=jW i;by_cases hlt:i<L
  ·have Y8:(i:Int)<(L:Int):=by omega
   obtain⟨c,hc⟩:∃c,cs[i]? =some c:=⟨_,aM (by rw[HL.out];exact hlt)⟩;obtain⟨ua2,uc2,e,hrow⟩:=HM.out;injection e with e1 e3 e2;subst e1 e2;clear e3;obtain⟨gu,off,rfl,D3,y0,y1,y2,y3⟩:=hrow i c hc;have y0:=ZY HB hN D3 y0;have y1:=ZY HB hN D3 y1;have y2:=ZY HB hN D3 y2;have y3:=ZY HB hN D3 y3;have HT:=aT (VS hc);have Ci:=aT (af hc);have HC:=aT (λW=>wO c (tU c Ci) W);have Ut:Hid (∀m,Xn c=.asks m->ZO Xn (cs.take (i+1))=some (ls++[m])):=λm hm=>by rw[HT.out];exact UK HA m hm
   have Ls:Hid (Xn c=.always->ZO Xn (cs.take (i+1))=some ls):=λhm=>by rw[HT.out];exact UJ HA hm
   have Ch:Hid (Xn c=.never->ZO Xn cs=none):=λhm=>TA Ci hm
   clear hrow hc HT Ci HA;generalize Xn c=S at*;obtain⟨a,o,m,vv⟩:=c;unfold cC at HC;dsimp only at*;have HK:=aT (Z7.new wr TC #[.int .i64 a,.int .i64 o,.int .u64 m,.int .u64 vv]);have Jr:=aT (HR.alloc (.cells #[.int .i64 a,.int .i64 o,.int .u64 m,.int .u64 vv] TC));have Ek:=aT (HO.alloc (.cells #[.int .i64 a,.int .i64 o,.int .u64 m,.int .u64 vv] TC));have cn:=aT (HW.alloc (.cells #[.int .i64 a,.int .i64 o,.int .u64 m,.int .u64 vv] TC));have Uy:=aT (HB.alloc HB.size (.cells #[.int .i64 a,.int .i64 o,.int .u64 m,.int .u64 vv] TC));go_upto_region 5 with fail;clear HR HO HW HB y0 y1 y2 y3;generalize wr.alloc (.cells #[.int .i64 a,.int .i64 o,.int .u64 m,.int .u64 vv] TC)=w1 at*;obtain⟨⟨q0,q1,q2,q3⟩,_⟩:=Z8 HK;go_wp2_with fail;refine(HC w1).mono ?_;rintro e w2 ⟨rfl,hb⟩;have C:=aT (Jr.below hb Jr.lt);have Y:=aT (Ek.below hb Ek.lt);have J:Hid (w2.ownsRow w.heap.size TC 4 v ls.length (ls.flatMap cL)):=ZE cn hb;have A:=aT (Uy.trans (hb.mono Uy.size));clear hb Jr Ek cn Uy HK HC q0 q1 q2 q3;cases S with
   |never=>
    have mY:=aT (Ch rfl);obtain⟨_,f0,f1,f2,f3⟩:=Z8 (C.alloc (.cells #[.int .i64 0,.int .i64 0,.int .u64 0,.int .u64 0] TC));obtain⟨⟨r0,r1,r2,r3⟩,_⟩:=Z8 (C.alloc (.cells #[.int .i64 0,.int .i64 0,.int .u64 0,.int .u64 0] TC));simp only[mZ,cA,Int.natCast_zero] at*;go_wp2_with fail;refine aag (D4 rfl (ZG (C.alloc _) _ _ _ _) rfl) rfl ?_;exact⟨.inl ⟨mY,rfl⟩,ZF (A.alloc A.size _) (ace tT) _ _ _ _⟩
   |always=>
    have HAL:=aT (Ls rfl);simp only[mZ,cA,Int.natCast_zero] at*;go_wp2_with fail;go_roundg (L-i);case measure=>omega
    case rel=>exact⟨i+1,v,ls,jO,jO,by go_num,jO,C.alloc _,Y.alloc _,J.alloc _,HAL,A.alloc A.size _⟩
   |asks x=>
    have HAS:=aT (Ut x rfl);simp only[mZ,cA] at*;obtain⟨va,vc,rfl⟩:=Z1 J;obtain⟨xa,xo,xm,xv⟩:=x;dsimp only at*;have HX:=aT (Z7.new w2 TC #[.int .i64 xa,.int .i64 xo,.int .u64 xm,.int .u64 xv]);have JA:=aT (C.alloc (.cells #[.int .i64 xa,.int .i64 xo,.int .u64 xm,.int .u64 xv] TC));have U:=aT (Y.alloc (.cells #[.int .i64 xa,.int .i64 xo,.int .u64 xm,.int .u64 xv] TC));have cj:=aT (J.alloc (.cells #[.int .i64 xa,.int .i64 xo,.int .u64 xm,.int .u64 xv] TC));have Vj:=aT (A.alloc A.size (.cells #[.int .i64 xa,.int .i64 xo,.int .u64 xm,.int .u64 xv] TC));go_upto_region 10 with fail;clear C Y J A;generalize w2.alloc (.cells #[.int .i64 xa,.int .i64 xo,.int .u64 xm,.int .u64 xv] TC)=w4 at*;generalize w2.heap.size=XB at*;obtain⟨⟨x0,x1,x2,x3⟩,_⟩:=Z8 HX;obtain⟨⟨_,_,_,o3⟩,_⟩:=Z8 U;obtain⟨⟨_,_,_,o4⟩,_,_,_,f4⟩:=Z8 (U.alloc (.cells #[.int .i64 xa,.int .i64 xo,.int .u64 xm,.int .u64 xv] TC));have yT:=aT (U.alloc (.cells #[.int .i64 xa,.int .i64 xo,.int .u64 xm,.int .u64 xv] TC));have D:=aT (JA.alloc (.cells #[.int .i64 xa,.int .i64 xo,.int .u64 xm,.int .u64 xv] TC));have BB:=aT (cj.alloc (.cells #[.int .i64 xa,.int .i64 xo,.int .u64 xm,.int .u64 xv] TC));have KO:=aT (Vj.alloc Vj.size (.cells #[.int .i64 xa,.int .i64 xo,.int .u64 xm,.int .u64 xv] TC))
    go_wp2_with (at_builtin;(refine adg _ rfl _ _ 89 rfl w.heap.size TC i0 (.agg #[.int .i64 0,.int .i64 0,.int .u64 0,.int .u64 0]) 4 32 underlying89 XX SC Vo TD rfl jD _ ls.length _ rfl BB ⟨w4.heap.size,0,none⟩ 1 1 [.int .i64 xa,.int .i64 xo,.int .u64 xm,.int .u64 xv] rfl rfl (World.news_of_block (Z7.new w4 _ _)) (by simp[Value.oneCell']) (by unfold maxLen;omega) jO KO.size ?_;intro v' w7 hown' Z _;obtain⟨cg,vc',rfl⟩:=Z1 hown';have LM:=aT (yT.kept Z (λe=>YZ BB yT jD e.symm));obtain⟨⟨_,_,_,o7⟩,_,_,_,f7⟩:=Z8 LM))
    have HR7:=aT (D.kept Z (λe=>YZ BB D jD e.symm));have HW7:=aT hown';have Ov:=aT (KO.grown Z KO.size (λk e=>(BB.lt k e).1));go_wp2_with fail;go_roundg (L-i);case measure=>omega
    case rel=>exact⟨i+1,.slice cg (ls.length+1) vc',ls++[⟨xa,xo,xm,xv⟩],jO,jO,by go_num,by rw[ay];simp;omega,HR7.other jO 3 _,LM.set 3 _,(by rw[ay,IE];exact ZV HW7 LM jD 3 _),HAS,Ov.setCell (p:=⟨O,3,none⟩) (show w.heap.size<=O from jO) _⟩
  ·obtain rfl:i=L:=by omega
   have Y8:¬(i:Int)<(i:Int):=jO;have HN:Hid (ZO Xn cs=some ls):=by have h:=HA.out;rwa [abd (by rw[HL.out];exact aR _)] at h
   have HLN:Hid (ls.length<=cs.length):=by show ls.length<=cs.length;rw[HL.out];exact hlen
   have HS:=aT (wJ wr rfl (show ls.length<=1000000 from jO) HW);obtain⟨⟨_,_,_,o3⟩,_⟩:=Z8 HO;go_wp2_with fail;refine HS.mono ?_;rintro e w2 ⟨rfl,d,hp,hw2,hb2,hs2,hk2⟩;have Y:=aT (hk2 O _ HO (YZ HW HO jD));have C:=aT (hk2 R _ HR (YZ HW HR jD));have A:=aT (HB.trans hb2);have cf:=aT hp;have J:=aT hw2;have HCo:=aT (wK (l:=d) w2 hp.length_eq (show ls.length<=1000000 from jO) hw2);clear hp hw2 hb2 hs2 hk2 HS o3;obtain⟨⟨_,_,_,o3⟩,_⟩:=Z8 (show Z7 w2 O TR #[.string nm,.int .i64 k,.int .i64 n,v] from Y);go_wp2_with fail;refine HCo.mono ?_;rintro e w3 ⟨v',ns,rfl,hw3,hm3,hl3,hg3⟩;obtain⟨T,I,rfl⟩:=Z1 hw3;have U:=aT (Z7.kept (show Z7 w2 O TR #[.string nm,.int .i64 k,.int .i64 n,v] from Y) hg3 (λe=>YZ J Y jD e.symm));have JA:=aT (Z7.kept (show Z7 w2 R TR #[.string ⟨#[]⟩,.int .i64 0,.int .i64 0,.slice none 0 0] from C) hg3 (λe=>YZ J C jD e.symm));have Vj:=aT (A.grown hg3 A.size (λk e=>(J.lt k e).1));have cj:=aT hw3;have HNS:Hid (Ub cs (some ns)):=⟨ls,HN,λc=>(hm3 c).trans cf.mem_iff⟩;have HLS:Hid (ns.length<=cs.length):=aO hl3 HLN;clear hw3 hm3 hg3 hl3 HCo o3;obtain⟨⟨_,_,_,o3⟩,_,_,_,f3⟩:=Z8 U;have yT:=aT (U.set 3 (.slice T ns.length I));have D:=aT (JA.other (show R≠O from jO) 3 (.slice T ns.length I));have BB:=aT (ZV cj U jD 3 (.slice T ns.length I));have KO:=aT (Vj.setCell (p:=⟨O,3,none⟩) (show w.heap.size<=O from jO) (.slice T ns.length I));go_upto_region 14 with fail;clear o3 f3;generalize w3.setCell ⟨O,3,none⟩ (.slice T ns.length I)=w4 at*;obtain⟨⟨o0,o1,o2,o3⟩,_⟩:=Z8 (show Z7 w4 O TR #[.string nm,.int .i64 k,.int .i64 n,(.slice T ns.length I)] from yT);obtain⟨⟨r0,r1,r2,r3⟩,f0,f1,f2,f3⟩:=Z8 D;go_wp2_with fail;have h1:=ZV BB D jD 0 (.string nm);have h2:=ZV h1 (D.set 0 _) jD 1 (.int .i64 k);have h3:=ZV h2 ((D.set 0 _).set 1 _) jD 2 (.int .i64 n);have h4:=ZV h3 (((D.set 0 _).set 1 _).set 2 _) jD 3 (.slice T ns.length I);refine aag (D4 rfl (ZG D _ _ _ _) rfl) rfl ?_;exact⟨.inr ⟨(.slice T ns.length I),ns,HNS,HLS,rfl,h4⟩,ZF KO (ace tT) _ _ _ _⟩
abbrev TQ:Nat:=121
theorem XK{c0 c1:Value}(hb:Z7 W R t #[c0,c1]):(W.cell? ⟨R,0,none⟩=some c0/\W.cell? ⟨R,1,none⟩=some c1)/\W.frozen? ⟨R,0,none⟩=false/\W.frozen? ⟨R,1,none⟩=false:=by
 obtain⟨e0,e1⟩:=hb.q2;exact⟨⟨e0,e1⟩,hb.frozen 0,hb.frozen 1⟩
theorem KG{c0 c1:Value}(hb:Z7 W R t #[c0,c1])(C A:Value):Z7 ((W.setCell ⟨R,0,none⟩ C).setCell ⟨R,1,none⟩ A) R t #[C,A]:=(hb.set 0 C).set 1 A
theorem RO {n:Nat}(hb:Below n w W)(h:n<=R)(C A:Value):Below n w ((W.setCell ⟨R,0,none⟩ C).setCell ⟨R,1,none⟩ A):=(hb.setCell (p:=⟨R,0,none⟩) h C).setCell (p:=⟨R,1,none⟩) h A
theorem yR{fn:Func}{t u:Tmp}(h:fn.results=#[.cell t TQ,.tmp u]) {c0 c1:Value}(hb:Z7 W R TQ #[c0,c1])(ht:tmps.getD t undef=.pointer (some ⟨R,0,none⟩)):(results fn tmps).run prog W=.ok (.tuple #[.agg #[c0,c1],tmps.getD u undef]) W:=by
 obtain⟨⟨e0,e1⟩,_⟩:=XK hb;rw[aif] at ht;simp[results,h,go_sem,ht,e0,e1]
def BA(cs:List Z5)(cd:Nat)(w:World)(e:Ending)(w':World):Prop:=
 ((ZO Zk cs=none/\e=.returned (.tuple #[.agg #[.slice none 0 0,.int .u32 0],.bool false]))\/
  (∃(v:Value) (ns:List Z5),ZO Zk cs=some ns/\e=.returned (.tuple #[.agg #[v,.int .u32 cd],.bool true])/\w'.ownsRow w.heap.size TC 4 v ns.length (ns.flatMap cL)))/\Below w.heap.size w w'
theorem DZ {ua:Option Addr}{uc:Nat}{cs:List Z5}{cd:Nat}(hL:cs.length=L)(Xl:L<=1000)(hr:∀c∈cs,c.m<Yf/\c.v<Yf)(w:World)(h:YX N w (.slice ua L uc) cs)(hN:N<=w.heap.size):
 Calls prog 91 #[.agg #[.slice ua L uc,.int .u32 cd]] w (BA cs cd w):=by
 have HL:=aT hL;have tU:=aT hr;have HM:=aT h;have HP:Hid (Z7 (((w.alloc (.cells #[.slice ua L uc,.int .u32 cd] TQ)).alloc (.cells #[.slice none 0 0,.int .u32 0] TQ)).alloc (.cells #[.slice none 0 0,.int .u32 cd] TQ)) w.heap.size TQ #[.slice ua L uc,.int .u32 cd]):=((Z7.new w _ _).alloc _).alloc _;have HR:Hid (Z7 (((w.alloc (.cells #[.slice ua L uc,.int .u32 cd] TQ)).alloc (.cells #[.slice none 0 0,.int .u32 0] TQ)).alloc (.cells #[.slice none 0 0,.int .u32 cd] TQ)) (w.heap.size+1) TQ #[.slice none 0 0,.int .u32 0]):=(Z7.O9 _ _ _ _).alloc _;have HO:Hid (Z7 (((w.alloc (.cells #[.slice ua L uc,.int .u32 cd] TQ)).alloc (.cells #[.slice none 0 0,.int .u32 0] TQ)).alloc (.cells #[.slice none 0 0,.int .u32 cd] TQ)) (w.heap.size+1+1) TQ #[.slice none 0 0,.int .u32 cd]):=Z7.ah3 _ _ _ _ _;have Z:=aT (ah4 w (.cells #[.slice ua L uc,.int .u32 cd] TQ) (.cells #[.slice none 0 0,.int .u32 0] TQ) (.cells #[.slice none 0 0,.int .u32 cd] TQ));clear hL hr h;obtain⟨i0,XX,SC,Vo,TD⟩:=RP Gi;go_enter func91,ntmps91;go_upto_region 2 with fail;generalize ((w.alloc (.cells #[.slice ua L uc,.int .u32 cd] TQ)).alloc (.cells #[.slice none 0 0,.int .u32 0] TQ)).alloc (.cells #[.slice none 0 0,.int .u32 cd] TQ)=w3 at*;obtain⟨⟨p0,p1⟩,_⟩:=XK HP;obtain⟨R,hR⟩:=jX (w.heap.size+1);obtain⟨O,hO⟩:=jX (w.heap.size+1+1);rw[hO] at HO ⊢;rw[hR] at HR ⊢;have tT:w.heap.size<R:=jO;have hRO:R<O:=jO;clear hR hO;go_upto_region 3 with fail;go_loopg [15] (L+1) (λgg iv wr=>∃(i:Nat) (v:Value) (ls:List Z5),i<=L/\L-i<gg/\iv=.int .i64 (i:Int)/\ls.length<=i/\Hid (Z7 wr R TQ #[.slice none 0 0,.int .u32 0])/\Hid (Z7 wr O TQ #[v,.int .u32 cd])/\Hid (wr.ownsRow w.heap.size TC 4 v ls.length (ls.flatMap cL))/\Hid (ZO Zk (cs.take i)=some ls)/\Hid (Below w.heap.size w wr));case atStart=>exact⟨0,.slice none 0 0,[],abc _,jO,rfl,aR _,HR,HO,akg _ _ _ _,(by show _=_;rfl),Z⟩
 case round=>
  obtain⟨i,v,ls,zm,VP,rfl,hlen,HR,HO,HW,HA,Z⟩:=hrel;have yU:=jZ i;have Jz:=jW i;by_cases hlt:i<L
  ·have Y8:(i:Int)<(L:Int):=by omega
   obtain⟨c,hc⟩:∃c,cs[i]? =some c:=⟨_,aM (by rw[HL.out];exact hlt)⟩;obtain⟨ua2,uc2,e,hrow⟩:=HM.out;injection e with e1 e3 e2;subst e1 e2;clear e3;obtain⟨gu,off,rfl,D3,y0,y1,y2,y3⟩:=hrow i c hc;have y0:=ZY Z hN D3 y0;have y1:=ZY Z hN D3 y1;have y2:=ZY Z hN D3 y2;have y3:=ZY Z hN D3 y3;have HT:=aT (VS hc);have Ci:=aT (af hc);have HC:=aT (λW=>D7 c (tU c Ci).1 (tU c Ci).2 W);have Ut:Hid (∀m,Zk c=.asks m->ZO Zk (cs.take (i+1))=some (ls++[m])):=λm hm=>by rw[HT.out];exact UK HA m hm
   have Ls:Hid (Zk c=.always->ZO Zk (cs.take (i+1))=some ls):=λhm=>by rw[HT.out];exact UJ HA hm
   have Ch:Hid (Zk c=.never->ZO Zk cs=none):=λhm=>TA Ci hm
   clear hrow hc HT Ci HA;generalize Zk c=S at*;obtain⟨a,o,m,vv⟩:=c;unfold cC at HC;dsimp only at*;have HK:=aT (Z7.new wr TC #[.int .i64 a,.int .i64 o,.int .u64 m,.int .u64 vv]);have Jr:=aT (HR.alloc (.cells #[.int .i64 a,.int .i64 o,.int .u64 m,.int .u64 vv] TC));have Ek:=aT (HO.alloc (.cells #[.int .i64 a,.int .i64 o,.int .u64 m,.int .u64 vv] TC));have cn:=aT (HW.alloc (.cells #[.int .i64 a,.int .i64 o,.int .u64 m,.int .u64 vv] TC));have Uy:=aT (Z.alloc Z.size (.cells #[.int .i64 a,.int .i64 o,.int .u64 m,.int .u64 vv] TC));go_upto_region 5 with fail;clear HR HO HW Z y0 y1 y2 y3;generalize wr.alloc (.cells #[.int .i64 a,.int .i64 o,.int .u64 m,.int .u64 vv] TC)=w1 at*;obtain⟨⟨q0,q1,q2,q3⟩,_⟩:=Z8 HK;go_wp2_with fail;refine(HC w1).mono ?_;rintro e w2 ⟨rfl,hb⟩;have T:=aT (Jr.below hb Jr.lt);have Cg:=aT (Ek.below hb Ek.lt);have fY:Hid (w2.ownsRow w.heap.size TC 4 v ls.length (ls.flatMap cL)):=ZE cn hb;have C:=aT (Uy.trans (hb.mono Uy.size));clear hb Jr Ek cn Uy HK HC q0 q1 q2 q3;cases S with
   |never=>
    have mY:=aT (Ch rfl);obtain⟨_,f0,f1⟩:=XK (T.alloc (.cells #[.int .i64 0,.int .i64 0,.int .u64 0,.int .u64 0] TC));obtain⟨⟨r0,r1⟩,_⟩:=XK (T.alloc (.cells #[.int .i64 0,.int .i64 0,.int .u64 0,.int .u64 0] TC));simp only[mZ,cA,Int.natCast_zero] at*;go_wp2_with fail;refine aag (yR rfl (KG (T.alloc _) _ _) rfl) rfl ?_;exact⟨.inl ⟨mY,rfl⟩,RO (C.alloc C.size _) (ace tT) _ _⟩
   |always=>
    have HAL:=aT (Ls rfl);simp only[mZ,cA,Int.natCast_zero] at*;go_wp2_with fail;go_roundg (L-i);case measure=>omega
    case rel=>exact⟨i+1,v,ls,jO,jO,by go_num,jO,T.alloc _,Cg.alloc _,fY.alloc _,HAL,C.alloc C.size _⟩
   |asks x=>
    have HAS:=aT (Ut x rfl);simp only[mZ,cA] at*;obtain⟨va,vc,rfl⟩:=Z1 fY;obtain⟨D,I,J,U⟩:=x;dsimp only at*;have HX:=aT (Z7.new w2 TC #[.int .i64 D,.int .i64 I,.int .u64 J,.int .u64 U]);have JA:=aT (T.alloc (.cells #[.int .i64 D,.int .i64 I,.int .u64 J,.int .u64 U] TC));have tS:=aT (Cg.alloc (.cells #[.int .i64 D,.int .i64 I,.int .u64 J,.int .u64 U] TC));have cj:=aT (fY.alloc (.cells #[.int .i64 D,.int .i64 I,.int .u64 J,.int .u64 U] TC));have Vj:=aT (C.alloc C.size (.cells #[.int .i64 D,.int .i64 I,.int .u64 J,.int .u64 U] TC));go_upto_region 10 with fail;clear T Cg fY C;generalize w2.alloc (.cells #[.int .i64 D,.int .i64 I,.int .u64 J,.int .u64 U] TC)=w4 at*;generalize w2.heap.size=XB at*;obtain⟨⟨x0,x1,x2,x3⟩,_⟩:=Z8 HX;obtain⟨⟨o3,_⟩,_⟩:=XK tS;obtain⟨⟨o4,_⟩,f4,_⟩:=XK (tS.alloc (.cells #[.int .i64 D,.int .i64 I,.int .u64 J,.int .u64 U] TC));have yT:=aT (tS.alloc (.cells #[.int .i64 D,.int .i64 I,.int .u64 J,.int .u64 U] TC));have HR4:=aT (JA.alloc (.cells #[.int .i64 D,.int .i64 I,.int .u64 J,.int .u64 U] TC));have BB:=aT (cj.alloc (.cells #[.int .i64 D,.int .i64 I,.int .u64 J,.int .u64 U] TC));have KO:=aT (Vj.alloc Vj.size (.cells #[.int .i64 D,.int .i64 I,.int .u64 J,.int .u64 U] TC))
    go_wp2_with (at_builtin;(refine adg _ rfl _ _ 89 rfl w.heap.size TC i0 (.agg #[.int .i64 0,.int .i64 0,.int .u64 0,.int .u64 0]) 4 32 underlying89 XX SC Vo TD rfl jD _ ls.length _ rfl BB ⟨w4.heap.size,0,none⟩ 1 1 [.int .i64 D,.int .i64 I,.int .u64 J,.int .u64 U] rfl rfl (World.news_of_block (Z7.new w4 _ _)) (by simp[Value.oneCell']) (by unfold maxLen;omega) jO KO.size ?_;intro v' w7 Y A _;obtain⟨cg,vc',rfl⟩:=Z1 Y;have LM:=aT (yT.kept A (λe=>YZ BB yT jD e.symm));obtain⟨⟨o7,_⟩,f7,_⟩:=XK LM))
    have HR7:=aT (HR4.kept A (λe=>YZ BB HR4 jD e.symm));have HW7:=aT Y;have Ov:=aT (KO.grown A KO.size (λk e=>(BB.lt k e).1));go_wp2_with fail;go_roundg (L-i);case measure=>omega
    case rel=>exact⟨i+1,.slice cg (ls.length+1) vc',ls++[⟨D,I,J,U⟩],jO,jO,by go_num,by rw[ay];simp;omega,HR7.other jO 0 _,LM.set 0 _,(by rw[ay,IE];exact ZV HW7 LM jD 0 _),HAS,Ov.setCell (p:=⟨O,0,none⟩) (show w.heap.size<=O from jO) _⟩
  ·obtain rfl:i=L:=by omega
   have Y8:¬(i:Int)<(i:Int):=jO;have HN:Hid (ZO Zk cs=some ls):=by have h:=HA.out;rwa [abd (by rw[HL.out];exact aR _)] at h
   obtain⟨va,vc,rfl⟩:=Z1 HW;obtain⟨⟨o0,o1⟩,_⟩:=XK HO;obtain⟨⟨r0,r1⟩,f0,f1⟩:=XK HR;have h1:=aT (ZV HW HR jD 0 (.slice va ls.length vc));have h2:=aT (ZV h1 (HR.set 0 _) jD 1 (.int .u32 cd));go_wp2_with fail;refine aag (yR rfl (KG HR _ _) rfl) rfl ?_;exact⟨.inr ⟨(.slice va ls.length vc),ls,HN,rfl,h2⟩,RO Z (ace tT) _ _⟩
theorem KF{n:Nat}{wr:World}(h:Below n w wr)(q:Nat):Below n w (wr.drewN q):=⟨h.os,h.tape,h.output,h.size,h.block⟩
def sf(P:Prop)(w:World)(e:Ending)(w':World):Prop:=∃b:Bool,e=.returned (.bool b)/\(b=true↔P)/\Below w.heap.size w w'
theorem se(h:P)(hb:Below w.heap.size w w'):sf P w (.returned (.bool true)) w':=⟨true,rfl,⟨λ_=>h,λ_=>rfl⟩,hb⟩
theorem yQ(h:¬P)(hb:Below w.heap.size w w'):sf P w (.returned (.bool false)) w':=⟨false,rfl,⟨λe=>(Bool.false_ne_true e).elim,λe=>(h e).elim⟩,hb⟩
theorem YX.at {n c:Nat}{cs:List Z5}(h:YX N W (.slice a n c) cs){k:Nat}{x:Z5}(hk:cs[k]? =some x):∃A off,a=some ⟨A,off,none⟩/\A<N/\W.cell? ⟨A,off+k*4,none⟩=some (.int .i64 x.a)/\W.cell? ⟨A,off+k*4+1,none⟩=some (.int .i64 x.o)/\W.cell? ⟨A,off+k*4+2,none⟩=some (.int .u64 x.m)/\W.cell? ⟨A,off+k*4+3,none⟩=some (.int .u64 x.v):=by
 obtain⟨ua,uc,e,hr⟩:=h;injection e with e1 _ e2;subst e1;exact hr k x hk
theorem YX.form{v:Value}{cs:List Z5}(h:YX N W v cs):∃a c,v=.slice a cs.length c:=by
 obtain⟨ua,uc,e,_⟩:=h;exact⟨ua,uc,e⟩
theorem Bz {v1 v2:Value}{cs ds:List Z5}(hl:cs.length<=1000000)(w:World)(h1:YX N w v1 cs)(T:YX N w v2 ds)(hN:N<=w.heap.size):
 Calls prog 140 #[v1,v2] w (sf (cs=ds) w):=by
 obtain⟨a1,c1,rfl⟩:=h1.form;obtain⟨a2,c2,rfl⟩:=T.form;by_cases hlen:cs.length=ds.length
 ·generalize hL:cs.length=L at*;rw[<-hlen] at T ⊢;have HL:=aT hL;have HD:=aT hlen;have zl:=aT h1;have nk:=aT T;clear hL hlen h1 T;go_enter func140,ntmps140;go_upto_region 4 with fail;go_loopg [13] (L+1) (λgg iv wr=>∃q:Nat,q<=L/\L-q<gg/\iv=.int .i64 (q:Int)/\Hid (cs.take q=ds.take q)/\Hid (Below w.heap.size w wr));case atStart=>exact⟨0,abc _,jO,rfl,(by show _=_;rfl),aH _ _⟩
  case round=>
   obtain⟨q,hqL,VP,rfl,HT,A⟩:=hrel;have q0:=jZ q;have iw:=jW q;by_cases hq:q<L
   ·have kW:(q:Int)<(L:Int):=by omega
    obtain⟨c,hc⟩:∃c,cs[q]? =some c:=⟨_,aM (by rw[HL.out];exact hq)⟩;obtain⟨d,hd⟩:∃d,ds[q]? =some d:=⟨_,aM (by rw[<-HD.out];exact hq)⟩;obtain⟨g1,o1,rfl,C,y0,Y,y2,U⟩:=zl.at hc;obtain⟨g2,o2,rfl,D,z0,z1,z2,z3⟩:=nk.at hd;have y0:=ZY A hN C y0;have Y:=ZY A hN C Y;have y2:=ZY A hN C y2;have U:=ZY A hN C U;have z0:=ZY A hN D z0;have z1:=ZY A hN D z1;have z2:=ZY A hN D z2;have z3:=ZY A hN D z3;by_cases Z:c=d
    ·subst Z;have Uu:Hid (cs.take (q+1)=ds.take (q+1)):=by show _=_;rw[VS hc,VS hd,HT.out]
     clear hc hd;go_wp2;go_quiet (fail);have J:=aT (KF A nq);clear y0 Y y2 U z0 z1 z2 z3;go_wp2;go_roundg (L-q);case measure=>omega
     case rel=>exact⟨q+1,jO,jO,by go_num,Uu,J⟩
    ·have hne:=ah6 Z;have I:Hid (cs≠ds):=λe=>by rw[e,hd] at hc;exact Z (ax hc).symm
     clear hc hd Z;go_wp2;go_quiet (fail);have J:=aT (KF A nq);clear y0 Y y2 U z0 z1 z2 z3;go_wp2;go_ret;exact yQ I J
   ·obtain rfl:L=q:=by omega
    have kW:¬(L:Int)<(L:Int):=jO;have gl:Hid (cs=ds):=by have h:=HT.out;rwa [abd (by rw[HL.out];exact aR _),abd (by rw[<-HD.out];exact aR _)] at h
    go_wp2;go_ret;exact se gl A
 ·have hb:((cs.length:Int) != (ds.length:Int))=true:=by simp;omega
  have I:Hid (cs≠ds):=λe=>hlen (by rw[e])
  clear h1 T;generalize cs.length=L1 at*;generalize ds.length=L2 at*;have hz:¬(L1:Int)=(L2:Int):=jO;go_enter func140,ntmps140;go_wp2;go_ret;exact yQ I (aH _ _)
structure Nq where
 nm:ByteArray
 (k n:Int)
 u:Value
def r9(N:Nat)(W:World)(a:Option Addr)(qs:List Nq):Prop:=∀(i:Nat) (q:Nq),qs[i]? =some q->∃g off,a=some ⟨g,off,none⟩/\g<N/\W.cell? ⟨g,off+i*4,none⟩=some (.string q.nm)/\W.cell? ⟨g,off+i*4+1,none⟩=some (.int .i64 q.k)/\W.cell? ⟨g,off+i*4+2,none⟩=some (.int .i64 q.n)/\W.cell? ⟨g,off+i*4+3,none⟩=some q.u
def au0(b:Bool)(w:World)(e:Ending)(w':World):Prop:=∃z:Int,e=.returned (.int .i64 z)/\(decide (0<=z)=b)/\-1<=z/\Below w.heap.size w w'
theorem kV {i:Nat}(hi:i<L)(h:p i=true):(List.range L).any p=true:=alg.2 ⟨i,aia.2 hi,h⟩
theorem rZ(h:∀i,i<L->p i=false):(List.range L).any p=false:=by
 rw[List.any_eq_false];intro i hi;rw[h i (aia.1 hi)]
 decide
theorem DY(p:Nat->Bool)(g:Nat)(lb:Array Value)(eg:∀args w,(callFunc g args).run prog w=.ok (.enter g args) w){c:Nat} {qs:List Nq}(hL:qs.length=L)(Xl:L<=1000000)(w:World)(hQ:r9 N w a qs)(hN:N<=w.heap.size)
 (hp:∀(W:World) (i:Nat) (q:Nq),Below w.heap.size w W->qs[i]? =some q->Calls prog g (#[.agg #[.string q.nm,.int .i64 q.k,.int .i64 q.n,q.u]]++lb) W λe w'=>e=.returned (.bool (p i))/\Below W.heap.size W w'):
 Calls prog 83 #[.slice a L c,.func (.func g) #[] lb] w (au0 ((List.range L).any p) w):=by
 have HQ:=aT hQ;have HL:=aT hL;have Hp:=aT hp;clear hQ hL hp;go_enter func83,ntmps83;go_upto_region 2 with fail;go_loopg [5,8] (L+1) (λgg _ iv wr=>∃i:Nat,i<=L/\L-i<gg/\iv=.int .i64 (i:Int)/\Hid (∀j,j<i->p j=false)/\Hid (Below w.heap.size w wr));case atStart=>exact⟨0,abc _,jO,rfl,(show Hid _ from λj hj=>absurd hj (ajd _)),aH _ _⟩
 case round=>
  obtain⟨i,zm,VP,rfl,HT,D⟩:=hrel;have i0:=jZ i;have iw:=jW i;by_cases J:i<L
  ·have T:(i:Int)<(L:Int):=by omega
   obtain⟨q,hq⟩:∃q,qs[i]? =some q:=⟨_,aM (by rw[HL.out];exact J)⟩;obtain⟨b,off,rfl,hb,y0,Y,y2,U⟩:=HQ i q hq;have y0:=ZY D hN hb y0;have Y:=ZY D hN hb Y;have y2:=ZY D hN hb y2;have U:=ZY D hN hb U;have Z:=aT (Hp wr i q D hq);clear hq;obtain⟨nm,k,n,u⟩:=q;dsimp only at*;cases A:p i with
   |true=>
    rw[A] at Z;have HA:=aT (kV J A);clear A;go_wp2_with fail;refine Z.mono ?_;rintro e w1 ⟨rfl,C⟩;have I:=aT (D.trans (C.mono D.size));clear C y0 Y y2 U;go_wp2;go_ret;exact⟨_,rfl,by rw[HA.out];exact adb i0,jO,I⟩
   |false=>
    rw[A] at Z;have Uu:Hid (∀j,j<i+1->p j=false):=λj hj=>by
     by_cases e:j=i;·subst e;exact A
     ·exact HT j jO
    clear A;go_wp2_with fail;refine Z.mono ?_;rintro e w1 ⟨rfl,C⟩;have I:=aT (D.trans (C.mono D.size));clear C y0 Y y2 U;go_wp2;go_roundg (L-i);case measure=>omega
    case rel=>exact⟨i+1,jO,jO,by go_num,Uu,I⟩
  ·obtain rfl:L=i:=by omega
   have T:¬(L:Int)<(L:Int):=jO;have HA:=aT (rZ HT);go_wp2;go_ret;exact⟨_,rfl,by rw[HA.out];decide,jD,D⟩
theorem rY(p:Nat->Bool)(g:Nat)(lb:Array Value)(U:∀args w,(callFunc g args).run prog w=.ok (.enter g args) w){c:Nat} {qs:List Nq}(T:qs.length=L)(C:L<=1000000)(w:World)(J:r9 N w a qs)(hN:N<=w.heap.size)
 (hp:∀(W:World) (i:Nat) (q:Nq),Below w.heap.size w W->qs[i]? =some q->Calls prog g (#[.agg #[.string q.nm,.int .i64 q.k,.int .i64 q.n,q.u]]++lb) W λe w'=>e=.returned (.bool (p i))/\Below W.heap.size W w'):
 Calls prog 124 #[.slice a L c,.func (.func g) #[] lb] w λe w'=>e=.returned (.bool ((List.range L).any p))/\Below w.heap.size w w':=by
 have I:=aT (DY p g lb U (c:=c) T C w J hN hp);generalize (List.range L).any p=b at*;clear J hp T;go_enter func124,ntmps124;go_wp2_with fail;refine I.mono ?_;rintro e Z ⟨z,rfl,hz,_,A⟩;have D:=aT A;have Y:Hid (decide ((0:Int)<=z)=b):=hz;clear A I hz;go_wp2;go_ret;exact⟨GD Y,D⟩
instance:DecidableEq Z5:=λa b=>decidable_of_iff (a.a=b.a/\a.o=b.o/\a.m=b.m/\a.v=b.v) (by
 cases a;cases b;simp)
structure NR where
 nm:ByteArray
 (k n:Int)
 cs:List Z5
def UI(N:Nat)(W:World)(a:Option Addr)(rs:List NR):Prop:=∀(i:Nat) (r:NR),rs[i]? =some r->∃g off u,a=some ⟨g,off,none⟩/\g<N/\W.cell? ⟨g,off+i*4,none⟩=some (.string r.nm)/\W.cell? ⟨g,off+i*4+1,none⟩=some (.int .i64 r.k)/\W.cell? ⟨g,off+i*4+2,none⟩=some (.int .i64 r.n)/\W.cell? ⟨g,off+i*4+3,none⟩=some u/\YX N W u r.cs
theorem UI.rows {rs:List NR}(h:UI N W a rs):∃J:List Nq,J.length=rs.length/\r9 N W a J/\∀(i:Nat) (q:Nq) (r:NR),J[i]? =some q->rs[i]? =some r->q.nm=r.nm/\q.k=r.k/\q.n=r.n/\YX N W q.u r.cs:=by
 obtain⟨U,T⟩:∃U:Nat->NR->Value,∀i r,rs[i]? =some r->∃g off,a=some ⟨g,off,none⟩/\g<N/\W.cell? ⟨g,off+i*4,none⟩=some (.string r.nm)/\W.cell? ⟨g,off+i*4+1,none⟩=some (.int .i64 r.k)/\W.cell? ⟨g,off+i*4+2,none⟩=some (.int .i64 r.n)/\W.cell? ⟨g,off+i*4+3,none⟩=some (U i r)/\YX N W (U i r) r.cs:=by
  have hv:∀(i:Nat) (r:NR),∃u:Value,rs[i]? =some r->∃g off,a=some ⟨g,off,none⟩/\g<N/\W.cell? ⟨g,off+i*4,none⟩=some (.string r.nm)/\W.cell? ⟨g,off+i*4+1,none⟩=some (.int .i64 r.k)/\W.cell? ⟨g,off+i*4+2,none⟩=some (.int .i64 r.n)/\W.cell? ⟨g,off+i*4+3,none⟩=some u/\YX N W u r.cs:=λi r=>by
   by_cases hr:rs[i]? =some r;·obtain⟨g,off,u,I⟩:=h i r hr;exact⟨u,λ_=>⟨g,off,I⟩⟩
   ·exact⟨.nilFunc,λe=>absurd e hr⟩
  refine⟨λi r=>(hv i r).choose,λi r hr=> ?_⟩;exact(hv i r).choose_spec hr
 have A:∀(i:Nat) (q:Nq),((List.range rs.length).map λi=>match rs[i]? with|some r=>Nq.mk r.nm r.k r.n (U i r)|none=>Nq.mk ⟨#[]⟩ 0 0 Value.nilFunc)[i]? =some q->∃r,rs[i]? =some r/\q=⟨r.nm,r.k,r.n,U i r⟩:=λi q C=>by
  have hi:i<rs.length:=by have:=(au.1 C).1;simpa using this
  rw[ada,aoa hi,avf] at C;obtain⟨r,hr⟩:∃r,rs[i]? =some r:=⟨_,aM hi⟩;rw[hr] at C;exact⟨r,hr,(ax C).symm⟩
 refine⟨(List.range rs.length).map (λi=>match rs[i]? with|some r=>Nq.mk r.nm r.k r.n (U i r)|none=>Nq.mk ⟨#[]⟩ 0 0 Value.nilFunc),jS,λi q C=> ?_,λi q r C hr=> ?_⟩;·obtain⟨r,hr,rfl⟩:=A i q C;obtain⟨g,off,I,Y,h3,h4,Z,h6,_⟩:=T i r hr;exact⟨g,off,I,Y,h3,h4,Z,h6⟩
 ·obtain⟨r',D,rfl⟩:=A i q C;rw[hr] at D;obtain rfl:=ax D;obtain⟨g,off,_,_,_,_,_,_,h7⟩:=T i r hr;exact⟨rfl,rfl,rfl,h7⟩
theorem UI.below{K:Nat}{W':World} {rs:List NR}(h:UI N W a rs)(hb:Below K W W')(hN:N<=K):UI N W' a rs:=by
 intro i r hr;obtain⟨g,off,u,D,A,U,C,T,I,J⟩:=h i r hr;exact⟨g,off,u,D,A,ZY hb hN A U,ZY hb hN A C,ZY hb hN A T,ZY hb hN A I,J.below hb hN⟩
def WA(ns:List Z5)(r:NR):Bool:=decide (r.cs=[]) || decide (r.cs=ns)
theorem rX{B:Nat}{nm nm2:ByteArray}{k n k2 n2:Int}{u v:Value}{cs ns:List Z5}(hl:cs.length<=1000)(w:World)(h:YX N w u cs)(hv:YX N w v ns)(hN:N<=w.heap.size)(Y:Z7 w B TR #[.string nm2,.int .i64 k2,.int .i64 n2,v]):
 Calls prog 139 #[.agg #[.string nm,.int .i64 k,.int .i64 n,u],.pointer (some ⟨B,0,none⟩)] w λe w'=>e=.returned (.bool (decide (cs=[]) || decide (cs=ns)))/\Below w.heap.size w w':=by
 obtain⟨ua,uc,rfl⟩:=h.form;obtain⟨va,vc,rfl⟩:=hv.form;have HA:=aT (Z7.new w TR #[.string nm,.int .i64 k,.int .i64 n,.slice ua cs.length uc]);have HB:=aT (Y.alloc (.cells #[.string nm,.int .i64 k,.int .i64 n,.slice ua cs.length uc] TR));have A:=aT (Yl w (.cells #[.string nm,.int .i64 k,.int .i64 n,.slice ua cs.length uc] TR));have HQ:=aT (Bz jO _ (h.below A hN) (hv.below A hN) (aO hN A.size));by_cases J:cs=[];·subst J;have I:(([]:List Z5).length:Int)=0:=rfl;clear h hv Y HQ;simp only[acg] at*;go_enter func139,ntmps139;go_upto_region 1 with fail;generalize w.alloc (.cells #[.string nm,.int .i64 k,.int .i64 n,.slice ua 0 uc] TR)=w1 at*;obtain⟨⟨_,_,_,a3⟩,_⟩:=Z8 HA;obtain⟨⟨_,_,_,b3⟩,_⟩:=Z8 HB;go_wp2_with fail;go_ret;exact⟨jS,A⟩
 ·have I:¬((cs.length:Int)=0):=by
   intro e;exact J (ahf.1 jO)
  have hl0':((cs.length:Int) == 0)=false:=by rw[ae];exact I
  have H0:Hid (decide (cs=[])=false):=aee J;obtain⟨b,hb⟩:∃b,b=decide (cs=ns):=⟨_,rfl⟩;rw[<-hb];have U:=aT hb;clear h hv Y hb J;generalize hc:decide (cs=[])=c0 at*;generalize cs.length=L at*;generalize ns.length=L2 at*;go_enter func139,ntmps139;go_upto_region 1 with fail;generalize w.alloc (.cells #[.string nm,.int .i64 k,.int .i64 n,.slice ua L uc] TR)=w1 at*;obtain⟨⟨_,_,_,a3⟩,_⟩:=Z8 HA;obtain⟨⟨_,_,_,b3⟩,_⟩:=Z8 HB;go_wp2_with fail;refine HQ.mono ?_;rintro e w2 ⟨Z,rfl,C,D⟩;have T:=aT (A.trans (D.mono A.size));have HX:Hid (Z=b):=by show Z=b;rw[U.out,aoc,aed];exact C
  clear C D;go_wp2;go_ret;exact⟨by rw[H0.out,HX.out];simp,T⟩
theorem KE{c:Nat} {rs:List NR}{nm:ByteArray}{k n:Int}{v:Value}{ns:List Z5}(hL:rs.length=L)(U:L<=1000000)(hcs:∀r∈rs,r.cs.length<=1000)(w:World)(h:UI N w a rs)(hv:YX N w v ns)(hN:N<=w.heap.size):
 Calls prog 87 #[.slice a L c,.agg #[.string nm,.int .i64 k,.int .i64 n,v]] w λe w'=>e=.returned (.bool (rs.any (WA ns)))/\Below w.heap.size w w':=by
 obtain⟨va,vc,rfl⟩:=hv.form;obtain⟨qs,D,J,T⟩:=h.rows;have C:=aT (Yl w (.cells #[.string nm,.int .i64 k,.int .i64 n,.slice va ns.length vc] TR));have HB:=aT (Z7.new w TR #[.string nm,.int .i64 k,.int .i64 n,.slice va ns.length vc]);have A:(List.range L).any (λi=>match rs[i]? with|some r=>WA ns r|none=>false)=rs.any (WA ns):=by
  rw[aoc,alg,alg];constructor
  ·rintro⟨i,hi,e⟩;cases hr:rs[i]? with
   |none=>rw[hr] at e;cases e
   |some r=>rw[hr] at e;exact⟨r,af hr,e⟩
  ·rintro⟨r,hr,e⟩;obtain⟨i,hi,rfl⟩:=agb.1 hr;refine⟨i,aia.2 jO,?_⟩;rw[aM hi];exact e
 have I:=C.size;have hc:=rY (c:=c) (λi=>match rs[i]? with|some r=>WA ns r|none=>false) 139 #[.pointer (some ⟨w.heap.size,0,none⟩)] (enters_of func139 jK rfl) (D.trans hL) U (w.alloc (.cells #[.string nm,.int .i64 k,.int .i64 n,.slice va ns.length vc] TR)) (λi q Z=>by
  obtain⟨g,off,h1,Y,h3,h4,h5,h6⟩:=J i q Z;exact⟨g,off,h1,Y,ZY C hN Y h3,ZY C hN Y h4,ZY C hN Y h5,ZY C hN Y h6⟩) (aO hN I) (λW i q hb Z=>by
  have hi:i<rs.length:=by have:=(au.1 Z).1;omega
  obtain⟨r,hr⟩:∃r,rs[i]? =some r:=⟨_,aM hi⟩;obtain⟨_,_,_,h4⟩:=T i q r Z hr;have e:(match rs[i]? with|some r=>WA ns r|none=>false)=(decide (r.cs=[]) || decide (r.cs=ns)):=by rw[hr];rfl
  rw[e];have hk:Below w.heap.size w W:=C.trans (hb.mono I);exact rX (hcs r (af hr)) W (h4.below hk hN) (hv.below hk hN) (aO hN hk.size) (HB.below hb HB.lt))
 rw[A] at hc;have HC:=aT hc;clear hc A D J T h hv HB;generalize rs.any (WA ns)=b at*;go_enter func87,ntmps87;go_wp2_with fail;refine HC.mono ?_;rintro e w2 ⟨rfl,hb⟩;have XA:=aT (C.trans (hb.mono C.size));clear hb;go_wp2;go_ret;exact⟨rfl,XA⟩
end Go.Proofs.YtclgigmgbebhgaaGreatDoor
namespace Go.Proofs.YtclgigmgbebhgaaGreatDoor
open Tryz
open Go Go.Proofs Go.RowKit Go.Maps Go.WideMaps Go.ChangeMaps
theorem Ty:Keyed prog 9:=string_keyed underlying9
theorem Ou(s:ByteArray)(hs:s.size<=1000000):∃l,keyOf prog 9 (.string s)=some l:=by
 have h:s.size<=maxLen:=by unfold maxLen;omega
 refine⟨.string s.data.toList,?_⟩;unfold keyOf mapKey;simp[underlying9,h]
theorem rW{P:Program}{tm tk tv:TypeId}(hu:P.underlying tm=some (.map tk tv))(K:Keyed P tk){W:World}{B:Nat}{S1 S2:List (Value×Value)}{k v0:Value}(h:ZB W B (S1++(k,v0)::S2))(hS:∀p∈S1++(k,v0)::S2,∃l,keyOf P tk p.1=some l)(DX:∀p∈S1,p.1≠k)(bZ:∀p∈S2,p.1≠k)(v:Value):
 ∃W',(Instr.mapUpdate tm (.map (some B)) k v).run P W=.ok () W'/\ZB W' B (S1++(k,v)::S2)/\W.grownBy W' (some B):=by
 obtain⟨es,clock,hb,h2,hst⟩:=h;obtain⟨k1,k2⟩:=Ue h2;obtain⟨kl,A⟩:=hS (k,v0) jS;rcases K.find W A es.toList (λe Z=>hS _ (k1 e Z)) with⟨h4,U⟩|⟨j,e0,h4,U,h6⟩
 ·obtain⟨e,Z,e1,_⟩:=k2 (k,v0) jS;exact absurd e1 (U e Z)
 ·have C:e0.key=k:=by first|exact h6|exact h6.symm
  have J:(S1++(k,v0)::S2)[j]? =some (e0.key,e0.val):=by rw[<-h2,ada,U];rfl
  have Y:j=S1.length:=by
   rcases Nat.lt_trichotomy j S1.length with hl|hl|hl;·rw[abb hl] at J;exact absurd C (DX _ (af J))
   ·exact hl
   ·rw[aae jO] at J;obtain⟨d,hd⟩:∃d,j-S1.length=d+1:=⟨j-S1.length-1,jO⟩;rw[hd,aF] at J;exact absurd C (bZ _ (af J))
  have D:es[j]? =some e0:=by simpa using U
  have I:=K.stays W A;refine⟨setBlock W B (.map (es.modify j λe=>{e with key:=k,val:=v}) clock),?_,⟨_,_,heap_setBlock_same hb _,?_,?_⟩,⟨rfl,rfl,rfl,by simp[setBlock],λi _ hi=>heap_setBlock_other hb _ (λe=>hi (by rw[e]))⟩⟩;·simp[Instr.mapUpdate,ajb hu,aic hb,K.check W false A,h4,awc _ hb,Result.andThen,setBlock,D,C,I]
  ·apply agd;intro i;have sW:(S1++(k,v0)::S2)[i]? =(es[i]?).map (λe=>(e.key,e.val)):=by rw[<-h2,ada,aff]
   rw[ada,aff,ake];by_cases e:j=i;·subst e;rw[aG rfl,D,Y,aae (aR _),alb];rfl
   ·rw[aN e,<-sW];rcases aza (show i≠S1.length from jO) with hl|hl;·rw[abb hl,abb hl]
    ·rw[aae jO,aae jO];obtain⟨d,hd⟩:∃d,i-S1.length=d+1:=⟨i-S1.length-1,jO⟩;rw[hd,aF,aF]
  ·obtain⟨s1,s2,s3⟩:=hst
   have T:(es.modify j λe=>{e with key:=k,val:=v}).toList.map (·.born)=es.toList.map (·.born):=by
    apply agd;intro i;rw[ada,ada,aff,aff,ake];by_cases e:j=i;·subst e;rw[aG rfl,D];rfl
    ·rw[aN e]
   have hk':(es.modify j λe=>{e with key:=k,val:=v}).toList.map (·.key)=es.toList.map (·.key):=by
    apply agd;intro i;rw[ada,ada,aff,aff,ake];by_cases e:j=i;·subst e;rw[aG rfl,D];show some k=some e0.key;rw[C]
    ·rw[aN e]
   refine⟨λx hx=> ?_,by rw[T];exact s2,by rw[hk'];exact s3⟩;have:x.born∈es.toList.map (·.born):=by rw[<-T];exact ai.2 ⟨x,hx,rfl⟩
   obtain⟨y,hy,e⟩:=ai.1 this;rw[<-e];exact s1 y hy
def rC(r:NR)(u:Value):List Value:=[.string r.nm,.int .i64 r.k,.int .i64 r.n,u]
def YG:List NR->List Value->List Value
 |r::rs,u::us=>rC r u++YG rs us
 |_,_=>[]
theorem KD(r:NR)(u:Value):∀(rs:List NR) (us:List Value),us.length=rs.length->YG (rs++[r]) (us++[u])=YG rs us++rC r u
 |[],[],_=>by simp[YG]
 |x::rs,y::us,h=>by show rC x y++YG (rs++[r]) (us++[u])=rC x y++YG rs us++rC r u;rw[KD r u rs us (by simpa using h),aba]
theorem RN:∀(rs:List NR) (us:List Value) (i:Nat) (r:NR) (u:Value),rs[i]? =some r->us[i]? =some u->∀j,j<4->(YG rs us)[i*4+j]? =(rC r u)[j]?
 |x::rs,y::us,0,r,u,hr,hu,j,hj=>by
  simp at hr hu;subst hr hu;show(rC x y++YG rs us)[0*4+j]? =_;rw[abb (by show _<4;omega)]
  congr 1
  omega
 |x::rs,y::us,i+1,r,u,hr,hu,j,hj=>by have A:=RN rs us i r u (by simpa using hr) (by simpa using hu) j hj;show(rC x y++YG rs us)[(i+1)*4+j]? =_;rw[aae (by show 4<=_;omega),show(i+1)*4+j-(rC x y).length=i*4+j by show(i+1)*4+j-4=_;omega];exact A
 |[],_,i,r,u,hr,_,_,_=>by simp at hr
 |_::_,[],i,r,u,_,hu,_,_=>by simp at hu
structure TX(lo:Nat)(W:World)(v:Value)(rs:List NR)(us:List Value):Prop where
 len:us.length=rs.length
 row:W.ownsRow lo TR 4 v rs.length (YG rs us)
 cs:∀(j:Nat) (u:Value) (r:NR),us[j]? =some u->rs[j]? =some r->W.ownsRow lo TC 4 u r.cs.length (r.cs.flatMap cL)
theorem Tx{W:World}{lo:Nat}{u:Value}{cs:List Z5}(h:W.ownsRow lo TC 4 u cs.length (cs.flatMap cL)):YX W.heap.size W u cs:=by
 obtain⟨a,c,rfl⟩:=Z1 h;refine⟨a,c,rfl,λk x hk=> ?_⟩;have D:=(au.1 hk).1;rcases h.2 with⟨e,J⟩|⟨g,cap,C,e,_,A,_⟩;·omega
 ·injection e with e1 _ e2;subst e1 e2;have at_:∀j,j<4->W.cell? ⟨g,k*4+j,none⟩=(cL x)[j]? :=λj I=>by rw[h.cellAt (k*4+j) jO,RR cs k x hk j I]
  refine⟨g,0,rfl,(aaa.1 A).1,?_,?_,?_,?_⟩<;>rw[aca]
  ·exact at_ 0 jD
  ·exact at_ 1 jD
  ·exact at_ 2 jD
  ·exact at_ 3 jD
section
variable {lo:Nat} {W W':World} {v:Value} {rs:List NR} {us:List Value}
theorem TX.rows{a:Option Addr}{n c:Nat}(h:TX lo W (.slice a n c) rs us):UI W.heap.size W a rs:=by
 intro i r hr;have A:=(au.1 hr).1;obtain⟨u,hu⟩:∃u,us[i]? =some u:=⟨_,aM (by rw[h.len];exact A)⟩;rcases h.row.2 with⟨e,T⟩|⟨g,cap,D,e,_,C,_⟩;·omega
 ·injection e with e1 _ e2;subst e1
  have at_:∀j,j<4->W.cell? ⟨g,i*4+j,none⟩=(rC r u)[j]? :=λj I=>by
   have hn:n=rs.length:=by obtain⟨a',U,J⟩:=Z1 h.row;injection J
   subst hn;have:=h.row.cellAt (i*4+j) jO;rw[this,RN rs us i r u hr hu j I]
  refine⟨g,0,u,rfl,(aaa.1 C).1,?_,?_,?_,?_,Tx (h.cs i u r hu hr)⟩<;>rw[aca]
  ·exact at_ 0 jD
  ·exact at_ 1 jD
  ·exact at_ 2 jD
  ·exact at_ 3 jD
theorem TX.grown{row:Option Nat}(h:TX lo W v rs us)(I:W.grownBy W' row)(hr:∀k,row=some k->v.ownBlock≠some k/\∀cs,¬Z7 W k TC cs):TX lo W' v rs us:=by
 refine⟨h.len,h.row.kept I ?_,λj u r hu C=>(h.cs j u r hu C).kept I ?_⟩
 ·cases A:row with
  |none=>cases v.ownBlock<;>simp
  |some k=>exact .inr (hr k A).1
 ·cases A:row with
  |none=>cases u.ownBlock<;>simp
  |some k=>
   refine .inr (λe=> ?_);rcases (h.cs j u r hu C).2 with⟨rfl,_⟩|⟨g,cap,D,rfl,_,hb,_⟩
   ·cases e
   ·have e2:g=k:=ax e;subst e2;exact(hr g A).2 D hb
theorem TX.Zs(h:TX lo W v rs us)(hb:Below W.heap.size W W'):TX lo W' v rs us:=
 h.grown (row:=none) ⟨hb.os,hb.tape,hb.output,hb.size,λk hk _=>hb.block k hk⟩ (λk e=>by cases e)
end
structure UH where
 nm:ByteArray
 (g cap:Nat)
 rs:List NR
 us:List Value
def UH.v(G:UH):Value:=.slice (some ⟨G.g,0,none⟩) G.rs.length G.cap
def RM(gs:List UH):List (Value×Value):=gs.map λG=>(.string G.nm,G.v)
structure U2(lo B:Nat)(W:World)(gs:List UH):Prop where
 map:ZB W B (RM gs)
 rows:∀G∈gs,TX lo W G.v G.rs G.us
 names:gs.Pairwise (λx y=>x.nm≠y.nm)
 wH:gs.Pairwise (λx y=>x.g≠y.g)
 size:∀G∈gs,G.nm.size<=1000000
section
variable {lo B:Nat} {W W':World} {gs:List UH}
theorem U2.keys(h:U2 lo B W gs):∀p∈RM gs,∃l,keyOf prog 9 p.1=some l:=λp hp=>by
 obtain⟨G,A,rfl⟩:=ai.1 hp;exact Ou _ (h.size G A)
theorem U2.Zs(h:U2 lo B W gs)(hb:Below W.heap.size W W'):U2 lo B W' gs:=⟨h.map.below hb h.map.lt,λG A=>(h.rows G A).Zs hb,h.names,h.wH,h.size⟩
theorem U2.nil{w:World}:U2 lo w.heap.size (w.alloc (.map #[] 0)) []:=⟨ZB.made w,λG h=>(by cases h),List.Pairwise.nil,List.Pairwise.nil,λG h=>(by cases h)⟩
theorem wG:∀W,(zeroValue 49).run prog W=.ok (.slice none 0 0) W:=λ_=>jK
theorem U2.Xt(h:U2 lo B W gs){nm:ByteArray}(hs:nm.size<=1000000)(hn:∀G∈gs,G.nm≠nm):(Instr.lookup 191 (.map (some B)) (.string nm) false).run prog W=.ok (.slice none 0 0) W:=
 Ud underlying191 Ty wG h.map h.keys (Ou nm hs) (λp hp e=>by obtain⟨G,A,rfl⟩:=ai.1 hp;exact hn G A (ara e))
theorem U2.ID(h:U2 lo B W gs){G:UH}(C:G∈gs):(Instr.lookup 191 (.map (some B)) (.string G.nm) false).run prog W=.ok G.v W:=
 Xu underlying191 Ty h.map h.keys (Ou _ (h.size G C)) (ai.2 ⟨G,C,rfl⟩) (aeg.2 (h.names.imp (λ{a b} A e=>A (ara e))))
theorem KC(h:ZB W B (RM gs))(t:TypeId)(cs:Array Value):¬Z7 W B t cs:=λhb=>by
 obtain⟨es,c,hm,_⟩:=h;have:=hm.symm.trans hb;cases this
theorem Q1{e s n base:Nat}{v:Value}{xs:List Value}(h:W.ownsRow base e s v n xs){k:Nat}(hk:v.ownBlock=some k):k<W.heap.size:=(h.lt k hk).2
theorem U2.more{g1 g2:List UH}{G:UH}{W':World}{r:NR}{u:Value}{gb cap:Nat}(h:U2 lo B W (g1++G::g2))(hg:W.grownBy W' (some G.g))(hown:W'.ownsRow lo TR 4 (.slice (some ⟨gb,0,none⟩) (G.rs.length+1) cap) (G.rs.length+1) (YG G.rs G.us++rC r u))(hat:gb=G.g\/gb=W.heap.size)(hu:W.ownsRow lo TC 4 u r.cs.length (r.cs.flatMap cL)):
 ∃W2,(Instr.mapUpdate 191 (.map (some B)) (.string G.nm) (.slice (some ⟨gb,0,none⟩) (G.rs.length+1) cap)).run prog W'=.ok () W2/\U2 lo B W2 (g1++⟨G.nm,gb,cap,G.rs++[r],G.us++[u]⟩::g2)/\W'.grownBy W2 (some B):=by
 have mX:G∈g1++G::g2:=jS;have C:=h.rows G mX;have hGb:∃cs,Z7 W G.g TR cs:=by
  rcases C.row.2 with⟨e,_⟩|⟨g,cap',cur,e,_,hb,_⟩
  ·cases e
  ·have e2:G.g=g:=by unfold UH.v at e;injection e with e1;injection e1 with e1;injection e1
   rw[e2];exact⟨cur,hb⟩
 have hnC:∀cs,¬Z7 W G.g TC cs:=λcs hb=>by
  obtain⟨cs',Y⟩:=hGb;have h1:TR=TC:=by have:=(show W.heap[G.g]? =_ from Y).symm.trans hb;simp only[akf,ayf] at this;exact this.2.1
  exact absurd h1 jD
 have hBg:B≠G.g:=λe=>by obtain⟨cs',Y⟩:=hGb;rw[<-e] at Y;exact KC h.map _ _ Y
 have D:ZB W' B (RM (g1++G::g2)):=h.map.kept hg (λe=>hBg (ax e));have T:∀x∈g1,x.nm≠G.nm/\x.g≠G.g:=λx hx=>⟨(afa.1 h.names).2.2 x hx G jS,(afa.1 h.wH).2.2 x hx G jS⟩
 have U:∀x∈g2,G.nm≠x.nm/\G.g≠x.g:=λx hx=>⟨(aha.1 (afa.1 h.names).2.1).1 x hx,(aha.1 (afa.1 h.wH).2.1).1 x hx⟩
 have hlt:∀x∈g1++G::g2,x.g<W.heap.size:=λx hx=>Q1 (h.rows x hx).row rfl
 have hS:RM (g1++G::g2)=RM g1++(.string G.nm,G.v)::RM g2:=by simp[RM]
 rw[hS] at D;obtain⟨W2,hr,mW,Z⟩:=rW underlying191 Ty D (by rw[<-hS];exact h.keys) (λp hp e=>by
  obtain⟨x,hx,rfl⟩:=ai.1 hp;exact(T x hx).1 (ara e)) (λp hp e=>by
  obtain⟨x,hx,rfl⟩:=ai.1 hp;exact(U x hx).1 (ara e).symm) (.slice (some ⟨gb,0,none⟩) (G.rs.length+1) cap)
 have au1:∀cs,¬Z7 W' B TC cs:=λcs hb=>by obtain⟨es,c,hm,_⟩:=D;have:=hm.symm.trans hb;cases this
 have J:∀{e s n base:Nat} {v:Value} {xs:List Value},W'.ownsRow base e s v n xs->v.ownBlock≠some B:=λ{e s n base v xs} h1 e1=>by
  rcases h1.2 with⟨rfl,_⟩|⟨g,cap',cur,rfl,_,hb,_⟩
  ·cases e1
  ·have e2:g=B:=ax e1;subst e2;obtain⟨es,c,hm,_⟩:=D;have:=hm.symm.trans hb;cases this
 have keep:∀x∈g1++G::g2,x.g≠G.g->TX lo W2 x.v x.rs x.us:=λx hx hne=>by have h1:=(h.rows x hx).grown hg (λk e=>⟨λe2=>hne (by have:=ax e;have e3:x.g=k:=ax e2;omega),λcs=>by have:=ax e;subst this;exact hnC cs⟩);exact h1.grown Z (λk e=>⟨by have:=ax e;subst this;exact J h1.row,λcs=>by have:=ax e;subst this;exact au1 cs⟩)
 refine⟨W2,hr,⟨?_,λx hx=> ?_,?_,?_,λx hx=> ?_⟩,Z⟩
 ·have:RM (g1++⟨G.nm,gb,cap,G.rs++[r],G.us++[u]⟩::g2)=RM g1++(.string G.nm,.slice (some ⟨gb,0,none⟩) (G.rs.length+1) cap)::RM g2:=by simp[RM,UH.v]
  rw[this];exact mW
 ·rcases abe.1 hx with hx|hx;·exact keep x (by simp[hx]) (T x hx).2
  ·rcases abf.1 hx with rfl|hx
   ·have hcs:∀(j:Nat) (u':Value) (r':NR),(G.us++[u])[j]? =some u'->(G.rs++[r])[j]? =some r'->W2.ownsRow lo TC 4 u' r'.cs.length (r'.cs.flatMap cL):=λj u' r' I A=>by
     have old:W.ownsRow lo TC 4 u' r'.cs.length (r'.cs.flatMap cL):=by
      by_cases hj:j<G.rs.length;·rw[abb (by rw[C.len];exact hj)] at I;rw[abb hj] at A;exact C.cs j u' r' I A
      ·rw[aae (by rw[C.len];omega),C.len] at I;rw[aae jO] at A
       have mV:j-G.rs.length=0:=by have:=(au.1 A).1;simp at this;omega
       rw[mV] at I A;simp at I A;subst I A;exact hu
     have h1:=old.kept hg (.inr (λe=>by
      rcases old.2 with⟨rfl,_⟩|⟨g,cap',cur,rfl,_,hb,_⟩
      ·cases e
      ·have e2:g=G.g:=ax e;rw[e2] at hb;exact hnC _ hb))
     exact h1.kept Z (.inr (J h1))
    have hrow:W2.ownsRow lo TR 4 (.slice (some ⟨gb,0,none⟩) (G.rs++[r]).length cap) (G.rs++[r]).length (YG (G.rs++[r]) (G.us++[u])):=by rw[KD r u _ _ C.len,ay];exact hown.kept Z (.inr (J hown))
    exact⟨by rw[ay,ay,C.len];rfl,hrow,hcs⟩
   ·exact keep x (by simp[hx]) (λe=>(U x hx).2 e.symm)
 ·have:=h.names;rw[afa] at this ⊢;obtain⟨n1,n2,n3⟩:=this;refine⟨n1,?_,λa ha b hb=> ?_⟩;·exact aha.2 (aha.1 n2)
  ·rcases abf.1 hb with rfl|hb;·exact n3 a ha G jS
   ·exact n3 a ha b (by simp[hb])
 ·have:=h.wH;rw[afa] at this ⊢;obtain⟨n1,n2,n3⟩:=this;refine⟨n1,aha.2 ⟨λx hx=> ?_,(aha.1 n2).2⟩,λa ha b hb=> ?_⟩
  ·rcases hat with e|e;·rw[show(UH.mk G.nm gb cap (G.rs++[r]) (G.us++[u])).g=gb from rfl,e];exact(U x hx).2
   ·have:=hlt x (by simp[hx]);show gb≠x.g;omega
  ·rcases abf.1 hb with rfl|hb
   ·rcases hat with e|e;·show a.g≠gb;rw[e];exact(T a ha).2
    ·have:=hlt a (by simp[ha]);show a.g≠gb;omega
   ·exact n3 a ha b (by simp[hb])
 ·rcases abe.1 hx with hx|hx;·exact h.size x (by simp[hx])
  ·rcases abf.1 hx with rfl|hx;·exact h.size G mX
   ·exact h.size x (by simp[hx])
theorem U2.new{W':World}{r:NR}{u:Value}{cap:Nat}(h:U2 lo B W gs)(hs:r.nm.size<=1000000)(hn:∀G∈gs,G.nm≠r.nm)(hg:W.grownBy W' none)(I:W'.ownsRow lo TR 4 (.slice (some ⟨W.heap.size,0,none⟩) 1 cap) 1 (rC r u))(hu:W.ownsRow lo TC 4 u r.cs.length (r.cs.flatMap cL)):
 ∃W2,(Instr.mapUpdate 191 (.map (some B)) (.string r.nm) (.slice (some ⟨W.heap.size,0,none⟩) 1 cap)).run prog W'=.ok () W2/\U2 lo B W2 (gs++[⟨r.nm,W.heap.size,cap,[r],[u]⟩])/\W'.grownBy W2 (some B):=by
 have C:ZB W' B (RM gs):=h.map.kept hg jS;obtain⟨W2,hr,mW,D⟩:=Vq underlying191 Ty C h.keys (Ou r.nm hs) (λp hp e=>by obtain⟨x,hx,rfl⟩:=ai.1 hp;exact hn x hx (ara e)) (.slice (some ⟨W.heap.size,0,none⟩) 1 cap)
 have Y:∀cs,¬Z7 W' B TC cs:=λcs hb=>by obtain⟨es,c,hm,_⟩:=C;have:=hm.symm.trans hb;cases this
 have A:∀{e s n base:Nat} {v:Value} {xs:List Value},W'.ownsRow base e s v n xs->v.ownBlock≠some B:=λ{e s n base v xs} T e1=>by
  rcases T.2 with⟨rfl,_⟩|⟨g,cap',cur,rfl,_,hb,_⟩
  ·cases e1
  ·have e2:g=B:=ax e1;subst e2;obtain⟨es,c,hm,_⟩:=C;have:=hm.symm.trans hb;cases this
 have Z:∀x∈gs,x.g<W.heap.size:=λx hx=>Q1 (h.rows x hx).row rfl
 refine⟨W2,hr,⟨by rw[show RM (gs++[⟨r.nm,W.heap.size,cap,[r],[u]⟩])=RM gs++[(.string r.nm,.slice (some ⟨W.heap.size,0,none⟩) 1 cap)] by simp[RM,UH.v]];exact mW,λx hx=> ?_,?_,?_,λx hx=> ?_⟩,D⟩
 ·rcases abe.1 hx with hx|hx;·have T:=(h.rows x hx).grown hg (λk e=>by cases e);exact T.grown D (λk e=>⟨by have:=ax e;subst this;exact A T.row,λcs=>by have:=ax e;subst this;exact Y cs⟩)
  ·rcases aac.1 hx with rfl;refine⟨rfl,?_,λj u' r' U J=> ?_⟩;·rw[show YG [r] [u]=rC r u by simp[YG]];exact I.kept D (.inr (A I))
   ·have mV:j=0:=by
     have:=(au.1 J).1;simp at this;omega
    subst mV;simp at U J;subst U J;have T:=hu.kept hg (by cases u.ownBlock<;>simp);exact T.kept D (.inr (A T))
 ·rw[afa];exact⟨h.names,apg _ _,λa ha b hb=>by rw[aac.1 hb];exact hn a ha⟩
 ·rw[afa];exact⟨h.wH,apg _ _,λa ha b hb=>by rw[aac.1 hb];have:=Z a ha;show a.g≠W.heap.size;omega⟩
 ·rcases abe.1 hx with hx|hx;·exact h.size x hx
  ·rw[aac.1 hx];exact hs
end
end Go.Proofs.YtclgigmgbebhgaaGreatDoor
namespace Go.Proofs.YtclgigmgbebhgaaGreatDoor
open Tryz
open Go Go.Proofs Go.RowKit
theorem Bv(cs:List Z5):∀u∈cs.flatMap cL,u.oneCell'=true:=λu hu=>by
 obtain⟨c,_,hc⟩:=aqf.1 hu;simp[cL] at hc;rcases hc with rfl|rfl|rfl|rfl<;>rfl
theorem Bu{N L c:Nat}{a:Option Addr}{cs:List Z5}(hl:cs.length=L)(Xl:L<=1000000)(w:World)(hm:YX N w (.slice a L c) cs)(hN:N<=w.heap.size):
 Calls prog 92 #[.slice a L c] w λe w'=>∃v,e=.returned v/\w'.ownsRow w.heap.size TC 4 v L (cs.flatMap cL)/\Below w.heap.size w w':=by
 obtain⟨i0,J,SC,Z,TD⟩:=RP Gi;cases a with
 |none=>
  obtain rfl:L=0:=by
   cases hc:cs with
   |nil=>rw[hc] at hl;exact hl.symm
   |cons x r=>
    obtain⟨_,_,e,hr⟩:=hm;injection e with e1;obtain⟨gu,off,e2,_⟩:=hr 0 x (by rw[hc];rfl);rw[<-e1] at e2;cases e2
  obtain rfl:cs=[]:=ahf.1 hl;have T:∀w,(binOp .eql 89 (.slice none 0 c) (.slice none 0 0)).run prog w=.ok (.bool true) w:=λ_=>jK
  go_enter func92,ntmps92;go_wp2_with fail;go_ret;exact⟨_,rfl,akg _ _ _ _,aH _ _⟩
 |some A=>
  have I:=aT ((aH w.heap.size w).alloc (aR _) (.cells #[] TC));have U:Hid ((w.alloc (.cells #[] TC)).ownsRow w.heap.size TC 4 (.slice (some ⟨w.heap.size,0,none⟩) 0 0) 0 []):=World.ownsRow_lit (base:=w.heap.size) w #[] 0 (aR _) jD rfl;have HM:=aT (hm.below I hN);have HLB:Hid ((cs.flatMap cL).length=L*4):=by show _=_;rw[Q2,hl]
  have rV:=aT (Bv cs);have fX:Hid (∀j u,(cs.flatMap cL)[j]? =some u->(w.alloc (.cells #[] TC)).cell? (A.add j)=some u):=λj u hu=>by
   have hj:j<(cs.flatMap cL).length:=(au.1 hu).1;rw[Q2] at hj;obtain⟨x,hx⟩:∃x,cs[j/4]? =some x:=⟨_,aM jO⟩;obtain⟨_,_,e,hr⟩:=HM.out;injection e with e1;obtain⟨gu,off,e2,_,h0,h1,h2,h3⟩:=hr (j/4) x hx;rw[<-e1] at e2;cases e2;have Y:=RR cs (j/4) x hx (j%4) (awa _ jD);rw[show j/4*4+j%4=j from jO,hu] at Y;rw[show(⟨gu,off,none⟩:Addr).add j=⟨gu,off+j,none⟩ by cases j<;>rfl,Y];have h4:=awa j (show 4>0 from jD);rcases (show j%4=0\/j%4=1\/j%4=2\/j%4=3 from jO) with e|e|e|e;·rw[e,show off+j=off+j/4*4 from jO];exact h0
   ·rw[e,show off+j=off+j/4*4+1 from jO];exact h1
   ·rw[e,show off+j=off+j/4*4+2 from jO];exact h2
   ·rw[e,show off+j=off+j/4*4+3 from jO];exact h3
  have T:∀w,(binOp .eql 89 (.slice (some A) L c) (.slice none 0 0)).run prog w=.ok (.bool false) w:=λ_=>jK
  clear hl hm;go_enter func92,ntmps92
  go_wp2_with (first
   |(at_builtin;refine adg _ rfl _ _ 89 rfl w.heap.size TC i0 (.agg #[.int .i64 0,.int .i64 0,.int .u64 0,.int .u64 0]) 4 32 underlying89 J SC Z TD rfl jD _ 0 [] rfl U A L c (cs.flatMap cL) rfl HLB fX rV (by unfold maxLen;omega) jO I.size ?_;intro v' w6 C D _)
   |(refine wpList_plain rfl λK hK=> ?_;refine D8 _ 89 rfl underlying89 J Z ?_;refine hK _ _ ?_;clear hK K))
  rw[aca,age] at C;have HR:=aT C;have yY:=aT (I.grown D I.size (λk e=>(U.lt k e).1));clear C D;go_wp2_with fail;go_ret;exact⟨_,rfl,HR,yY⟩
end Go.Proofs.YtclgigmgbebhgaaGreatDoor
namespace Go.Proofs.YtclgigmgbebhgaaGreatDoor
open Tryz
open Go Go.Proofs
variable {a:Nat} {w:Nat->Nat}
theorem wF{c n:Z5}(h:c.right)(e:Xn c=.asks n):n.kept:=by
 intro C;obtain⟨_,ho,_⟩:=h;unfold Xn Ym XC WH at e;have A:c.o=1\/c.o=2\/c.o=3\/c.o=4\/c.o=5\/c.o=6\/c.o=7:=jO;have one:∀x:Z5,x.o≠7->Yx.asks x=.asks n->False:=λx hx e2=>by obtain rfl:=Yx.asks.inj e2;exact hx C
 rcases A with q|q|q|q|q|q|q;·rw[aG (.inl q)] at e;exact(one c jO e).elim
 ·rw[aG (.inr q)] at e;exact(one c jO e).elim
 ·rw[aN jO,aG q] at e;split at e
  ·cases e
  ·split at e;·exact(one _ jS e).elim
   ·exact(one _ jS e).elim
 ·rw[aN jO,aN jO,aG q] at e;split at e
  ·cases e
  ·split at e
   ·cases e
   ·split at e;·exact(one _ jS e).elim
    ·exact(one _ jS e).elim
 ·rw[aN jO,aN jO,aN jO,aG q] at e;split at e
  ·cases e
  ·split at e
   ·cases e
   ·split at e;·exact(one _ jS e).elim
    ·exact(one _ jS e).elim
 ·rw[aN jO,aN jO,aN jO,aN jO,aG q] at e;split at e
  ·cases e
  ·split at e;·exact(one _ jS e).elim
   ·exact(one _ jS e).elim
 ·rw[aN jO,aN jO,aN jO,aN jO,aN jO] at e;split at e
  ·cases e
  ·rename_i hn;split at e
   ·cases e
   ·split at e;·exact(one _ jS e).elim
    ·obtain rfl:=Yx.asks.inj e;exact Classical.not_not.1 hn
theorem Tw{f:Z5->Yx}:∀{cs ns:List Z5},ZO f cs=some ns->∀n∈ns,∃c∈cs,f c=.asks n
 |[],ns,h,n,hn=>by obtain rfl:=ax h;cases hn
 |c::cs,ns,h,n,hn=>by
  unfold ZO at h;cases hf:f c with
  |never=>rw[hf] at h;cases h
  |always=>
   rw[hf] at h;obtain⟨d,A,C⟩:=Tw (cs:=cs) h n hn;exact⟨d,by simp[A],C⟩
  |asks m=>
   rw[hf] at h;dsimp only at h;cases hr:ZO f cs with
   |none=>rw[hr] at h;cases h
   |some l=>
    rw[hr] at h;obtain rfl:=ax h;rcases abf.1 hn with rfl|hn;·exact⟨c,jS,hf⟩
    ·obtain⟨d,A,C⟩:=Tw hr n hn;exact⟨d,by simp[A],C⟩
def Us(l:List Z3):Prop:=∀r∈l,∀c∈r.1,c.nf/\c.kept
theorem DW{rs g:List Z3}(h:Ua rs g):(∀r∈rs,∀c∈r.1,c.right)->Us g:=by
 induction h with
 |nil=>intro _ r hr;cases hr
 |gone _ _ C=>intro hr;exact C (λr hm=>hr r (by simp[hm]))
 |hid _ _ _ C=>intro hr;exact C (λr hm=>hr r (by simp[hm]))
 | @more rs g cs code ns _ hn _ C=>
   intro hr r hm;rcases abe.1 hm with hm|hm;·exact C (λr hm=>hr r (by simp[hm])) r hm
   ·rcases aac.1 hm with rfl;intro c hc;obtain⟨l,I,J⟩:=hn;obtain⟨d,hd,D⟩:=Tw I c ((J c).1 hc);have A:=hr (cs,code) jS d hd;have:=(GA A).1;rw[D] at this;exact⟨this.1,wF A D⟩
theorem KB{d:Nat}{l l':List Z3}(h:WG d l l'):∀r∈l',r∈l:=by
 induction h with
 |same l=>exact λr hr=>hr
 |one _ A=>exact λr hr=>abe.2 (.inl (A r hr))
def strike(d:Nat)(l:List Z3):List Z3:=(l.reverse.dropWhile (λr=>r.2 == d)).reverse
theorem V0(d:Nat):∀(k:Nat) (l:List Z3),l.length<=k->WG d l (strike d l)
 |_,[],_=>WG.same []
 |0,x::r,h=>by simp at h
 |k+1,x::r,h=>by
  have A:x::r≠[]:=jS;have e:x::r=(x::r).dropLast++[(x::r).getLast A]:=(ape A).symm;generalize hi:(x::r).dropLast=i at*;generalize hz:(x::r).getLast A=z at*;have hlen:i.length<=k:=by rw[<-hi];simp at h ⊢;omega
  rw[e];unfold strike;rw[List.reverse_append];show WG d (i++[z]) ((z::i.reverse).dropWhile (λr=>r.2 == d)).reverse;rw[aqb];by_cases hd:z.2=d;·rw[aG (by simpa using hd)];obtain⟨D,C⟩:=z;obtain rfl:C=d:=hd;exact WG.one (V0 _ k i hlen)
  ·rw[aN (by simpa using hd)];rw[awg,axf];exact WG.same _
def Yu(a d:Nat)(g:List Z3):List Z3:=strike d (if a=2 then YJ g else UR g)
theorem bW (hw:GJ w){d:Nat}{g:List Z3}(h:Us g):(Zy (Sq w (decide (a≠2))) (Yu a d g)).getD d=(Zy (Sq w (decide (a≠2))) g).getD d:=by
 unfold Yu;rw[IV (V0 d _ _ (aR _))];by_cases ha:a=2
 ·rw[aG ha]
  have:∀x,Sq w (decide (a≠2)) x<U8:=λx=>by unfold Sq;rw[aN (by simp[ha])];exact hw _
  rw[KW this g h]
 ·rw[aN ha,Ep]
theorem MH:∀(l:List Z3),Us l->∀r∈YJ l,∀c∈r.1,c.nf/\c.v<U8/\c.m<U8
 |[],_,r,hr,_,_=>by cases hr
 |(cs,code)::l,h,r,hr,c,hc=>by
  have D:=MH l (λx hx=>h x (by simp[hx]));unfold YJ at hr;cases ha:ZO Zk cs with
  |none=>rw[ha] at hr;exact D r hr c hc
  |some ns=>
   rw[ha] at hr;have C:∀n∈ns,n.nf/\n.v<U8/\n.m<U8:=λn hn=>by obtain⟨d,hd,I⟩:=Tw ha n hn;have A:=h (cs,code) jS d hd;have:=(Ny A.1 A.2).2;rw[I] at this;exact⟨this.1,this.2.2.1,this.2.2.2⟩
   cases ns with
   |nil=>
    rcases aac.1 hr with rfl;cases hc
   |cons n ns=>
    rcases abf.1 hr with rfl|hr;·exact C c hc
    ·exact D r hr c hc
theorem Np:∀(l:List Z3),∀r∈UR l,r∈l
 |[],r,hr=>by cases hr
 |(cs,code)::l,r,hr=>by
  unfold UR at hr;split at hr;·rcases aac.1 hr with rfl;simp
  ·rcases abf.1 hr with rfl|hr;·simp
   ·exact afd _ (Np l r hr)
theorem KA{d:Nat}{g:List Z3}(h:Us g):GH (.rules (decide (a≠2)) (Yu a d g))/\∀r∈Yu a d g,∀c∈r.1,c.nf:=by
 have sub:=KB (V0 d _ (if a=2 then YJ g else UR g) (aR _));have all:∀r∈Yu a d g,∀c∈r.1,c.nf/\(a≠2\/(c.v<U8/\c.m<U8)):=by
  intro r hr c hc;have hm:=sub r hr;by_cases ha:a=2;·rw[aG ha] at hm;have:=MH g h r hm c hc;exact⟨this.1,.inr this.2⟩
  ·rw[aN ha] at hm;exact⟨(h r (Np g r hm) c hc).1,.inl ha⟩
 refine⟨λr hr c hc=> ?_,λr hr c hc=>(all r hr c hc).1⟩;obtain⟨A,C⟩:=all r hr c hc;exact⟨A.2.1,C.imp (λe=>by simpa using e) id⟩
structure O8 where
 num:Nat->Int
 rules:List Z3
def whole(a n:Nat):Nat:=if a=1 then n+V1 else n
def UG(Vy:Bool)(d:Nat)(gs:List O8)(s0 s1:List (Nat×Nat))(a:Nat)(ps:List (Nat×ZM)):Prop:=
 WJ ps/\∀q:Nat×ZM,q∈ps↔(∃g∈gs,0<=g.num a/\(a=1->Vy=true)/\Yu a d g.rules≠[]/\q=(whole a (g.num a).toNat,.rules (decide (a≠2)) (Yu a d g.rules)))\/(a=2/\(q=(102,.subs s0)\/q=(117,.subs s1)))
theorem DV{ps:List (Nat×ZM)}(h:ps.Pairwise (λp q=>p.1<q.1)){q:Nat×ZM}(A:q∈ps):ps.find? (λp=>p.1 == q.1)=some q:=by
 induction ps with
 |nil=>cases A
 |cons p ps D=>
  obtain⟨C,I⟩:=aha.1 h;rcases abf.1 A with rfl|A;·exact aqc jS
  ·have:=C q A;rw[anb (by simp;omega)];exact D I A
theorem IC{n m:Nat}(h:whole a n=whole a m):n=m:=by
 unfold whole at h;split at h<;>omega
theorem RL (hw:GJ w){Vy:Bool}{d:Nat}{gs:List O8}{s0 s1:List (Nat×Nat)} {ps:List (Nat×ZM)}(hp:UG Vy d gs s0 s1 a ps)(hx:a=1->Vy=true)(hR:∀g∈gs,Us g.rules)
 {n:Nat} {G:List Z3} (C:a=2->n≠102/\n≠117) (hG:(∃g∈gs,g.num a=n/\g.rules=G/\∀g'∈gs,g'.num a=n->g'=g)\/(G=[]/\∀g∈gs,g.num a≠n)):
 UU w d ps (whole a n)=(Zy (Sq w (decide (a≠2))) G).getD d:=by
 obtain⟨⟨I,_⟩,D⟩:=hp;have A:(∀g∈gs,g.num a=n->Yu a d g.rules=[])->UU w d ps (whole a n)=d:=by
  intro T;unfold UU;have:ps.find? (λp=>p.1 == whole a n)=none:=by
   rw[ayg];intro q hq e;have e:q.1=whole a n:=by simpa using e
   rcases (D q).1 hq with⟨g,J,h0,_,hne,rfl⟩|⟨ha,rfl|rfl⟩;·have:=IC e;exact hne (T g J jO)
   ·have:whole a n=n:=by unfold whole;rw[aN jO]
    rw[this] at e;exact(C ha).1 e.symm
   ·have:whole a n=n:=by unfold whole;rw[aN jO]
    rw[this] at e;exact(C ha).2 e.symm
  rw[this];rfl
 rcases hG with⟨g,J,hn,rfl,U⟩|⟨rfl,T⟩
 ·have ho:=bW (a:=a) (d:=d) hw (hR g J);by_cases he:Yu a d g.rules=[];·rw[A (λg' Y Z=>by rw[U g' Y Z];exact he),<-ho,he];rfl
  ·have hq:(whole a n,ZM.rules (decide (a≠2)) (Yu a d g.rules))∈ps:=(D _).2 (.inl ⟨g,J,jO,hx,he,by rw[show(g.num a).toNat=n from jO]⟩);unfold UU;have hf:=DV I hq;rw[show(whole a n,ZM.rules (decide (a≠2)) (Yu a d g.rules)).1=whole a n from rfl] at hf;rw[hf];show Pq w (decide (a≠2)) d (Yu a d g.rules)=_;rw[OG (KA (hR g J)).2,ho]
 ·rw[A (λg J e=>absurd e (T g J))];rfl
end Go.Proofs.YtclgigmgbebhgaaGreatDoor
namespace Go.Proofs.YtclgigmgbebhgaaGreatDoor
open Tryz
open Go Go.Proofs Go.RowKit
theorem rU:(prog.info? TQ).map (λi=>(i.zero,i.size,i.bytes))=some (some (.agg #[.slice none 0 0,.int .u32 0]),2,32):=jK
def qC(r:Z3)(u:Value):List Value:=[u,.int .u32 r.2]
def Xe:List Z3->List Value->List Value
 |r::rs,u::us=>qC r u++Xe rs us
 |_,_=>[]
theorem O7(r:Z3)(u:Value):∀(rs:List Z3) (us:List Value),us.length=rs.length->Xe (rs++[r]) (us++[u])=Xe rs us++qC r u
 |[],[],_=>by simp[Xe]
 |x::rs,y::us,h=>by show qC x y++Xe (rs++[r]) (us++[u])=qC x y++Xe rs us++qC r u;rw[O7 r u rs us (by simpa using h),aba]
theorem DU:∀(rs:List Z3) (us:List Value) (i:Nat) (r:Z3) (u:Value),rs[i]? =some r->us[i]? =some u->∀j,j<2->(Xe rs us)[i*2+j]? =(qC r u)[j]?
 |x::rs,y::us,0,r,u,hr,hu,j,hj=>by
  simp at hr hu;subst hr hu;show(qC x y++Xe rs us)[0*2+j]? =_;rw[abb (by show _<2;omega)]
  congr 1
  omega
 |x::rs,y::us,i+1,r,u,hr,hu,j,hj=>by have A:=DU rs us i r u (by simpa using hr) (by simpa using hu) j hj;show(qC x y++Xe rs us)[(i+1)*2+j]? =_;rw[aae (by show 2<=_;omega),show(i+1)*2+j-(qC x y).length=i*2+j by show(i+1)*2+j-2=_;omega];exact A
 |[],_,i,r,u,hr,_,_,_=>by simp at hr
 |_::_,[],i,r,u,_,hu,_,_=>by simp at hu
theorem IA:∀(a:List Z3) (ua:List Value),ua.length=a.length->(Xe a ua).length=a.length*2
 |[],[],_=>rfl
 |x::a,y::ua,h=>by show(qC x y++Xe a ua).length=_;rw[ay,IA a ua (by simpa using h)];show 2+_=(a.length+1)*2;omega
theorem Kz:∀(m:Nat) (a:List Z3) (ua:List Value),ua.length=a.length->Xe (a.take m) (ua.take m)=(Xe a ua).take (m*2)
 |0,a,ua,_=>by simp[Xe]
 |m+1,[],[],_=>by simp[Xe]
 |m+1,x::a,y::ua,h=>by have A:=Kz m a ua (by simpa using h);show qC x y++Xe (a.take m) (ua.take m)=(qC x y++Xe a ua).take ((m+1)*2);rw[A,List.take_append,show(qC x y).length=2 from rfl,show(m+1)*2-2=m*2 from jO,abd (l:=qC x y) (by show 2<=_;omega)]
structure Yk(lo:Nat)(W:World)(v:Value)(rs:List Z3)(us:List Value):Prop where
 len:us.length=rs.length
 row:W.ownsRow lo TQ 2 v rs.length (Xe rs us)
 cs:∀(j:Nat) (u:Value) (r:Z3),us[j]? =some u->rs[j]? =some r->W.ownsRow 0 TC 4 u r.1.length (r.1.flatMap cL)
section
variable {lo:Nat} {W W':World} {v:Value} {rs:List Z3} {us:List Value}
theorem Yk.cell{a:Option Addr}{n c:Nat}(h:Yk lo W (.slice a n c) rs us){i:Nat}{r:Z3}(hr:rs[i]? =some r):∃g u,a=some ⟨g,0,none⟩/\g<W.heap.size/\lo<=g/\us[i]? =some u/\W.cell? ⟨g,i*2,none⟩=some u/\W.cell? ⟨g,i*2+1,none⟩=some (.int .u32 r.2):=by
 have C:=(au.1 hr).1;obtain⟨u,hu⟩:∃u,us[i]? =some u:=⟨_,aM (by rw[h.len];exact C)⟩;have hn:n=rs.length:=by obtain⟨a',Y,T⟩:=Z1 h.row;injection T
 subst hn;rcases h.row.2 with⟨e,U⟩|⟨g,cap,I,e,A,D,_⟩;·omega
 ·injection e with e1 _ e2;subst e1;have at_:∀j,j<2->W.cell? ⟨g,i*2+j,none⟩=(qC r u)[j]? :=λj J=>by rw[h.row.cellAt (i*2+j) jO,DU rs us i r u hr hu j J]
  exact⟨g,u,rfl,(aaa.1 D).1,A,hu,at_ 0 jD,at_ 1 jD⟩
theorem Yk.rules(h:Yk lo W v rs us):Ux W.heap.size W v rs:=by
 obtain⟨a,c,rfl⟩:=Z1 h.row;refine⟨a,c,rfl,λi r hr=> ?_⟩;obtain⟨g,u,e,A,_,hu,D,C⟩:=h.cell hr;exact⟨g,0,u,e,A,by rw[aca];exact D,by rw[aca];exact C,Tx (h.cs i u r hu hr)⟩
theorem Yk.grown{row:Option Nat}(h:Yk lo W v rs us)(I:W.grownBy W' row)(hr:∀k,row=some k->v.ownBlock≠some k/\∀cs,¬Z7 W k TC cs):Yk lo W' v rs us:=by
 refine⟨h.len,h.row.kept I ?_,λj u r hu C=>(h.cs j u r hu C).kept I ?_⟩
 ·cases A:row with
  |none=>cases v.ownBlock<;>simp
  |some k=>exact .inr (hr k A).1
 ·cases A:row with
  |none=>cases u.ownBlock<;>simp
  |some k=>
   refine .inr (λe=> ?_);rcases (h.cs j u r hu C).2 with⟨rfl,_⟩|⟨g,cap,D,rfl,_,hb,_⟩
   ·cases e
   ·have e2:g=k:=ax e;subst e2;exact(hr g A).2 D hb
theorem Yk.Zs(h:Yk lo W v rs us)(hb:Below W.heap.size W W'):Yk lo W' v rs us:=
 h.grown (row:=none) ⟨hb.os,hb.tape,hb.output,hb.size,λk hk _=>hb.block k hk⟩ (λk e=>by cases e)
theorem Yk.mono{lo':Nat}(h:Yk lo W v rs us)(hl:lo'<=lo):Yk lo' W v rs us:=⟨h.len,Zd h.row hl,h.cs⟩
theorem Yk.nil(lo:Nat)(W:World):Yk lo W (.slice none 0 0) [] []:=⟨rfl,akg _ _ _ _,λj u r h=>by simp at h⟩
theorem TW{k t t':Nat}{cs cs':Array Value}(h:Z7 W k t cs)(A:Z7 W k t' cs'):t=t':=by
 have:=(show W.heap[k]? =_ from h).symm.trans A;simp only[akf,ayf] at this;exact this.2.1
theorem Yk.set{B t:Nat}{cs:Array Value}(h:Yk lo W v rs us)(A:Z7 W B t cs)(C:TQ≠t)(D:TC≠t)(j:Nat)(u:Value):Yk lo (W.setCell ⟨B,j,none⟩ u) v rs us:=
 ⟨h.len,ZV h.row A C j u,λi x r hx hr=>ZV (h.cs i x r hx hr) A D j u⟩
theorem Yk.kU{B:Nat}{cs:Array Value}(h:Yk lo W v rs us)(C:Z7 W B TQ cs)(A:v.ownBlock≠some B)(j:Nat)(u:Value):Yk lo (W.setCell ⟨B,j,none⟩ u) v rs us:=
 h.grown (row:=some B) ⟨rfl,rfl,rfl,jS,λk _ hk=>aef W ⟨B,j,none⟩ u k (λe=>hk (by rw[e]))⟩ (λk e=>by obtain rfl:=ax e;exact⟨A,λcs' hb=>absurd (TW C hb) jD⟩)
theorem Yk.take{g n cap:Nat}(h:Yk lo W (.slice (some ⟨g,0,none⟩) n cap) rs us){m:Nat}(hm:m<=rs.length):Yk lo W (.slice (some ⟨g,0,none⟩) m cap) (rs.take m) (us.take m):=by
 have hn:n=rs.length:=by obtain⟨a',c',Y⟩:=Z1 h.row;injection Y
 subst hn;refine⟨by rw[abg,abg,h.len],?_,λj u r hu hr=> ?_⟩
 ·have hl:(rs.take m).length=m:=by rw[abg];omega
  rw[Kz m rs us h.len,hl];have D:=IA rs us h.len;refine⟨by rw[abg,D];omega,?_⟩;rcases h.row.2 with⟨e,_⟩|⟨g',I,A,e,C,J,h4,T,Z,h7⟩
  ·cases e
  ·injection e with e1 e2 e3;injection e1 with e1;injection e1 with e1;subst e1 e3;refine .inr ⟨g,cap,A,rfl,C,J,jO,T,Z,?_⟩;rw[<-h7,List.take_take,Nat.min_eq_left jO]
 ·rw[aie] at hu hr;split at hu;·rename_i U;rw[aG U] at hr;exact h.cs j u r hu hr
  ·cases hu
end
end Go.Proofs.YtclgigmgbebhgaaGreatDoor
namespace Go.Proofs.YtclgigmgbebhgaaGreatDoor
open Tryz
open Go Go.Proofs Go.RowKit Go.Maps Go.WideMaps Go.ChangeMaps
def Xd(a:Nat)(l:List Z3):List Z3:=if a=2 then YJ l else UR l
theorem wE(a:Nat):Xd a []=[]:=by unfold Xd;split<;>rfl
theorem rT(a d:Nat)(l:List Z3):Yu a d l=strike d (Xd a l):=rfl
theorem YX.mono{N K:Nat}{W:World}{v:Value}{cs:List Z5}(h:YX N W v cs)(hk:N<=K):YX K W v cs:=by
 obtain⟨ua,uc,e,h⟩:=h;refine⟨ua,uc,e,λk c hc=> ?_⟩;obtain⟨A,off,e,hl,C⟩:=h k c hc;exact⟨A,off,e,adf hl hk,C⟩
structure Iz(lo P:Nat)(w0 W:World)(v:Value)(l:List Z3)(us:List Value)(cs:List Z5)(code:Nat)(ua:Option Addr)(K uc:Nat)(pc:Option Value)(pb:Option (Nat×Value)):Prop where
 row:Yk lo W v l us
 Zs:Below lo w0 W
 lw:lo<=W.heap.size
 bp:Z7 W P TQ #[.slice ua K uc,.int .u32 code]
 ne:v.ownBlock≠some P
 cm:pc=none->YX W.heap.size W (.slice ua K uc) cs
 tc:∀x,pc=some x->W.ownsRow 0 TC 4 x cs.length (cs.flatMap cL)
 tb:∀b x,pb=some (b,x)->Z7 W b TQ #[x,.int .u32 code]/\x.oneCell'=true/\pc=some x
section
variable {lo P:Nat} {w0 W:World} {v:Value} {l:List Z3} {us:List Value} {cs:List Z5} {code:Nat} {ua:Option Addr} {K uc:Nat} {pc:Option Value} {pb:Option (Nat×Value)}
theorem Iz.S(h:Iz lo P w0 W v l us cs code ua K uc pc pb):W.cell? ⟨P,0,none⟩=some (.slice ua K uc)/\W.cell? ⟨P,1,none⟩=some (.int .u32 code):=(XK h.bp).1
theorem Iz.drew(h:Iz lo P w0 W v l us cs code ua K uc pc pb):Iz lo P w0 W.drew v l us cs code ua K uc pc pb:=
 ⟨⟨h.row.len,h.row.row.drew,λj u r hu hr=>(h.row.cs j u r hu hr).drew⟩,h.Zs.drew,h.lw,h.bp,h.ne,λe=>(h.cm e).below (N:=W.heap.size) (K:=W.heap.size) (aH _ _).drew (aR _),λx e=>(h.tc x e).drew,h.tb⟩
theorem Iz.clone(h:Iz lo P w0 W v l us cs code ua K uc none none)(D:cs.length=K)(A:K<=1000000):
 Calls prog 92 #[.slice ua K uc] W λe w'=>∃C xc,e=.returned (.slice C K xc)/\Iz lo P w0 w' v l us cs code ua K uc (some (.slice C K xc)) none:=by
 refine(Bu D A W (h.cm rfl) (aR _)).mono ?_;rintro e w' ⟨x,rfl,hx,hb⟩;obtain⟨C,xc,rfl⟩:=Z1 hx;refine⟨C,xc,rfl,h.row.Zs hb,h.Zs.trans (hb.mono h.lw),aO h.lw hb.size,h.bp.below hb h.bp.lt,h.ne,λe=>(by cases e),λy e=> ?_,λb y e=>(by cases e)⟩;cases e;rw[D];exact Zd hx (abc _)
theorem Iz.Xk{x:Value}(h:Iz lo P w0 W v l us cs code ua K uc (some x) none)(hx:x.oneCell'=true):Iz lo P w0 (W.alloc (.cells #[x,.int .u32 code] TQ)) v l us cs code ua K uc (some x) (some (W.heap.size,x)):=
 ⟨h.row.Zs ((aH _ _).alloc (aR _) _),h.Zs.alloc h.lw _,by rw[ah];have:=h.lw;omega,h.bp.alloc _,h.ne,λe=>(by cases e),λy e=>(h.tc y e).alloc _,λb y e=>(by cases e;exact⟨Z7.new W _ _,hx,rfl⟩)⟩
theorem Xq{W:World}{B e s n:Nat}{v:Value}{xs:List Value}(h:W.ownsRow B e s v n xs){k:Nat}(hk:v.ownBlock=some k):∃cs,Z7 W k e cs:=by
 rcases h.2 with⟨rfl,_⟩|⟨g,cap,A,rfl,_,hb,_⟩
 ·cases hk
 ·cases hk;exact⟨A,hb⟩
theorem Iz.step{ops:Array Oper}{o:Oper}{a:Act}{Kk:Act->World->Prop}{Q:Exit->Act->World->Prop}{E:Prop}{b:Nat}{x:Value}(h:Iz lo P w0 W v l us cs code ua K uc pc (some (b,x)))(hgd:o.guard=none)(s y:Operand)
 (ho:o.op=.call {callee:=.builtin .append,args:=#[s,y],argTypes:=#[115,115]}) (hs:a.eval s=v) (hx:a.eval y=.slice (some ⟨b,0,none⟩) 1 1) (Xl:l.length<=1000000)
 (hK:∀gb cap w',Yk lo w' (.slice (some ⟨gb,0,none⟩) (l.length+1) cap) (l++[(cs,code)]) (us++[x])/\Below lo w0 w'/\Z7 w' P TQ #[.slice ua K uc,.int .u32 code]/\lo<=w'.heap.size->Kk (a.put o.dst (.slice (some ⟨gb,0,none⟩) (l.length+1) cap)) w'):
 if Region.wanted o (yielded ops a.tmps)=true then Oper.wp prog o a W Kk Q else E:=by
 obtain⟨i0,hi,Z,Y,U⟩:=RP rU;obtain⟨hb,I,T⟩:=h.tb b x rfl;refine step_append_lies W hgd s y 115 ho lo TQ i0 (.agg #[.slice none 0 0,.int .u32 0]) 2 32 underlying115 hi Z Y U rfl jD v l.length (Xe l us) hs h.row.row ⟨b,0,none⟩ 1 1 [x,.int .u32 code] hx rfl ?_ ?_ jD (by unfold maxLen;omega) jO h.lw _ rfl ?_;·exact World.news_of_block hb
 ·intro u hu;simp at hu;rcases hu with rfl|rfl;·exact I
  ·rfl
 ·intro gb cap w' C J hat _
  have D:∀k,v.ownBlock=some k->∀cs,¬Z7 W k TC cs:=λk hk cs hbk=>by obtain⟨cs',h2⟩:=Xq h.row.row hk;exact absurd (TW h2 hbk) jD
  have A:∀{u:Value} {ds:List Z5},W.ownsRow 0 TC 4 u ds.length (ds.flatMap cL)->w'.ownsRow 0 TC 4 u ds.length (ds.flatMap cL):=λ{u ds} h1=>by
   refine h1.kept J ?_;cases hv:v.ownBlock with
   |none=>cases u.ownBlock<;>simp
   |some k=>
    refine .inr (λe=> ?_);obtain⟨cs',h2⟩:=Xq h1 e;exact D k hv cs' h2
  refine hK gb cap w' ⟨⟨?_,?_,λj u r hu hr=> ?_⟩,h.Zs.grown J h.lw (λk e=>(h.row.row.lt k e).1),Z7.kept h.bp J (λe=>h.ne e.symm),aO h.lw J.size⟩;·rw[ay,ay,h.row.len];rfl
  ·rw[ay,O7 _ _ _ _ h.row.len];exact C
  ·by_cases hj:j<l.length;·rw[abb (by rw[h.row.len];exact hj)] at hu;rw[abb hj] at hr;exact A (h.row.cs j u r hu hr)
   ·rw[aae (by rw[h.row.len];omega),h.row.len] at hu;rw[aae jO] at hr
    have mV:j-l.length=0:=by have:=(au.1 hr).1;simp at this;omega
    rw[mV] at hu hr;simp at hu hr;subst hu hr;exact A (h.tc _ T)
end
theorem bV:∀w,(Go.sizeOf TQ).run prog w=.ok 2 w:=λ_=>jK
theorem DT(W:World)(g n A k:Nat)(hk:k<=A):(Instr.slice 115 (.slice (some ⟨g,0,none⟩) n A) none (some (.int .i64 k)) none).run prog W=.ok (.slice (some ⟨g,0,none⟩) k A) W:=by
 have C:prog.underlying 115=some (.slice (prog.elem 115)):=by simp[Program.elem,underlying115]
 have D:prog.elem 115=TQ:=by simp[Program.elem,underlying115]
 rw[run_slice_h W _ _ _ _ C .i64 _ jO jO,D,bV];simp[Result.andThen,sliced,Addr.add]
end Go.Proofs.YtclgigmgbebhgaaGreatDoor
