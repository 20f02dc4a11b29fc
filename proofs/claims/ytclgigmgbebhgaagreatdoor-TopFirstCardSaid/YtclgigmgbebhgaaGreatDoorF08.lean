/- TopFirst: part 8: TopN5 TopRes2 TopN6 TopMapS TopN7 TopRes3 TopResQ TopRes4 TopRes5. -/
import Derived.Deep.RegionLaw
import Derived.Test.YtclgigmgbebhgaaGreatDoorF07
set_option linter.unusedVariables false
set_option linter.unusedSimpArgs false
set_option maxRecDepth 100000
set_option maxHeartbeats 16000000
namespace Go.Proofs.YtclgigmgbebhgaaGreatDoor
open Tryz
open Go Go.Proofs Go.RowKit
variable {tmps:Array Value} {xs:List Value} {base R N L:Nat} {a:Option Addr} {P:Prop} {W w w':World}
abbrev TR:Nat:=91
theorem Ux{f:Z5->Yq}{c:Z5}:∀{l ls:List Z5},ZO f l=some ls->∀n,f c=.asks n->ZO f (l++[c])=some (ls++[n])
 |[],ls,h,n,hc=>by obtain rfl:=aq h;show(match f c with | .never=>none | .always=>ZO f [] | .asks n=>(ZO f []).map (n::·))=_;rw[hc];rfl
 |x::l,ls,h,n,hc=>by
  have e:ZO f (x::l)=(match f x with | .never=>none | .always=>ZO f l | .asks n=>(ZO f l).map (n::·)):=rfl;show(match f x with | .never=>none | .always=>ZO f (l++[c]) | .asks n=>(ZO f (l++[c])).map (n::·))=_;rw[e] at h;cases hx:f x with
  |never=>rw[hx] at h;cases h
  |always=>rw[hx] at h;exact Ux h n hc
  |asks m=>
   rw[hx] at h;dsimp only at h ⊢;cases hr:ZO f l with
   |none=>rw[hr] at h;cases h
   |some k=>
    rw[hr] at h;obtain rfl:=aq h;rw[Ux hr n hc];rfl
theorem Uw{f:Z5->Yq}{c:Z5}:∀{l ls:List Z5},ZO f l=some ls->f c=.always->ZO f (l++[c])=some ls
 |[],ls,h,hc=>by show(match f c with | .never=>none | .always=>ZO f [] | .asks n=>(ZO f []).map (n::·))=_;rw[hc];exact h
 |x::l,ls,h,hc=>by
  have e:ZO f (x::l)=(match f x with | .never=>none | .always=>ZO f l | .asks n=>(ZO f l).map (n::·)):=rfl;show(match f x with | .never=>none | .always=>ZO f (l++[c]) | .asks n=>(ZO f (l++[c])).map (n::·))=_;rw[e] at h;cases hx:f x with
  |never=>rw[hx] at h;cases h
  |always=>rw[hx] at h;exact Uw h hc
  |asks m=>
   rw[hx] at h;dsimp only at h ⊢;cases hr:ZO f l with
   |none=>rw[hr] at h;cases h
   |some k=>
    rw[hr] at h;rw[Uw hr hc];exact h
theorem Tk{f:Z5->Yq}:∀{l:List Z5} {c:Z5},c∈l->f c=.never->ZO f l=none
 |x::l,c,hm,hc=>by
  show(match f x with | .never=>none | .always=>ZO f l | .asks n=>(ZO f l).map (n::·))=_;rcases abb.1 hm with rfl|hm;·rw[hc]
  ·have C:=Tk hm hc;rw[C];cases f x<;>rfl
theorem Tj{f:Z5->Yq}:∀{l ls:List Z5},ZO f l=some ls->ls.length<=l.length
 |[],ls,h=>by obtain rfl:=aq h;exact aR _
 |x::l,ls,h=>by
  have e:ZO f (x::l)=(match f x with | .never=>none | .always=>ZO f l | .asks n=>(ZO f l).map (n::·)):=rfl;rw[e] at h;cases hx:f x with
  |never=>rw[hx] at h;cases h
  |always=>rw[hx] at h;exact Nat.le_succ_of_le (Tj h)
  |asks m=>
   rw[hx] at h;dsimp only at h;cases hr:ZO f l with
   |none=>rw[hr] at h;cases h
   |some k=>
    rw[hr] at h;obtain rfl:=aq h;exact axb (Tj hr)
theorem VJ{α:Type}{l:List α}{i:Nat}{x:α}(h:l[i]? =some x):l.take (i+1)=l.take i++[x]:=by
 have hl:=ak.1 h;rw[List.take_succ_eq_append_getElem hl.1,hl.2]
theorem YV {B e s n t:Nat}{v:Value} {cs:Array Value}(h:W.ownsRow base e s v n xs)(C:Z7 W B t cs)(ht:e≠t):v.ownBlock≠some B:=by
 rcases h.2 with⟨rfl,_⟩|⟨g,cap,I,rfl,_,D,_⟩;·intro e2;cases e2
 ·intro e2;have e3:g=B:=aq e2;subst e3;have:=D.symm.trans C;simp only[ahf,ayd] at this;exact ht this.2.1
theorem Z0 {e s n:Nat}{v:Value} (h:W.ownsRow base e s v n xs):∃a c,v=.slice a n c:=by
 rcases h.2 with⟨rfl,D⟩|⟨g,cap,C,rfl,_⟩;·exact⟨none,0,by rw[D]⟩
 ·exact⟨_,_,rfl⟩
theorem ZV {B e s n t:Nat}{v:Value} {cs:Array Value}(h:W.ownsRow base e s v n xs)(D:Z7 W B t cs)(ht:e≠t)(j:Nat)(u:Value):(W.setCell ⟨B,j,none⟩ u).ownsRow base e s v n xs:=
 h.kept (row:=some B) ⟨rfl,rfl,rfl,jS,λk _ C=>afc W ⟨B,j,none⟩ u k (λe=>C (by rw[e]))⟩ (.inr (YV h D ht))
theorem Iq(ls:List Z5)(x:Z5):(ls++[x]).flatMap cL=ls.flatMap cL++cL x:=by rw[aca];simp
theorem Gf:(prog.info? TC).map (λi=>(i.zero,i.size,i.bytes))=some (some (.agg #[.int .i64 0,.int .i64 0,.int .u64 0,.int .u64 0]),4,32):=jK
theorem Pq{P:Program}{t:TypeId}{z:Value}{s b:Nat}(h:(P.info? t).map (λi=>(i.zero,i.size,i.bytes))=some (some z,s,b)):∃i,P.info? t=some i/\i.zero=some z/\i.size=s/\i.bytes=b:=by
 cases hi:P.info? t with
 |none=>rw[hi] at h;cases h
 |some i=>rw[hi] at h;simp at h;exact⟨i,rfl,h⟩
theorem DY{fn:Func}{t u:Tmp}(h:fn.results=#[.cell t TR,.tmp u]) {c0 c1 c2 c3:Value}(hb:Z7 W R TR #[c0,c1,c2,c3])(ht:tmps.getD t undef=.pointer (some ⟨R,0,none⟩)):(results fn tmps).run prog W=.ok (.tuple #[.agg #[c0,c1,c2,c3],tmps.getD u undef]) W:=by
 obtain⟨⟨e0,e1,e2,e3⟩,_⟩:=Z8 hb;rw[ajb] at ht;simp[results,h,go_sem,ht,e0,e1,e2,e3]
def rT(cs:List Z5)(nm:ByteArray)(k n:Int)(w:World)(e:Ending)(w':World):Prop:=
 ((TV cs none/\e=.returned (.tuple #[.agg #[.string ⟨#[]⟩,.int .i64 0,.int .i64 0,.slice none 0 0],.bool false]))\/
  (∃(v:Value) (ns:List Z5),TV cs (some ns)/\ns.length<=cs.length/\e=.returned (.tuple #[.agg #[.string nm,.int .i64 k,.int .i64 n,v],.bool true])/\w'.ownsRow w.heap.size TC 4 v ns.length (ns.flatMap cL)))/\Below w.heap.size w w'
theorem wL {ua:Option Addr}{uc:Nat}{cs:List Z5}{nm:ByteArray}{k n:Int}(hL:cs.length=L)(Xo:L<=1000)(hr:∀c∈cs,c.right)(w:World)(h:YT N w (.slice ua L uc) cs)(hN:N<=w.heap.size):
 Calls prog 86 #[.agg #[.string nm,.int .i64 k,.int .i64 n,.slice ua L uc]] w (rT cs nm k n w):=by
 have HL:=aT hL;have yV:=aT hr;have HM:=aT h;have HP:Hid (Z7 (((w.alloc (.cells #[.string nm,.int .i64 k,.int .i64 n,.slice ua L uc] TR)).alloc (.cells #[.string ⟨#[]⟩,.int .i64 0,.int .i64 0,.slice none 0 0] TR)).alloc (.cells #[.string nm,.int .i64 k,.int .i64 n,.slice none 0 0] TR)) w.heap.size TR #[.string nm,.int .i64 k,.int .i64 n,.slice ua L uc]):=((Z7.new w _ _).alloc _).alloc _;have HR:Hid (Z7 (((w.alloc (.cells #[.string nm,.int .i64 k,.int .i64 n,.slice ua L uc] TR)).alloc (.cells #[.string ⟨#[]⟩,.int .i64 0,.int .i64 0,.slice none 0 0] TR)).alloc (.cells #[.string nm,.int .i64 k,.int .i64 n,.slice none 0 0] TR)) (w.heap.size+1) TR #[.string ⟨#[]⟩,.int .i64 0,.int .i64 0,.slice none 0 0]):=(Z7.OY _ _ _ _).alloc _;have HO:Hid (Z7 (((w.alloc (.cells #[.string nm,.int .i64 k,.int .i64 n,.slice ua L uc] TR)).alloc (.cells #[.string ⟨#[]⟩,.int .i64 0,.int .i64 0,.slice none 0 0] TR)).alloc (.cells #[.string nm,.int .i64 k,.int .i64 n,.slice none 0 0] TR)) (w.heap.size+1+1) TR #[.string nm,.int .i64 k,.int .i64 n,.slice none 0 0]):=Z7.ah1 _ _ _ _ _;have HB:=aT (ah2 w (.cells #[.string nm,.int .i64 k,.int .i64 n,.slice ua L uc] TR) (.cells #[.string ⟨#[]⟩,.int .i64 0,.int .i64 0,.slice none 0 0] TR) (.cells #[.string nm,.int .i64 k,.int .i64 n,.slice none 0 0] TR));clear hL hr h;obtain⟨i0,XS,RH,Vb,Tl⟩:=Pq Gf;go_enter func86,ntmps86;go_upto_region 2 with fail;generalize ((w.alloc (.cells #[.string nm,.int .i64 k,.int .i64 n,.slice ua L uc] TR)).alloc (.cells #[.string ⟨#[]⟩,.int .i64 0,.int .i64 0,.slice none 0 0] TR)).alloc (.cells #[.string nm,.int .i64 k,.int .i64 n,.slice none 0 0] TR)=w3 at*;obtain⟨⟨p0,p1,p2,p3⟩,_⟩:=Z8 HP;obtain⟨R,hR⟩:=jX (w.heap.size+1);obtain⟨O,hO⟩:=jX (w.heap.size+1+1);rw[hO] at HO ⊢;rw[hR] at HR ⊢;have tN:w.heap.size<R:=jO;have hRO:R<O:=jO;clear hR hO;go_upto_region 3 with fail;go_loopg [17] (L+1) (λgg iv wr=>∃(i:Nat) (v:Value) (ls:List Z5),i<=L/\L-i<gg/\iv=.int .i64 (i:Int)/\ls.length<=i/\Hid (Z7 wr R TR #[.string ⟨#[]⟩,.int .i64 0,.int .i64 0,.slice none 0 0])/\Hid (Z7 wr O TR #[.string nm,.int .i64 k,.int .i64 n,v])/\Hid (wr.ownsRow w.heap.size TC 4 v ls.length (ls.flatMap cL))/\Hid (ZO Xj (cs.take i)=some ls)/\Hid (Below w.heap.size w wr));case atStart=>exact⟨0,.slice none 0 0,[],abd _,jO,rfl,aR _,HR,HO,anb _ _ _ _,(by show _=_;rfl),HB⟩
 case round=>
  obtain⟨i,v,ls,sR,Vs,rfl,hlen,HR,HO,HW,HA,HB⟩:=hrel;have wC:=jZ i;have Jc:=jW i;by_cases hlt:i<L
  ·have Zd:(i:Int)<(L:Int):=by omega
   obtain⟨c,hc⟩:∃c,cs[i]? =some c:=⟨_,aL (by rw[HL.out];exact hlt)⟩;obtain⟨ua2,uc2,e,hrow⟩:=HM.out;injection e with e1 e3 e2;subst e1 e2;clear e3;obtain⟨gu,off,rfl,DX,y0,y1,y2,y3⟩:=hrow i c hc;have y0:=ZY HB hN DX y0;have y1:=ZY HB hN DX y1;have y2:=ZY HB hN DX y2;have y3:=ZY HB hN DX y3;have HT:=aT (VJ hc);have Cj:=aT (ag hc);have HC:=aT (λW=>wR c (yV c Cj) W);have Uj:Hid (∀m,Xj c=.asks m->ZO Xj (cs.take (i+1))=some (ls++[m])):=λm hm=>by rw[HT.out];exact Ux HA m hm
   have Oi:Hid (Xj c=.always->ZO Xj (cs.take (i+1))=some ls):=λhm=>by rw[HT.out];exact Uw HA hm
   have Ge:Hid (Xj c=.never->ZO Xj cs=none):=λhm=>Tk Cj hm
   clear hrow hc HT Cj HA;generalize Xj c=S at*;obtain⟨a,o,m,vv⟩:=c;unfold cC at HC;dsimp only at*;have HK:=aT (Z7.new wr TC #[.int .i64 a,.int .i64 o,.int .u64 m,.int .u64 vv]);have BC:=aT (HR.alloc (.cells #[.int .i64 a,.int .i64 o,.int .u64 m,.int .u64 vv] TC));have xu:=aT (HO.alloc (.cells #[.int .i64 a,.int .i64 o,.int .u64 m,.int .u64 vv] TC));have cM:=aT (HW.alloc (.cells #[.int .i64 a,.int .i64 o,.int .u64 m,.int .u64 vv] TC));have VE:=aT (HB.alloc HB.size (.cells #[.int .i64 a,.int .i64 o,.int .u64 m,.int .u64 vv] TC));go_upto_region 5 with fail;clear HR HO HW HB y0 y1 y2 y3;generalize wr.alloc (.cells #[.int .i64 a,.int .i64 o,.int .u64 m,.int .u64 vv] TC)=w1 at*;obtain⟨⟨q0,q1,q2,q3⟩,_⟩:=Z8 HK;go_wp2_with fail;refine(HC w1).mono ?_;rintro e w2 ⟨rfl,hb⟩;have D:=aT (BC.below hb BC.lt);have Z:=aT (xu.below hb xu.lt);have T:Hid (w2.ownsRow w.heap.size TC 4 v ls.length (ls.flatMap cL)):=ZC cM hb;have C:=aT (VE.trans (hb.mono VE.size));clear hb BC xu cM VE HK HC q0 q1 q2 q3;cases S with
   |never=>
    have nk:=aT (Ge rfl);obtain⟨_,f0,f1,f2,f3⟩:=Z8 (D.alloc (.cells #[.int .i64 0,.int .i64 0,.int .u64 0,.int .u64 0] TC));obtain⟨⟨r0,r1,r2,r3⟩,_⟩:=Z8 (D.alloc (.cells #[.int .i64 0,.int .i64 0,.int .u64 0,.int .u64 0] TC));simp only[np,cT,Int.natCast_zero] at*;go_wp2_with fail;refine aaf (DY rfl (ZF (D.alloc _) _ _ _ _) rfl) rfl ?_;exact⟨.inl ⟨nk,rfl⟩,ZE (C.alloc C.size _) (acf tN) _ _ _ _⟩
   |always=>
    have HAL:=aT (Oi rfl);simp only[np,cT,Int.natCast_zero] at*;go_wp2_with fail;go_roundg (L-i);case measure=>omega
    case rel=>exact⟨i+1,v,ls,jO,jO,by go_num,jO,D.alloc _,Z.alloc _,T.alloc _,HAL,C.alloc C.size _⟩
   |asks x=>
    have HAS:=aT (Uj x rfl);simp only[np,cT] at*;obtain⟨va,vc,rfl⟩:=Z0 T;obtain⟨xa,xo,xm,xv⟩:=x;dsimp only at*;have HX:=aT (Z7.new w2 TC #[.int .i64 xa,.int .i64 xo,.int .u64 xm,.int .u64 xv]);have Jm:=aT (D.alloc (.cells #[.int .i64 xa,.int .i64 xo,.int .u64 xm,.int .u64 xv] TC));have Y:=aT (Z.alloc (.cells #[.int .i64 xa,.int .i64 xo,.int .u64 xm,.int .u64 xv] TC));have cK:=aT (T.alloc (.cells #[.int .i64 xa,.int .i64 xo,.int .u64 xm,.int .u64 xv] TC));have Uy:=aT (C.alloc C.size (.cells #[.int .i64 xa,.int .i64 xo,.int .u64 xm,.int .u64 xv] TC));go_upto_region 10 with fail;clear D Z T C;generalize w2.alloc (.cells #[.int .i64 xa,.int .i64 xo,.int .u64 xm,.int .u64 xv] TC)=w4 at*;generalize w2.heap.size=XB at*;obtain⟨⟨x0,x1,x2,x3⟩,_⟩:=Z8 HX;obtain⟨⟨_,_,_,o3⟩,_⟩:=Z8 Y;obtain⟨⟨_,_,_,o4⟩,_,_,_,f4⟩:=Z8 (Y.alloc (.cells #[.int .i64 xa,.int .i64 xo,.int .u64 xm,.int .u64 xv] TC));have yU:=aT (Y.alloc (.cells #[.int .i64 xa,.int .i64 xo,.int .u64 xm,.int .u64 xv] TC));have I:=aT (Jm.alloc (.cells #[.int .i64 xa,.int .i64 xo,.int .u64 xm,.int .u64 xv] TC));have BB:=aT (cK.alloc (.cells #[.int .i64 xa,.int .i64 xo,.int .u64 xm,.int .u64 xv] TC));have Ni:=aT (Uy.alloc Uy.size (.cells #[.int .i64 xa,.int .i64 xo,.int .u64 xm,.int .u64 xv] TC))
    go_wp2_with (at_builtin;(refine aea _ rfl _ _ 89 rfl w.heap.size TC i0 (.agg #[.int .i64 0,.int .i64 0,.int .u64 0,.int .u64 0]) 4 32 underlying89 XS RH Vb Tl rfl jD _ ls.length _ rfl BB ⟨w4.heap.size,0,none⟩ 1 1 [.int .i64 xa,.int .i64 xo,.int .u64 xm,.int .u64 xv] rfl rfl (World.news_of_block (Z7.new w4 _ _)) (by simp[Value.oneCell']) (by unfold maxLen;omega) jO Ni.size ?_;intro v' w7 hown' hgrow _;obtain⟨cI,vc',rfl⟩:=Z0 hown';have Lz:=aT (yU.kept hgrow (λe=>YV BB yU jD e.symm));obtain⟨⟨_,_,_,o7⟩,_,_,_,f7⟩:=Z8 Lz))
    have HR7:=aT (I.kept hgrow (λe=>YV BB I jD e.symm));have gK:=aT hown';have Od:=aT (Ni.grown hgrow Ni.size (λk e=>(BB.lt k e).1));go_wp2_with fail;go_roundg (L-i);case measure=>omega
    case rel=>exact⟨i+1,.slice cI (ls.length+1) vc',ls++[⟨xa,xo,xm,xv⟩],jO,jO,by go_num,by rw[ay];simp;omega,HR7.other jO 3 _,Lz.set 3 _,(by rw[ay,Iq];exact ZV gK Lz jD 3 _),HAS,Od.setCell (p:=⟨O,3,none⟩) (show w.heap.size<=O from jO) _⟩
  ·obtain rfl:i=L:=by omega
   have Zd:¬(i:Int)<(i:Int):=jO;have HN:Hid (ZO Xj cs=some ls):=by have h:=HA.out;rwa [abe (by rw[HL.out];exact aR _)] at h
   have HLN:Hid (ls.length<=cs.length):=by show ls.length<=cs.length;rw[HL.out];exact hlen
   have HS:=aT (wM wr rfl (show ls.length<=1000000 from jO) HW);obtain⟨⟨_,_,_,o3⟩,_⟩:=Z8 HO;go_wp2_with fail;refine HS.mono ?_;rintro e w2 ⟨rfl,d,hp,hw2,hb2,hs2,hk2⟩;have Z:=aT (hk2 O _ HO (YV HW HO jD));have D:=aT (hk2 R _ HR (YV HW HR jD));have C:=aT (HB.trans hb2);have cH:=aT hp;have T:=aT hw2;have cG:=aT (wN (l:=d) w2 hp.length_eq (show ls.length<=1000000 from jO) hw2);clear hp hw2 hb2 hs2 hk2 HS o3;obtain⟨⟨_,_,_,o3⟩,_⟩:=Z8 (show Z7 w2 O TR #[.string nm,.int .i64 k,.int .i64 n,v] from Z);go_wp2_with fail;refine cG.mono ?_;rintro e w3 ⟨v',ns,rfl,hw3,lu,hl3,hg3⟩;obtain⟨U,J,rfl⟩:=Z0 hw3;have Y:=aT (Z7.kept (show Z7 w2 O TR #[.string nm,.int .i64 k,.int .i64 n,v] from Z) hg3 (λe=>YV T Z jD e.symm));have Jm:=aT (Z7.kept (show Z7 w2 R TR #[.string ⟨#[]⟩,.int .i64 0,.int .i64 0,.slice none 0 0] from D) hg3 (λe=>YV T D jD e.symm));have Uy:=aT (C.grown hg3 C.size (λk e=>(T.lt k e).1));have cK:=aT hw3;have HNS:Hid (TV cs (some ns)):=⟨ls,HN,λc=>(lu c).trans cH.mem_iff⟩;have HLS:Hid (ns.length<=cs.length):=aO hl3 HLN;clear hw3 lu hg3 hl3 cG o3;obtain⟨⟨_,_,_,o3⟩,_,_,_,f3⟩:=Z8 Y;have yU:=aT (Y.set 3 (.slice U ns.length J));have I:=aT (Jm.other (show R≠O from jO) 3 (.slice U ns.length J));have BB:=aT (ZV cK Y jD 3 (.slice U ns.length J));have Ni:=aT (Uy.setCell (p:=⟨O,3,none⟩) (show w.heap.size<=O from jO) (.slice U ns.length J));go_upto_region 14 with fail;clear o3 f3;generalize w3.setCell ⟨O,3,none⟩ (.slice U ns.length J)=w4 at*;obtain⟨⟨o0,o1,o2,o3⟩,_⟩:=Z8 (show Z7 w4 O TR #[.string nm,.int .i64 k,.int .i64 n,(.slice U ns.length J)] from yU);obtain⟨⟨r0,r1,r2,r3⟩,f0,f1,f2,f3⟩:=Z8 I;go_wp2_with fail;have h1:=ZV BB I jD 0 (.string nm);have h2:=ZV h1 (I.set 0 _) jD 1 (.int .i64 k);have h3:=ZV h2 ((I.set 0 _).set 1 _) jD 2 (.int .i64 n);have h4:=ZV h3 (((I.set 0 _).set 1 _).set 2 _) jD 3 (.slice U ns.length J);refine aaf (DY rfl (ZF I _ _ _ _) rfl) rfl ?_;exact⟨.inr ⟨(.slice U ns.length J),ns,HNS,HLS,rfl,h4⟩,ZE Ni (acf tN) _ _ _ _⟩
abbrev TQ:Nat:=121
theorem XG {t:Nat}{c0 c1:Value}(hb:Z7 W R t #[c0,c1]):(W.cell? ⟨R,0,none⟩=some c0/\W.cell? ⟨R,1,none⟩=some c1)/\W.frozen? ⟨R,0,none⟩=false/\W.frozen? ⟨R,1,none⟩=false:=by
 obtain⟨e0,e1⟩:=hb.q2;exact⟨⟨e0,e1⟩,hb.frozen 0,hb.frozen 1⟩
theorem Kw {t:Nat}{c0 c1:Value}(hb:Z7 W R t #[c0,c1])(C D:Value):Z7 ((W.setCell ⟨R,0,none⟩ C).setCell ⟨R,1,none⟩ D) R t #[C,D]:=(hb.set 0 C).set 1 D
theorem Rn {n:Nat}(hb:Below n w W)(h:n<=R)(C D:Value):Below n w ((W.setCell ⟨R,0,none⟩ C).setCell ⟨R,1,none⟩ D):=(hb.setCell (p:=⟨R,0,none⟩) h C).setCell (p:=⟨R,1,none⟩) h D
theorem yT{fn:Func}{t u:Tmp}(h:fn.results=#[.cell t TQ,.tmp u]) {c0 c1:Value}(hb:Z7 W R TQ #[c0,c1])(ht:tmps.getD t undef=.pointer (some ⟨R,0,none⟩)):(results fn tmps).run prog W=.ok (.tuple #[.agg #[c0,c1],tmps.getD u undef]) W:=by
 obtain⟨⟨e0,e1⟩,_⟩:=XG hb;rw[ajb] at ht;simp[results,h,go_sem,ht,e0,e1]
def BA(cs:List Z5)(cd:Nat)(w:World)(e:Ending)(w':World):Prop:=
 ((ZO Zi cs=none/\e=.returned (.tuple #[.agg #[.slice none 0 0,.int .u32 0],.bool false]))\/
  (∃(v:Value) (ns:List Z5),ZO Zi cs=some ns/\e=.returned (.tuple #[.agg #[v,.int .u32 cd],.bool true])/\w'.ownsRow w.heap.size TC 4 v ns.length (ns.flatMap cL)))/\Below w.heap.size w w'
theorem DW {ua:Option Addr}{uc:Nat}{cs:List Z5}{cd:Nat}(hL:cs.length=L)(Xo:L<=1000)(hr:∀c∈cs,c.m<YN/\c.v<YN)(w:World)(h:YT N w (.slice ua L uc) cs)(hN:N<=w.heap.size):
 Calls prog 91 #[.agg #[.slice ua L uc,.int .u32 cd]] w (BA cs cd w):=by
 have HL:=aT hL;have yV:=aT hr;have HM:=aT h;have HP:Hid (Z7 (((w.alloc (.cells #[.slice ua L uc,.int .u32 cd] TQ)).alloc (.cells #[.slice none 0 0,.int .u32 0] TQ)).alloc (.cells #[.slice none 0 0,.int .u32 cd] TQ)) w.heap.size TQ #[.slice ua L uc,.int .u32 cd]):=((Z7.new w _ _).alloc _).alloc _;have HR:Hid (Z7 (((w.alloc (.cells #[.slice ua L uc,.int .u32 cd] TQ)).alloc (.cells #[.slice none 0 0,.int .u32 0] TQ)).alloc (.cells #[.slice none 0 0,.int .u32 cd] TQ)) (w.heap.size+1) TQ #[.slice none 0 0,.int .u32 0]):=(Z7.OY _ _ _ _).alloc _;have HO:Hid (Z7 (((w.alloc (.cells #[.slice ua L uc,.int .u32 cd] TQ)).alloc (.cells #[.slice none 0 0,.int .u32 0] TQ)).alloc (.cells #[.slice none 0 0,.int .u32 cd] TQ)) (w.heap.size+1+1) TQ #[.slice none 0 0,.int .u32 cd]):=Z7.ah1 _ _ _ _ _;have HB:=aT (ah2 w (.cells #[.slice ua L uc,.int .u32 cd] TQ) (.cells #[.slice none 0 0,.int .u32 0] TQ) (.cells #[.slice none 0 0,.int .u32 cd] TQ));clear hL hr h;obtain⟨i0,XS,RH,Vb,Tl⟩:=Pq Gf;go_enter func91,ntmps91;go_upto_region 2 with fail;generalize ((w.alloc (.cells #[.slice ua L uc,.int .u32 cd] TQ)).alloc (.cells #[.slice none 0 0,.int .u32 0] TQ)).alloc (.cells #[.slice none 0 0,.int .u32 cd] TQ)=w3 at*;obtain⟨⟨p0,p1⟩,_⟩:=XG HP;obtain⟨R,hR⟩:=jX (w.heap.size+1);obtain⟨O,hO⟩:=jX (w.heap.size+1+1);rw[hO] at HO ⊢;rw[hR] at HR ⊢;have tN:w.heap.size<R:=jO;have hRO:R<O:=jO;clear hR hO;go_upto_region 3 with fail;go_loopg [15] (L+1) (λgg iv wr=>∃(i:Nat) (v:Value) (ls:List Z5),i<=L/\L-i<gg/\iv=.int .i64 (i:Int)/\ls.length<=i/\Hid (Z7 wr R TQ #[.slice none 0 0,.int .u32 0])/\Hid (Z7 wr O TQ #[v,.int .u32 cd])/\Hid (wr.ownsRow w.heap.size TC 4 v ls.length (ls.flatMap cL))/\Hid (ZO Zi (cs.take i)=some ls)/\Hid (Below w.heap.size w wr));case atStart=>exact⟨0,.slice none 0 0,[],abd _,jO,rfl,aR _,HR,HO,anb _ _ _ _,(by show _=_;rfl),HB⟩
 case round=>
  obtain⟨i,v,ls,sR,Vs,rfl,hlen,HR,HO,HW,HA,HB⟩:=hrel;have wC:=jZ i;have Jc:=jW i;by_cases hlt:i<L
  ·have Zd:(i:Int)<(L:Int):=by omega
   obtain⟨c,hc⟩:∃c,cs[i]? =some c:=⟨_,aL (by rw[HL.out];exact hlt)⟩;obtain⟨ua2,uc2,e,hrow⟩:=HM.out;injection e with e1 e3 e2;subst e1 e2;clear e3;obtain⟨gu,off,rfl,DX,y0,y1,y2,y3⟩:=hrow i c hc;have y0:=ZY HB hN DX y0;have y1:=ZY HB hN DX y1;have y2:=ZY HB hN DX y2;have y3:=ZY HB hN DX y3;have HT:=aT (VJ hc);have Cj:=aT (ag hc);have HC:=aT (λW=>D5 c (yV c Cj).1 (yV c Cj).2 W);have Uj:Hid (∀m,Zi c=.asks m->ZO Zi (cs.take (i+1))=some (ls++[m])):=λm hm=>by rw[HT.out];exact Ux HA m hm
   have Oi:Hid (Zi c=.always->ZO Zi (cs.take (i+1))=some ls):=λhm=>by rw[HT.out];exact Uw HA hm
   have Ge:Hid (Zi c=.never->ZO Zi cs=none):=λhm=>Tk Cj hm
   clear hrow hc HT Cj HA;generalize Zi c=S at*;obtain⟨a,o,m,vv⟩:=c;unfold cC at HC;dsimp only at*;have HK:=aT (Z7.new wr TC #[.int .i64 a,.int .i64 o,.int .u64 m,.int .u64 vv]);have BC:=aT (HR.alloc (.cells #[.int .i64 a,.int .i64 o,.int .u64 m,.int .u64 vv] TC));have xu:=aT (HO.alloc (.cells #[.int .i64 a,.int .i64 o,.int .u64 m,.int .u64 vv] TC));have cM:=aT (HW.alloc (.cells #[.int .i64 a,.int .i64 o,.int .u64 m,.int .u64 vv] TC));have VE:=aT (HB.alloc HB.size (.cells #[.int .i64 a,.int .i64 o,.int .u64 m,.int .u64 vv] TC));go_upto_region 5 with fail;clear HR HO HW HB y0 y1 y2 y3;generalize wr.alloc (.cells #[.int .i64 a,.int .i64 o,.int .u64 m,.int .u64 vv] TC)=w1 at*;obtain⟨⟨q0,q1,q2,q3⟩,_⟩:=Z8 HK;go_wp2_with fail;refine(HC w1).mono ?_;rintro e w2 ⟨rfl,hb⟩;have J:=aT (BC.below hb BC.lt);have wu:=aT (xu.below hb xu.lt);have gJ:Hid (w2.ownsRow w.heap.size TC 4 v ls.length (ls.flatMap cL)):=ZC cM hb;have D:=aT (VE.trans (hb.mono VE.size));clear hb BC xu cM VE HK HC q0 q1 q2 q3;cases S with
   |never=>
    have nk:=aT (Ge rfl);obtain⟨_,f0,f1⟩:=XG (J.alloc (.cells #[.int .i64 0,.int .i64 0,.int .u64 0,.int .u64 0] TC));obtain⟨⟨r0,r1⟩,_⟩:=XG (J.alloc (.cells #[.int .i64 0,.int .i64 0,.int .u64 0,.int .u64 0] TC));simp only[np,cT,Int.natCast_zero] at*;go_wp2_with fail;refine aaf (yT rfl (Kw (J.alloc _) _ _) rfl) rfl ?_;exact⟨.inl ⟨nk,rfl⟩,Rn (D.alloc D.size _) (acf tN) _ _⟩
   |always=>
    have HAL:=aT (Oi rfl);simp only[np,cT,Int.natCast_zero] at*;go_wp2_with fail;go_roundg (L-i);case measure=>omega
    case rel=>exact⟨i+1,v,ls,jO,jO,by go_num,jO,J.alloc _,wu.alloc _,gJ.alloc _,HAL,D.alloc D.size _⟩
   |asks x=>
    have HAS:=aT (Uj x rfl);simp only[np,cT] at*;obtain⟨va,vc,rfl⟩:=Z0 gJ;obtain⟨Y,T,I,U⟩:=x;dsimp only at*;have HX:=aT (Z7.new w2 TC #[.int .i64 Y,.int .i64 T,.int .u64 I,.int .u64 U]);have Jm:=aT (J.alloc (.cells #[.int .i64 Y,.int .i64 T,.int .u64 I,.int .u64 U] TC));have tM:=aT (wu.alloc (.cells #[.int .i64 Y,.int .i64 T,.int .u64 I,.int .u64 U] TC));have cK:=aT (gJ.alloc (.cells #[.int .i64 Y,.int .i64 T,.int .u64 I,.int .u64 U] TC));have Uy:=aT (D.alloc D.size (.cells #[.int .i64 Y,.int .i64 T,.int .u64 I,.int .u64 U] TC));go_upto_region 10 with fail;clear J wu gJ D;generalize w2.alloc (.cells #[.int .i64 Y,.int .i64 T,.int .u64 I,.int .u64 U] TC)=w4 at*;generalize w2.heap.size=XB at*;obtain⟨⟨x0,x1,x2,x3⟩,_⟩:=Z8 HX;obtain⟨⟨o3,_⟩,_⟩:=XG tM;obtain⟨⟨o4,_⟩,f4,_⟩:=XG (tM.alloc (.cells #[.int .i64 Y,.int .i64 T,.int .u64 I,.int .u64 U] TC));have yU:=aT (tM.alloc (.cells #[.int .i64 Y,.int .i64 T,.int .u64 I,.int .u64 U] TC));have gQ:=aT (Jm.alloc (.cells #[.int .i64 Y,.int .i64 T,.int .u64 I,.int .u64 U] TC));have BB:=aT (cK.alloc (.cells #[.int .i64 Y,.int .i64 T,.int .u64 I,.int .u64 U] TC));have Ni:=aT (Uy.alloc Uy.size (.cells #[.int .i64 Y,.int .i64 T,.int .u64 I,.int .u64 U] TC))
    go_wp2_with (at_builtin;(refine aea _ rfl _ _ 89 rfl w.heap.size TC i0 (.agg #[.int .i64 0,.int .i64 0,.int .u64 0,.int .u64 0]) 4 32 underlying89 XS RH Vb Tl rfl jD _ ls.length _ rfl BB ⟨w4.heap.size,0,none⟩ 1 1 [.int .i64 Y,.int .i64 T,.int .u64 I,.int .u64 U] rfl rfl (World.news_of_block (Z7.new w4 _ _)) (by simp[Value.oneCell']) (by unfold maxLen;omega) jO Ni.size ?_;intro v' w7 Z C _;obtain⟨cI,vc',rfl⟩:=Z0 Z;have Lz:=aT (yU.kept C (λe=>YV BB yU jD e.symm));obtain⟨⟨o7,_⟩,f7,_⟩:=XG Lz))
    have HR7:=aT (gQ.kept C (λe=>YV BB gQ jD e.symm));have gK:=aT Z;have Od:=aT (Ni.grown C Ni.size (λk e=>(BB.lt k e).1));go_wp2_with fail;go_roundg (L-i);case measure=>omega
    case rel=>exact⟨i+1,.slice cI (ls.length+1) vc',ls++[⟨Y,T,I,U⟩],jO,jO,by go_num,by rw[ay];simp;omega,HR7.other jO 0 _,Lz.set 0 _,(by rw[ay,Iq];exact ZV gK Lz jD 0 _),HAS,Od.setCell (p:=⟨O,0,none⟩) (show w.heap.size<=O from jO) _⟩
  ·obtain rfl:i=L:=by omega
   have Zd:¬(i:Int)<(i:Int):=jO;have HN:Hid (ZO Zi cs=some ls):=by have h:=HA.out;rwa [abe (by rw[HL.out];exact aR _)] at h
   obtain⟨va,vc,rfl⟩:=Z0 HW;obtain⟨⟨o0,o1⟩,_⟩:=XG HO;obtain⟨⟨r0,r1⟩,f0,f1⟩:=XG HR;have h1:=aT (ZV HW HR jD 0 (.slice va ls.length vc));have h2:=aT (ZV h1 (HR.set 0 _) jD 1 (.int .u32 cd));go_wp2_with fail;refine aaf (yT rfl (Kw HR _ _) rfl) rfl ?_;exact⟨.inr ⟨(.slice va ls.length vc),ls,HN,rfl,h2⟩,Rn HB (acf tN) _ _⟩
theorem Kv{n:Nat}{wr:World}(h:Below n w wr)(q:Nat):Below n w (wr.drewN q):=⟨h.os,h.tape,h.output,h.size,h.block⟩
def rS(P:Prop)(w:World)(e:Ending)(w':World):Prop:=∃b:Bool,e=.returned (.bool b)/\(b=true↔P)/\Below w.heap.size w w'
theorem rR(h:P)(hb:Below w.heap.size w w'):rS P w (.returned (.bool true)) w':=⟨true,rfl,⟨λ_=>h,λ_=>rfl⟩,hb⟩
theorem yR(h:¬P)(hb:Below w.heap.size w w'):rS P w (.returned (.bool false)) w':=⟨false,rfl,⟨λe=>(Bool.false_ne_true e).elim,λe=>(h e).elim⟩,hb⟩
theorem YT.at {n c:Nat}{cs:List Z5}(h:YT N W (.slice a n c) cs){k:Nat}{x:Z5}(hk:cs[k]? =some x):∃C off,a=some ⟨C,off,none⟩/\C<N/\W.cell? ⟨C,off+k*4,none⟩=some (.int .i64 x.a)/\W.cell? ⟨C,off+k*4+1,none⟩=some (.int .i64 x.o)/\W.cell? ⟨C,off+k*4+2,none⟩=some (.int .u64 x.m)/\W.cell? ⟨C,off+k*4+3,none⟩=some (.int .u64 x.v):=by
 obtain⟨ua,uc,e,hr⟩:=h;injection e with e1 _ e2;subst e1;exact hr k x hk
theorem YT.form{v:Value}{cs:List Z5}(h:YT N W v cs):∃a c,v=.slice a cs.length c:=by
 obtain⟨ua,uc,e,_⟩:=h;exact⟨ua,uc,e⟩
theorem Bz {v1 v2:Value}{cs ds:List Z5}(hl:cs.length<=1000000)(w:World)(h1:YT N w v1 cs)(U:YT N w v2 ds)(hN:N<=w.heap.size):
 Calls prog 140 #[v1,v2] w (rS (cs=ds) w):=by
 obtain⟨a1,c1,rfl⟩:=h1.form;obtain⟨a2,c2,rfl⟩:=U.form;by_cases hlen:cs.length=ds.length
 ·generalize hL:cs.length=L at*;rw[<-hlen] at U ⊢;have HL:=aT hL;have HD:=aT hlen;have zm:=aT h1;have ny:=aT U;clear hL hlen h1 U;go_enter func140,ntmps140;go_upto_region 4 with fail;go_loopg [13] (L+1) (λgg iv wr=>∃q:Nat,q<=L/\L-q<gg/\iv=.int .i64 (q:Int)/\Hid (cs.take q=ds.take q)/\Hid (Below w.heap.size w wr));case atStart=>exact⟨0,abd _,jO,rfl,(by show _=_;rfl),aG _ _⟩
  case round=>
   obtain⟨q,hqL,Vs,rfl,HT,C⟩:=hrel;have q0:=jZ q;have iw:=jW q;by_cases hq:q<L
   ·have lq:(q:Int)<(L:Int):=by omega
    obtain⟨c,hc⟩:∃c,cs[q]? =some c:=⟨_,aL (by rw[HL.out];exact hq)⟩;obtain⟨d,hd⟩:∃d,ds[q]? =some d:=⟨_,aL (by rw[<-HD.out];exact hq)⟩;obtain⟨g1,o1,rfl,D,y0,y1,y2,Y⟩:=zm.at hc;obtain⟨g2,o2,rfl,I,z0,z1,Z,z3⟩:=ny.at hd;have y0:=ZY C hN D y0;have y1:=ZY C hN D y1;have y2:=ZY C hN D y2;have Y:=ZY C hN D Y;have z0:=ZY C hN I z0;have z1:=ZY C hN I z1;have Z:=ZY C hN I Z;have z3:=ZY C hN I z3;by_cases he:c=d
    ·subst he;have Tp:Hid (cs.take (q+1)=ds.take (q+1)):=by show _=_;rw[VJ hc,VJ hd,HT.out]
     clear hc hd;go_wp2;go_quiet (fail);have T:=aT (Kv C nq);clear y0 y1 y2 Y z0 z1 Z z3;go_wp2;go_roundg (L-q);case measure=>omega
     case rel=>exact⟨q+1,jO,jO,by go_num,Tp,T⟩
    ·have hne:=ah4 he;have J:Hid (cs≠ds):=λe=>by rw[e,hd] at hc;exact he (aq hc).symm
     clear hc hd he;go_wp2;go_quiet (fail);have T:=aT (Kv C nq);clear y0 y1 y2 Y z0 z1 Z z3;go_wp2;go_ret;exact yR J T
   ·obtain rfl:L=q:=by omega
    have lq:¬(L:Int)<(L:Int):=jO;have HEQ:Hid (cs=ds):=by have h:=HT.out;rwa [abe (by rw[HL.out];exact aR _),abe (by rw[<-HD.out];exact aR _)] at h
    go_wp2;go_ret;exact rR HEQ C
 ·have hb:((cs.length:Int) != (ds.length:Int))=true:=by simp;omega
  have J:Hid (cs≠ds):=λe=>hlen (by rw[e])
  clear h1 U;generalize cs.length=L1 at*;generalize ds.length=L2 at*;have hz:¬(L1:Int)=(L2:Int):=jO;go_enter func140,ntmps140;go_wp2;go_ret;exact yR J (aG _ _)
structure Nf where
 nm:ByteArray
 (k n:Int)
 u:Value
def rQ(N:Nat)(W:World)(a:Option Addr)(qs:List Nf):Prop:=∀(i:Nat) (q:Nf),qs[i]? =some q->∃g off,a=some ⟨g,off,none⟩/\g<N/\W.cell? ⟨g,off+i*4,none⟩=some (.string q.nm)/\W.cell? ⟨g,off+i*4+1,none⟩=some (.int .i64 q.k)/\W.cell? ⟨g,off+i*4+2,none⟩=some (.int .i64 q.n)/\W.cell? ⟨g,off+i*4+3,none⟩=some q.u
def au0(b:Bool)(w:World)(e:Ending)(w':World):Prop:=∃z:Int,e=.returned (.int .i64 z)/\(decide (0<=z)=b)/\-1<=z/\Below w.heap.size w w'
theorem lp{p:Nat->Bool}{i:Nat}(hi:i<L)(h:p i=true):(List.range L).any p=true:=aka.2 ⟨i,aib.2 hi,h⟩
theorem rP{p:Nat->Bool} (h:∀i,i<L->p i=false):(List.range L).any p=false:=by
 rw[List.any_eq_false];intro i hi;rw[h i (aib.1 hi)]
 decide
theorem DV(p:Nat->Bool)(g:Nat)(lb:Array Value)(eg:∀args w,(callFunc g args).run prog w=.ok (.enter g args) w){c:Nat} {qs:List Nf}(hL:qs.length=L)(Xo:L<=1000000)(w:World)(hQ:rQ N w a qs)(hN:N<=w.heap.size)
 (hp:∀(W:World) (i:Nat) (q:Nf),Below w.heap.size w W->qs[i]? =some q->Calls prog g (#[.agg #[.string q.nm,.int .i64 q.k,.int .i64 q.n,q.u]]++lb) W λe w'=>e=.returned (.bool (p i))/\Below W.heap.size W w'):
 Calls prog 83 #[.slice a L c,.func (.func g) #[] lb] w (au0 ((List.range L).any p) w):=by
 have HQ:=aT hQ;have HL:=aT hL;have Hp:=aT hp;clear hQ hL hp;go_enter func83,ntmps83;go_upto_region 2 with fail;go_loopg [5,8] (L+1) (λgg _ iv wr=>∃i:Nat,i<=L/\L-i<gg/\iv=.int .i64 (i:Int)/\Hid (∀j,j<i->p j=false)/\Hid (Below w.heap.size w wr));case atStart=>exact⟨0,abd _,jO,rfl,(show Hid _ from λj hj=>absurd hj (akf _)),aG _ _⟩
 case round=>
  obtain⟨i,sR,Vs,rfl,HT,I⟩:=hrel;have i0:=jZ i;have iw:=jW i;by_cases U:i<L
  ·have T:(i:Int)<(L:Int):=by omega
   obtain⟨q,hq⟩:∃q,qs[i]? =some q:=⟨_,aL (by rw[HL.out];exact U)⟩;obtain⟨b,off,rfl,hb,y0,y1,y2,Y⟩:=HQ i q hq;have y0:=ZY I hN hb y0;have y1:=ZY I hN hb y1;have y2:=ZY I hN hb y2;have Y:=ZY I hN hb Y;have Z:=aT (Hp wr i q I hq);clear hq;obtain⟨nm,k,n,u⟩:=q;dsimp only at*;cases C:p i with
   |true=>
    rw[C] at Z;have HA:=aT (lp U C);clear C;go_wp2_with fail;refine Z.mono ?_;rintro e w1 ⟨rfl,D⟩;have J:=aT (I.trans (D.mono I.size));clear D y0 y1 y2 Y;go_wp2;go_ret;exact⟨_,rfl,by rw[HA.out];exact acb i0,jO,J⟩
   |false=>
    rw[C] at Z;have Tp:Hid (∀j,j<i+1->p j=false):=λj hj=>by
     by_cases e:j=i;·subst e;exact C
     ·exact HT j jO
    clear C;go_wp2_with fail;refine Z.mono ?_;rintro e w1 ⟨rfl,D⟩;have J:=aT (I.trans (D.mono I.size));clear D y0 y1 y2 Y;go_wp2;go_roundg (L-i);case measure=>omega
    case rel=>exact⟨i+1,jO,jO,by go_num,Tp,J⟩
  ·obtain rfl:L=i:=by omega
   have T:¬(L:Int)<(L:Int):=jO;have HA:=aT (rP HT);go_wp2;go_ret;exact⟨_,rfl,by rw[HA.out];decide,jD,I⟩
theorem rO(p:Nat->Bool)(g:Nat)(lb:Array Value)(Z:∀args w,(callFunc g args).run prog w=.ok (.enter g args) w){c:Nat} {qs:List Nf}(J:qs.length=L)(D:L<=1000000)(w:World)(T:rQ N w a qs)(hN:N<=w.heap.size)
 (hp:∀(W:World) (i:Nat) (q:Nf),Below w.heap.size w W->qs[i]? =some q->Calls prog g (#[.agg #[.string q.nm,.int .i64 q.k,.int .i64 q.n,q.u]]++lb) W λe w'=>e=.returned (.bool (p i))/\Below W.heap.size W w'):
 Calls prog 124 #[.slice a L c,.func (.func g) #[] lb] w λe w'=>e=.returned (.bool ((List.range L).any p))/\Below w.heap.size w w':=by
 have U:=aT (DV p g lb Z (c:=c) J D w T hN hp);generalize (List.range L).any p=b at*;clear T hp J;go_enter func124,ntmps124;go_wp2_with fail;refine U.mono ?_;rintro e w1 ⟨z,rfl,hz,_,C⟩;have I:=aT C;have Y:Hid (decide ((0:Int)<=z)=b):=hz;clear C U hz;go_wp2;go_ret;exact⟨Gz Y,I⟩
instance:DecidableEq Z5:=λa b=>decidable_of_iff (a.a=b.a/\a.o=b.o/\a.m=b.m/\a.v=b.v) (by
 cases a;cases b;simp)
structure NR where
 nm:ByteArray
 (k n:Int)
 cs:List Z5
def Uv(N:Nat)(W:World)(a:Option Addr)(rs:List NR):Prop:=∀(i:Nat) (r:NR),rs[i]? =some r->∃g off u,a=some ⟨g,off,none⟩/\g<N/\W.cell? ⟨g,off+i*4,none⟩=some (.string r.nm)/\W.cell? ⟨g,off+i*4+1,none⟩=some (.int .i64 r.k)/\W.cell? ⟨g,off+i*4+2,none⟩=some (.int .i64 r.n)/\W.cell? ⟨g,off+i*4+3,none⟩=some u/\YT N W u r.cs
theorem Uv.rows {rs:List NR}(h:Uv N W a rs):∃T:List Nf,T.length=rs.length/\rQ N W a T/\∀(i:Nat) (q:Nf) (r:NR),T[i]? =some q->rs[i]? =some r->q.nm=r.nm/\q.k=r.k/\q.n=r.n/\YT N W q.u r.cs:=by
 obtain⟨U,Y⟩:∃U:Nat->NR->Value,∀i r,rs[i]? =some r->∃g off,a=some ⟨g,off,none⟩/\g<N/\W.cell? ⟨g,off+i*4,none⟩=some (.string r.nm)/\W.cell? ⟨g,off+i*4+1,none⟩=some (.int .i64 r.k)/\W.cell? ⟨g,off+i*4+2,none⟩=some (.int .i64 r.n)/\W.cell? ⟨g,off+i*4+3,none⟩=some (U i r)/\YT N W (U i r) r.cs:=by
  have hv:∀(i:Nat) (r:NR),∃u:Value,rs[i]? =some r->∃g off,a=some ⟨g,off,none⟩/\g<N/\W.cell? ⟨g,off+i*4,none⟩=some (.string r.nm)/\W.cell? ⟨g,off+i*4+1,none⟩=some (.int .i64 r.k)/\W.cell? ⟨g,off+i*4+2,none⟩=some (.int .i64 r.n)/\W.cell? ⟨g,off+i*4+3,none⟩=some u/\YT N W u r.cs:=λi r=>by
   by_cases hr:rs[i]? =some r;·obtain⟨g,off,u,J⟩:=h i r hr;exact⟨u,λ_=>⟨g,off,J⟩⟩
   ·exact⟨.nilFunc,λe=>absurd e hr⟩
  refine⟨λi r=>(hv i r).choose,λi r hr=> ?_⟩;exact(hv i r).choose_spec hr
 have C:∀(i:Nat) (q:Nf),((List.range rs.length).map λi=>match rs[i]? with|some r=>Nf.mk r.nm r.k r.n (U i r)|none=>Nf.mk ⟨#[]⟩ 0 0 Value.nilFunc)[i]? =some q->∃r,rs[i]? =some r/\q=⟨r.nm,r.k,r.n,U i r⟩:=λi q D=>by
  have hi:i<rs.length:=by have:=(ak.1 D).1;simpa using this
  rw[acd,anf hi,avd] at D;obtain⟨r,hr⟩:∃r,rs[i]? =some r:=⟨_,aL hi⟩;rw[hr] at D;exact⟨r,hr,(aq D).symm⟩
 refine⟨(List.range rs.length).map (λi=>match rs[i]? with|some r=>Nf.mk r.nm r.k r.n (U i r)|none=>Nf.mk ⟨#[]⟩ 0 0 Value.nilFunc),jS,λi q D=> ?_,λi q r D hr=> ?_⟩;·obtain⟨r,hr,rfl⟩:=C i q D;obtain⟨g,off,J,Z,h3,h4,h5,h6,_⟩:=Y i r hr;exact⟨g,off,J,Z,h3,h4,h5,h6⟩
 ·obtain⟨r',I,rfl⟩:=C i q D;rw[hr] at I;obtain rfl:=aq I;obtain⟨g,off,_,_,_,_,_,_,h7⟩:=Y i r hr;exact⟨rfl,rfl,rfl,h7⟩
theorem Uv.below{K:Nat}{W':World} {rs:List NR}(h:Uv N W a rs)(hb:Below K W W')(hN:N<=K):Uv N W' a rs:=by
 intro i r hr;obtain⟨g,off,u,Y,C,D,U,T,I,J⟩:=h i r hr;exact⟨g,off,u,Y,C,ZY hb hN C D,ZY hb hN C U,ZY hb hN C T,ZY hb hN C I,J.below hb hN⟩
def Wv(ns:List Z5)(r:NR):Bool:=decide (r.cs=[]) || decide (r.cs=ns)
theorem rN{B:Nat}{nm nm2:ByteArray}{k n k2 n2:Int}{u v:Value}{cs ns:List Z5}(hl:cs.length<=1000)(w:World)(h:YT N w u cs)(hv:YT N w v ns)(hN:N<=w.heap.size)(U:Z7 w B TR #[.string nm2,.int .i64 k2,.int .i64 n2,v]):
 Calls prog 139 #[.agg #[.string nm,.int .i64 k,.int .i64 n,u],.pointer (some ⟨B,0,none⟩)] w λe w'=>e=.returned (.bool (decide (cs=[]) || decide (cs=ns)))/\Below w.heap.size w w':=by
 obtain⟨ua,uc,rfl⟩:=h.form;obtain⟨va,vc,rfl⟩:=hv.form;have HA:=aT (Z7.new w TR #[.string nm,.int .i64 k,.int .i64 n,.slice ua cs.length uc]);have HB:=aT (U.alloc (.cells #[.string nm,.int .i64 k,.int .i64 n,.slice ua cs.length uc] TR));have C:=aT (Yx w (.cells #[.string nm,.int .i64 k,.int .i64 n,.slice ua cs.length uc] TR));have HQ:=aT (Bz jO _ (h.below C hN) (hv.below C hN) (aO hN C.size));by_cases T:cs=[];·subst T;have I:(([]:List Z5).length:Int)=0:=rfl;clear h hv U HQ;simp only[acg] at*;go_enter func139,ntmps139;go_upto_region 1 with fail;generalize w.alloc (.cells #[.string nm,.int .i64 k,.int .i64 n,.slice ua 0 uc] TR)=w1 at*;obtain⟨⟨_,_,_,a3⟩,_⟩:=Z8 HA;obtain⟨⟨_,_,_,b3⟩,_⟩:=Z8 HB;go_wp2_with fail;go_ret;exact⟨jS,C⟩
 ·have I:¬((cs.length:Int)=0):=by
   intro e;exact T (alb.1 jO)
  have hl0':((cs.length:Int) == 0)=false:=by rw[af];exact I
  have H0:Hid (decide (cs=[])=false):=aeg T;obtain⟨b,hb⟩:∃b,b=decide (cs=ns):=⟨_,rfl⟩;rw[<-hb];have Y:=aT hb;clear h hv U hb T;generalize hc:decide (cs=[])=c0 at*;generalize cs.length=L at*;generalize ns.length=L2 at*;go_enter func139,ntmps139;go_upto_region 1 with fail;generalize w.alloc (.cells #[.string nm,.int .i64 k,.int .i64 n,.slice ua L uc] TR)=w1 at*;obtain⟨⟨_,_,_,a3⟩,_⟩:=Z8 HA;obtain⟨⟨_,_,_,b3⟩,_⟩:=Z8 HB;go_wp2_with fail;refine HQ.mono ?_;rintro e w2 ⟨b2,rfl,J,D⟩;have Z:=aT (C.trans (D.mono C.size));have HX:Hid (b2=b):=by show b2=b;rw[Y.out,ajd,adf];exact J
  clear J D;go_wp2;go_ret;exact⟨by rw[H0.out,HX.out];simp,Z⟩
theorem Ku{c:Nat} {rs:List NR}{nm:ByteArray}{k n:Int}{v:Value}{ns:List Z5}(hL:rs.length=L)(T:L<=1000000)(hcs:∀r∈rs,r.cs.length<=1000)(w:World)(h:Uv N w a rs)(hv:YT N w v ns)(hN:N<=w.heap.size):
 Calls prog 87 #[.slice a L c,.agg #[.string nm,.int .i64 k,.int .i64 n,v]] w λe w'=>e=.returned (.bool (rs.any (Wv ns)))/\Below w.heap.size w w':=by
 obtain⟨va,vc,rfl⟩:=hv.form;obtain⟨qs,Z,J,I⟩:=h.rows;have C:=aT (Yx w (.cells #[.string nm,.int .i64 k,.int .i64 n,.slice va ns.length vc] TR));have HB:=aT (Z7.new w TR #[.string nm,.int .i64 k,.int .i64 n,.slice va ns.length vc]);have D:(List.range L).any (λi=>match rs[i]? with|some r=>Wv ns r|none=>false)=rs.any (Wv ns):=by
  rw[ajd,aka,aka];constructor
  ·rintro⟨i,hi,e⟩;cases hr:rs[i]? with
   |none=>rw[hr] at e;cases e
   |some r=>rw[hr] at e;exact⟨r,ag hr,e⟩
  ·rintro⟨r,hr,e⟩;obtain⟨i,hi,rfl⟩:=aid.1 hr;refine⟨i,aib.2 jO,?_⟩;rw[aL hi];exact e
 have U:=C.size;have hc:=rO (c:=c) (λi=>match rs[i]? with|some r=>Wv ns r|none=>false) 139 #[.pointer (some ⟨w.heap.size,0,none⟩)] (enters_of func139 jK rfl) (Z.trans hL) T (w.alloc (.cells #[.string nm,.int .i64 k,.int .i64 n,.slice va ns.length vc] TR)) (λi q hq=>by
  obtain⟨g,off,h1,Y,h3,h4,h5,h6⟩:=J i q hq;exact⟨g,off,h1,Y,ZY C hN Y h3,ZY C hN Y h4,ZY C hN Y h5,ZY C hN Y h6⟩) (aO hN U) (λW i q hb hq=>by
  have hi:i<rs.length:=by have:=(ak.1 hq).1;omega
  obtain⟨r,hr⟩:∃r,rs[i]? =some r:=⟨_,aL hi⟩;obtain⟨_,_,_,h4⟩:=I i q r hq hr;have e:(match rs[i]? with|some r=>Wv ns r|none=>false)=(decide (r.cs=[]) || decide (r.cs=ns)):=by rw[hr];rfl
  rw[e];have hk:Below w.heap.size w W:=C.trans (hb.mono U);exact rN (hcs r (ag hr)) W (h4.below hk hN) (hv.below hk hN) (aO hN hk.size) (HB.below hb HB.lt))
 rw[D] at hc;have HC:=aT hc;clear hc D Z J I h hv HB;generalize rs.any (Wv ns)=b at*;go_enter func87,ntmps87;go_wp2_with fail;refine HC.mono ?_;rintro e w2 ⟨rfl,hb⟩;have XX:=aT (C.trans (hb.mono C.size));clear hb;go_wp2;go_ret;exact⟨rfl,XX⟩
end Go.Proofs.YtclgigmgbebhgaaGreatDoor
namespace Go.Proofs.YtclgigmgbebhgaaGreatDoor
open Tryz
open Go Go.Proofs Go.RowKit Go.Maps Go.WideMaps Go.ChangeMaps
theorem Ti:Keyed prog 9:=string_keyed underlying9
theorem Oc(s:ByteArray)(hs:s.size<=1000000):∃l,keyOf prog 9 (.string s)=some l:=by
 have h:s.size<=maxLen:=by unfold maxLen;omega
 refine⟨.string s.data.toList,?_⟩;unfold keyOf mapKey;simp[underlying9,h]
theorem rM{P:Program}{tm tk tv:TypeId}(hu:P.underlying tm=some (.map tk tv))(K:Keyed P tk){W:World}{B:Nat}{S1 S2:List (Value×Value)}{k v0:Value}(h:Zz W B (S1++(k,v0)::S2))(hS:∀p∈S1++(k,v0)::S2,∃l,keyOf P tk p.1=some l)(hn1:∀p∈S1,p.1≠k)(hn2:∀p∈S2,p.1≠k)(v:Value):
 ∃W',(Instr.mapUpdate tm (.map (some B)) k v).run P W=.ok () W'/\Zz W' B (S1++(k,v)::S2)/\W.grownBy W' (some B):=by
 obtain⟨es,clock,hb,h2,hst⟩:=h;obtain⟨k1,k2⟩:=TY h2;obtain⟨kl,C⟩:=hS (k,v0) jS;rcases K.find W C es.toList (λe he=>hS _ (k1 e he)) with⟨h4,Y⟩|⟨j,e0,h4,Y,h6⟩
 ·obtain⟨e,he,e1,_⟩:=k2 (k,v0) jS;exact absurd e1 (Y e he)
 ·have D:e0.key=k:=by first|exact h6|exact h6.symm
  have T:(S1++(k,v0)::S2)[j]? =some (e0.key,e0.val):=by rw[<-h2,acd,Y];rfl
  have Z:j=S1.length:=by
   rcases Nat.lt_trichotomy j S1.length with hl|hl|hl;·rw[abc hl] at T;exact absurd D (hn1 _ (ag T))
   ·exact hl
   ·rw[aad jO] at T;obtain⟨d,hd⟩:∃d,j-S1.length=d+1:=⟨j-S1.length-1,jO⟩;rw[hd,aH] at T;exact absurd D (hn2 _ (ag T))
  have I:es[j]? =some e0:=by simpa using Y
  have J:=K.stays W C;refine⟨setBlock W B (.map (es.modify j λe=>{e with key:=k,val:=v}) clock),?_,⟨_,_,heap_setBlock_same hb _,?_,?_⟩,⟨rfl,rfl,rfl,by simp[setBlock],λi _ hi=>heap_setBlock_other hb _ (λe=>hi (by rw[e]))⟩⟩;·simp[Instr.mapUpdate,ake hu,aie hb,K.check W false C,h4,awa _ hb,Result.andThen,setBlock,I,D,J]
  ·apply agb;intro i;have sL:(S1++(k,v0)::S2)[i]? =(es[i]?).map (λe=>(e.key,e.val)):=by rw[<-h2,acd,aga]
   rw[acd,aga,ala];by_cases e:j=i;·subst e;rw[aF rfl,I,Z,aad (aR _),alc];rfl
   ·rw[aN e,<-sL];rcases ayg (show i≠S1.length from jO) with hl|hl;·rw[abc hl,abc hl]
    ·rw[aad jO,aad jO];obtain⟨d,hd⟩:∃d,i-S1.length=d+1:=⟨i-S1.length-1,jO⟩;rw[hd,aH,aH]
  ·obtain⟨s1,s2,s3⟩:=hst
   have U:(es.modify j λe=>{e with key:=k,val:=v}).toList.map (·.born)=es.toList.map (·.born):=by
    apply agb;intro i;rw[acd,acd,aga,aga,ala];by_cases e:j=i;·subst e;rw[aF rfl,I];rfl
    ·rw[aN e]
   have hk':(es.modify j λe=>{e with key:=k,val:=v}).toList.map (·.key)=es.toList.map (·.key):=by
    apply agb;intro i;rw[acd,acd,aga,aga,ala];by_cases e:j=i;·subst e;rw[aF rfl,I];show some k=some e0.key;rw[D]
    ·rw[aN e]
   refine⟨λx hx=> ?_,by rw[U];exact s2,by rw[hk'];exact s3⟩;have:x.born∈es.toList.map (·.born):=by rw[<-U];exact ah.2 ⟨x,hx,rfl⟩
   obtain⟨y,hy,e⟩:=ah.1 this;rw[<-e];exact s1 y hy
def rC(r:NR)(u:Value):List Value:=[.string r.nm,.int .i64 r.k,.int .i64 r.n,u]
def YD:List NR->List Value->List Value
 |r::rs,u::us=>rC r u++YD rs us
 |_,_=>[]
theorem Kt(r:NR)(u:Value):∀(rs:List NR) (us:List Value),us.length=rs.length->YD (rs++[r]) (us++[u])=YD rs us++rC r u
 |[],[],_=>by simp[YD]
 |x::rs,y::us,h=>by show rC x y++YD (rs++[r]) (us++[u])=rC x y++YD rs us++rC r u;rw[Kt r u rs us (by simpa using h),aag]
theorem Rm:∀(rs:List NR) (us:List Value) (i:Nat) (r:NR) (u:Value),rs[i]? =some r->us[i]? =some u->∀j,j<4->(YD rs us)[i*4+j]? =(rC r u)[j]?
 |x::rs,y::us,0,r,u,hr,hu,j,hj=>by
  simp at hr hu;subst hr hu;show(rC x y++YD rs us)[0*4+j]? =_;rw[abc (by show _<4;omega)]
  congr 1
  omega
 |x::rs,y::us,i+1,r,u,hr,hu,j,hj=>by have C:=Rm rs us i r u (by simpa using hr) (by simpa using hu) j hj;show(rC x y++YD rs us)[(i+1)*4+j]? =_;rw[aad (by show 4<=_;omega),show(i+1)*4+j-(rC x y).length=i*4+j by show(i+1)*4+j-4=_;omega];exact C
 |[],_,i,r,u,hr,_,_,_=>by simp at hr
 |_::_,[],i,r,u,_,hu,_,_=>by simp at hu
structure TK(lo:Nat)(W:World)(v:Value)(rs:List NR)(us:List Value):Prop where
 len:us.length=rs.length
 row:W.ownsRow lo TR 4 v rs.length (YD rs us)
 cs:∀(j:Nat) (u:Value) (r:NR),us[j]? =some u->rs[j]? =some r->W.ownsRow lo TC 4 u r.cs.length (r.cs.flatMap cL)
theorem Th{W:World}{lo:Nat}{u:Value}{cs:List Z5}(h:W.ownsRow lo TC 4 u cs.length (cs.flatMap cL)):YT W.heap.size W u cs:=by
 obtain⟨a,c,rfl⟩:=Z0 h;refine⟨a,c,rfl,λk x hk=> ?_⟩;have J:=(ak.1 hk).1;rcases h.2 with⟨e,T⟩|⟨g,cap,I,e,_,D,_⟩;·omega
 ·injection e with e1 _ e2;subst e1 e2;have at_:∀j,j<4->W.cell? ⟨g,k*4+j,none⟩=(cL x)[j]? :=λj C=>by rw[h.cellAt (k*4+j) jO,Rp cs k x hk j C]
  refine⟨g,0,rfl,(aac.1 D).1,?_,?_,?_,?_⟩<;>rw[ade]
  ·exact at_ 0 jD
  ·exact at_ 1 jD
  ·exact at_ 2 jD
  ·exact at_ 3 jD
section
variable {lo:Nat} {W W':World} {v:Value} {rs:List NR} {us:List Value}
theorem TK.rows{a:Option Addr}{n c:Nat}(h:TK lo W (.slice a n c) rs us):Uv W.heap.size W a rs:=by
 intro i r hr;have C:=(ak.1 hr).1;obtain⟨u,hu⟩:∃u,us[i]? =some u:=⟨_,aL (by rw[h.len];exact C)⟩;rcases h.row.2 with⟨e,U⟩|⟨g,cap,T,e,_,J,_⟩;·omega
 ·injection e with e1 _ e2;subst e1
  have at_:∀j,j<4->W.cell? ⟨g,i*4+j,none⟩=(rC r u)[j]? :=λj I=>by
   have hn:n=rs.length:=by obtain⟨a',Y,D⟩:=Z0 h.row;injection D
   subst hn;have:=h.row.cellAt (i*4+j) jO;rw[this,Rm rs us i r u hr hu j I]
  refine⟨g,0,u,rfl,(aac.1 J).1,?_,?_,?_,?_,Th (h.cs i u r hu hr)⟩<;>rw[ade]
  ·exact at_ 0 jD
  ·exact at_ 1 jD
  ·exact at_ 2 jD
  ·exact at_ 3 jD
theorem TK.grown{row:Option Nat}(h:TK lo W v rs us)(J:W.grownBy W' row)(hr:∀k,row=some k->v.ownBlock≠some k/\∀cs,¬Z7 W k TC cs):TK lo W' v rs us:=by
 refine⟨h.len,h.row.kept J ?_,λj u r hu D=>(h.cs j u r hu D).kept J ?_⟩
 ·cases C:row with
  |none=>cases v.ownBlock<;>simp
  |some k=>exact .inr (hr k C).1
 ·cases C:row with
  |none=>cases u.ownBlock<;>simp
  |some k=>
   refine .inr (λe=> ?_);rcases (h.cs j u r hu D).2 with⟨rfl,_⟩|⟨g,cap,I,rfl,_,hb,_⟩
   ·cases e
   ·have e2:g=k:=aq e;subst e2;exact(hr g C).2 I hb
theorem TK.Zr(h:TK lo W v rs us)(hb:Below W.heap.size W W'):TK lo W' v rs us:=
 h.grown (row:=none) ⟨hb.os,hb.tape,hb.output,hb.size,λk hk _=>hb.block k hk⟩ (λk e=>by cases e)
end
structure Uu where
 nm:ByteArray
 (g cap:Nat)
 rs:List NR
 us:List Value
def Uu.v(G:Uu):Value:=.slice (some ⟨G.g,0,none⟩) G.rs.length G.cap
def Rl(gs:List Uu):List (Value×Value):=gs.map λG=>(.string G.nm,G.v)
structure UQ(lo B:Nat)(W:World)(gs:List Uu):Prop where
 map:Zz W B (Rl gs)
 rows:∀G∈gs,TK lo W G.v G.rs G.us
 names:gs.Pairwise (λx y=>x.nm≠y.nm)
 wm:gs.Pairwise (λx y=>x.g≠y.g)
 size:∀G∈gs,G.nm.size<=1000000
section
variable {lo B:Nat} {W W':World} {gs:List Uu}
theorem UQ.keys(h:UQ lo B W gs):∀p∈Rl gs,∃l,keyOf prog 9 p.1=some l:=λp hp=>by
 obtain⟨G,C,rfl⟩:=ah.1 hp;exact Oc _ (h.size G C)
theorem UQ.Zr(h:UQ lo B W gs)(hb:Below W.heap.size W W'):UQ lo B W' gs:=⟨h.map.below hb h.map.lt,λG C=>(h.rows G C).Zr hb,h.names,h.wm,h.size⟩
theorem UQ.nil{w:World}:UQ lo w.heap.size (w.alloc (.map #[] 0)) []:=⟨Zz.made w,λG h=>(by cases h),List.Pairwise.nil,List.Pairwise.nil,λG h=>(by cases h)⟩
theorem wj:∀W,(zeroValue 49).run prog W=.ok (.slice none 0 0) W:=λ_=>jK
theorem UQ.Xp(h:UQ lo B W gs){nm:ByteArray}(hs:nm.size<=1000000)(hn:∀G∈gs,G.nm≠nm):(Instr.lookup 191 (.map (some B)) (.string nm) false).run prog W=.ok (.slice none 0 0) W:=
 TX underlying191 Ti wj h.map h.keys (Oc nm hs) (λp hp e=>by obtain⟨G,C,rfl⟩:=ah.1 hp;exact hn G C (aqf e))
theorem UQ.Ip(h:UQ lo B W gs){G:Uu}(D:G∈gs):(Instr.lookup 191 (.map (some B)) (.string G.nm) false).run prog W=.ok G.v W:=
 Xq underlying191 Ti h.map h.keys (Oc _ (h.size G D)) (ah.2 ⟨G,D,rfl⟩) (afa.2 (h.names.imp (λ{a b} C e=>C (aqf e))))
theorem Ks(h:Zz W B (Rl gs))(t:TypeId)(cs:Array Value):¬Z7 W B t cs:=λhb=>by
 obtain⟨es,c,hm,_⟩:=h;have:=hm.symm.trans hb;cases this
theorem QJ{e s n base:Nat}{v:Value}{xs:List Value}(h:W.ownsRow base e s v n xs){k:Nat}(hk:v.ownBlock=some k):k<W.heap.size:=(h.lt k hk).2
theorem UQ.more{g1 g2:List Uu}{G:Uu}{W':World}{r:NR}{u:Value}{gb cap:Nat}(h:UQ lo B W (g1++G::g2))(hg:W.grownBy W' (some G.g))(hown:W'.ownsRow lo TR 4 (.slice (some ⟨gb,0,none⟩) (G.rs.length+1) cap) (G.rs.length+1) (YD G.rs G.us++rC r u))(hat:gb=G.g\/gb=W.heap.size)(hu:W.ownsRow lo TC 4 u r.cs.length (r.cs.flatMap cL)):
 ∃W2,(Instr.mapUpdate 191 (.map (some B)) (.string G.nm) (.slice (some ⟨gb,0,none⟩) (G.rs.length+1) cap)).run prog W'=.ok () W2/\UQ lo B W2 (g1++⟨G.nm,gb,cap,G.rs++[r],G.us++[u]⟩::g2)/\W'.grownBy W2 (some B):=by
 have nj:G∈g1++G::g2:=jS;have C:=h.rows G nj;have hGb:∃cs,Z7 W G.g TR cs:=by
  rcases C.row.2 with⟨e,_⟩|⟨g,cap',cur,e,_,hb,_⟩
  ·cases e
  ·have e2:G.g=g:=by unfold Uu.v at e;injection e with e1;injection e1 with e1;injection e1
   rw[e2];exact⟨cur,hb⟩
 have hnC:∀cs,¬Z7 W G.g TC cs:=λcs hb=>by
  obtain⟨cs',hb'⟩:=hGb;have h1:TR=TC:=by have:=(show W.heap[G.g]? =_ from hb').symm.trans hb;simp only[ahf,ayd] at this;exact this.2.1
  exact absurd h1 jD
 have hBg:B≠G.g:=λe=>by obtain⟨cs',hb'⟩:=hGb;rw[<-e] at hb';exact Ks h.map _ _ hb'
 have I:Zz W' B (Rl (g1++G::g2)):=h.map.kept hg (λe=>hBg (aq e));have Y:∀x∈g1,x.nm≠G.nm/\x.g≠G.g:=λx hx=>⟨(afb.1 h.names).2.2 x hx G jS,(afb.1 h.wm).2.2 x hx G jS⟩
 have U:∀x∈g2,G.nm≠x.nm/\G.g≠x.g:=λx hx=>⟨(age.1 (afb.1 h.names).2.1).1 x hx,(age.1 (afb.1 h.wm).2.1).1 x hx⟩
 have hlt:∀x∈g1++G::g2,x.g<W.heap.size:=λx hx=>QJ (h.rows x hx).row rfl
 have hS:Rl (g1++G::g2)=Rl g1++(.string G.nm,G.v)::Rl g2:=by simp[Rl]
 rw[hS] at I;obtain⟨W2,hr,ni,Z⟩:=rM underlying191 Ti I (by rw[<-hS];exact h.keys) (λp hp e=>by
  obtain⟨x,hx,rfl⟩:=ah.1 hp;exact(Y x hx).1 (aqf e)) (λp hp e=>by
  obtain⟨x,hx,rfl⟩:=ah.1 hp;exact(U x hx).1 (aqf e).symm) (.slice (some ⟨gb,0,none⟩) (G.rs.length+1) cap)
 have au1:∀cs,¬Z7 W' B TC cs:=λcs hb=>by obtain⟨es,c,hm,_⟩:=I;have:=hm.symm.trans hb;cases this
 have T:∀{e s n base:Nat} {v:Value} {xs:List Value},W'.ownsRow base e s v n xs->v.ownBlock≠some B:=λ{e s n base v xs} h1 e1=>by
  rcases h1.2 with⟨rfl,_⟩|⟨g,cap',cur,rfl,_,hb,_⟩
  ·cases e1
  ·have e2:g=B:=aq e1;subst e2;obtain⟨es,c,hm,_⟩:=I;have:=hm.symm.trans hb;cases this
 have keep:∀x∈g1++G::g2,x.g≠G.g->TK lo W2 x.v x.rs x.us:=λx hx hne=>by have h1:=(h.rows x hx).grown hg (λk e=>⟨λe2=>hne (by have:=aq e;have e3:x.g=k:=aq e2;omega),λcs=>by have:=aq e;subst this;exact hnC cs⟩);exact h1.grown Z (λk e=>⟨by have:=aq e;subst this;exact T h1.row,λcs=>by have:=aq e;subst this;exact au1 cs⟩)
 refine⟨W2,hr,⟨?_,λx hx=> ?_,?_,?_,λx hx=> ?_⟩,Z⟩
 ·have:Rl (g1++⟨G.nm,gb,cap,G.rs++[r],G.us++[u]⟩::g2)=Rl g1++(.string G.nm,.slice (some ⟨gb,0,none⟩) (G.rs.length+1) cap)::Rl g2:=by simp[Rl,Uu.v]
  rw[this];exact ni
 ·rcases abf.1 hx with hx|hx;·exact keep x (by simp[hx]) (Y x hx).2
  ·rcases abb.1 hx with rfl|hx
   ·have hcs:∀(j:Nat) (u':Value) (r':NR),(G.us++[u])[j]? =some u'->(G.rs++[r])[j]? =some r'->W2.ownsRow lo TC 4 u' r'.cs.length (r'.cs.flatMap cL):=λj u' r' J D=>by
     have old:W.ownsRow lo TC 4 u' r'.cs.length (r'.cs.flatMap cL):=by
      by_cases hj:j<G.rs.length;·rw[abc (by rw[C.len];exact hj)] at J;rw[abc hj] at D;exact C.cs j u' r' J D
      ·rw[aad (by rw[C.len];omega),C.len] at J;rw[aad jO] at D
       have gI:j-G.rs.length=0:=by have:=(ak.1 D).1;simp at this;omega
       rw[gI] at J D;simp at J D;subst J D;exact hu
     have h1:=old.kept hg (.inr (λe=>by
      rcases old.2 with⟨rfl,_⟩|⟨g,cap',cur,rfl,_,hb,_⟩
      ·cases e
      ·have e2:g=G.g:=aq e;rw[e2] at hb;exact hnC _ hb))
     exact h1.kept Z (.inr (T h1))
    have hrow:W2.ownsRow lo TR 4 (.slice (some ⟨gb,0,none⟩) (G.rs++[r]).length cap) (G.rs++[r]).length (YD (G.rs++[r]) (G.us++[u])):=by rw[Kt r u _ _ C.len,ay];exact hown.kept Z (.inr (T hown))
    exact⟨by rw[ay,ay,C.len];rfl,hrow,hcs⟩
   ·exact keep x (by simp[hx]) (λe=>(U x hx).2 e.symm)
 ·have:=h.names;rw[afb] at this ⊢;obtain⟨n1,n2,n3⟩:=this;refine⟨n1,?_,λa ha b hb=> ?_⟩;·exact age.2 (age.1 n2)
  ·rcases abb.1 hb with rfl|hb;·exact n3 a ha G jS
   ·exact n3 a ha b (by simp[hb])
 ·have:=h.wm;rw[afb] at this ⊢;obtain⟨n1,n2,n3⟩:=this;refine⟨n1,age.2 ⟨λx hx=> ?_,(age.1 n2).2⟩,λa ha b hb=> ?_⟩
  ·rcases hat with e|e;·rw[show(Uu.mk G.nm gb cap (G.rs++[r]) (G.us++[u])).g=gb from rfl,e];exact(U x hx).2
   ·have:=hlt x (by simp[hx]);show gb≠x.g;omega
  ·rcases abb.1 hb with rfl|hb
   ·rcases hat with e|e;·show a.g≠gb;rw[e];exact(Y a ha).2
    ·have:=hlt a (by simp[ha]);show a.g≠gb;omega
   ·exact n3 a ha b (by simp[hb])
 ·rcases abf.1 hx with hx|hx;·exact h.size x (by simp[hx])
  ·rcases abb.1 hx with rfl|hx;·exact h.size G nj
   ·exact h.size x (by simp[hx])
theorem UQ.new{W':World}{r:NR}{u:Value}{cap:Nat}(h:UQ lo B W gs)(hs:r.nm.size<=1000000)(hn:∀G∈gs,G.nm≠r.nm)(hg:W.grownBy W' none)(J:W'.ownsRow lo TR 4 (.slice (some ⟨W.heap.size,0,none⟩) 1 cap) 1 (rC r u))(hu:W.ownsRow lo TC 4 u r.cs.length (r.cs.flatMap cL)):
 ∃W2,(Instr.mapUpdate 191 (.map (some B)) (.string r.nm) (.slice (some ⟨W.heap.size,0,none⟩) 1 cap)).run prog W'=.ok () W2/\UQ lo B W2 (gs++[⟨r.nm,W.heap.size,cap,[r],[u]⟩])/\W'.grownBy W2 (some B):=by
 have C:Zz W' B (Rl gs):=h.map.kept hg jS;obtain⟨W2,hr,ni,I⟩:=Vd underlying191 Ti C h.keys (Oc r.nm hs) (λp hp e=>by obtain⟨x,hx,rfl⟩:=ah.1 hp;exact hn x hx (aqf e)) (.slice (some ⟨W.heap.size,0,none⟩) 1 cap)
 have Z:∀cs,¬Z7 W' B TC cs:=λcs hb=>by obtain⟨es,c,hm,_⟩:=C;have:=hm.symm.trans hb;cases this
 have D:∀{e s n base:Nat} {v:Value} {xs:List Value},W'.ownsRow base e s v n xs->v.ownBlock≠some B:=λ{e s n base v xs} T e1=>by
  rcases T.2 with⟨rfl,_⟩|⟨g,cap',cur,rfl,_,hb,_⟩
  ·cases e1
  ·have e2:g=B:=aq e1;subst e2;obtain⟨es,c,hm,_⟩:=C;have:=hm.symm.trans hb;cases this
 have hlt:∀x∈gs,x.g<W.heap.size:=λx hx=>QJ (h.rows x hx).row rfl
 refine⟨W2,hr,⟨by rw[show Rl (gs++[⟨r.nm,W.heap.size,cap,[r],[u]⟩])=Rl gs++[(.string r.nm,.slice (some ⟨W.heap.size,0,none⟩) 1 cap)] by simp[Rl,Uu.v]];exact ni,λx hx=> ?_,?_,?_,λx hx=> ?_⟩,I⟩
 ·rcases abf.1 hx with hx|hx;·have T:=(h.rows x hx).grown hg (λk e=>by cases e);exact T.grown I (λk e=>⟨by have:=aq e;subst this;exact D T.row,λcs=>by have:=aq e;subst this;exact Z cs⟩)
  ·rcases aaa.1 hx with rfl;refine⟨rfl,?_,λj u' r' Y U=> ?_⟩;·rw[show YD [r] [u]=rC r u by simp[YD]];exact J.kept I (.inr (D J))
   ·have gI:j=0:=by
     have:=(ak.1 U).1;simp at this;omega
    subst gI;simp at Y U;subst Y U;have T:=hu.kept hg (by cases u.ownBlock<;>simp);exact T.kept I (.inr (D T))
 ·rw[afb];exact⟨h.names,apc _ _,λa ha b hb=>by rw[aaa.1 hb];exact hn a ha⟩
 ·rw[afb];exact⟨h.wm,apc _ _,λa ha b hb=>by rw[aaa.1 hb];have:=hlt a ha;show a.g≠W.heap.size;omega⟩
 ·rcases abf.1 hx with hx|hx;·exact h.size x hx
  ·rw[aaa.1 hx];exact hs
end
end Go.Proofs.YtclgigmgbebhgaaGreatDoor
namespace Go.Proofs.YtclgigmgbebhgaaGreatDoor
open Tryz
open Go Go.Proofs Go.RowKit
theorem Bv(cs:List Z5):∀u∈cs.flatMap cL,u.oneCell'=true:=λu hu=>by
 obtain⟨c,_,hc⟩:=aqd.1 hu;simp[cL] at hc;rcases hc with rfl|rfl|rfl|rfl<;>rfl
theorem Bu{N L c:Nat}{a:Option Addr}{cs:List Z5}(hl:cs.length=L)(Xo:L<=1000000)(w:World)(hm:YT N w (.slice a L c) cs)(hN:N<=w.heap.size):
 Calls prog 92 #[.slice a L c] w λe w'=>∃v,e=.returned v/\w'.ownsRow w.heap.size TC 4 v L (cs.flatMap cL)/\Below w.heap.size w w':=by
 obtain⟨i0,J,RH,Z,Tl⟩:=Pq Gf;cases a with
 |none=>
  obtain rfl:L=0:=by
   cases hc:cs with
   |nil=>rw[hc] at hl;exact hl.symm
   |cons x r=>
    obtain⟨_,_,e,hr⟩:=hm;injection e with e1;obtain⟨gu,off,e2,_⟩:=hr 0 x (by rw[hc];rfl);rw[<-e1] at e2;cases e2
  obtain rfl:cs=[]:=alb.1 hl;have U:∀w,(binOp .eql 89 (.slice none 0 c) (.slice none 0 0)).run prog w=.ok (.bool true) w:=λ_=>jK
  go_enter func92,ntmps92;go_wp2_with fail;go_ret;exact⟨_,rfl,anb _ _ _ _,aG _ _⟩
 |some A=>
  have I:=aT ((aG w.heap.size w).alloc (aR _) (.cells #[] TC));have Y:Hid ((w.alloc (.cells #[] TC)).ownsRow w.heap.size TC 4 (.slice (some ⟨w.heap.size,0,none⟩) 0 0) 0 []):=World.ownsRow_lit (base:=w.heap.size) w #[] 0 (aR _) jD rfl;have HM:=aT (hm.below I hN);have HLB:Hid ((cs.flatMap cL).length=L*4):=by show _=_;rw[QK,hl]
  have HON:=aT (Bv cs);have HNW:Hid (∀j u,(cs.flatMap cL)[j]? =some u->(w.alloc (.cells #[] TC)).cell? (A.add j)=some u):=λj u hu=>by
   have hj:j<(cs.flatMap cL).length:=(ak.1 hu).1;rw[QK] at hj;obtain⟨x,hx⟩:∃x,cs[j/4]? =some x:=⟨_,aL jO⟩;obtain⟨_,_,e,hr⟩:=HM.out;injection e with e1;obtain⟨gu,off,e2,_,h0,h1,h2,h3⟩:=hr (j/4) x hx;rw[<-e1] at e2;cases e2;have T:=Rp cs (j/4) x hx (j%4) (avf _ jD);rw[show j/4*4+j%4=j from jO,hu] at T;rw[show(⟨gu,off,none⟩:Addr).add j=⟨gu,off+j,none⟩ by cases j<;>rfl,T];have h4:=avf j (show 4>0 from jD);rcases (show j%4=0\/j%4=1\/j%4=2\/j%4=3 from jO) with e|e|e|e;·rw[e,show off+j=off+j/4*4 from jO];exact h0
   ·rw[e,show off+j=off+j/4*4+1 from jO];exact h1
   ·rw[e,show off+j=off+j/4*4+2 from jO];exact h2
   ·rw[e,show off+j=off+j/4*4+3 from jO];exact h3
  have U:∀w,(binOp .eql 89 (.slice (some A) L c) (.slice none 0 0)).run prog w=.ok (.bool false) w:=λ_=>jK
  clear hl hm;go_enter func92,ntmps92
  go_wp2_with (first
   |(at_builtin;refine aea _ rfl _ _ 89 rfl w.heap.size TC i0 (.agg #[.int .i64 0,.int .i64 0,.int .u64 0,.int .u64 0]) 4 32 underlying89 J RH Z Tl rfl jD _ 0 [] rfl Y A L c (cs.flatMap cL) rfl HLB HNW HON (by unfold maxLen;omega) jO I.size ?_;intro v' w6 C D _)
   |(refine wpList_plain rfl λK hK=> ?_;refine D6 _ 89 rfl underlying89 J Z ?_;refine hK _ _ ?_;clear hK K))
  rw[ade,ahe] at C;have HR:=aT C;have Ck:=aT (I.grown D I.size (λk e=>(Y.lt k e).1));clear C D;go_wp2_with fail;go_ret;exact⟨_,rfl,HR,Ck⟩
end Go.Proofs.YtclgigmgbebhgaaGreatDoor
namespace Go.Proofs.YtclgigmgbebhgaaGreatDoor
open Tryz
open Go Go.Proofs
variable {a:Nat} {w:Nat->Nat}
theorem wh{c n:Z5}(h:c.right)(e:Xj c=.asks n):n.kept:=by
 intro D;obtain⟨_,ho,_⟩:=h;unfold Xj Ye Xy WC at e;have C:c.o=1\/c.o=2\/c.o=3\/c.o=4\/c.o=5\/c.o=6\/c.o=7:=jO;have one:∀x:Z5,x.o≠7->Yq.asks x=.asks n->False:=λx hx e2=>by obtain rfl:=Yq.asks.inj e2;exact hx D
 rcases C with q|q|q|q|q|q|q;·rw[aF (.inl q)] at e;exact(one c jO e).elim
 ·rw[aF (.inr q)] at e;exact(one c jO e).elim
 ·rw[aN jO,aF q] at e;split at e
  ·cases e
  ·split at e;·exact(one _ jS e).elim
   ·exact(one _ jS e).elim
 ·rw[aN jO,aN jO,aF q] at e;split at e
  ·cases e
  ·split at e
   ·cases e
   ·split at e;·exact(one _ jS e).elim
    ·exact(one _ jS e).elim
 ·rw[aN jO,aN jO,aN jO,aF q] at e;split at e
  ·cases e
  ·split at e
   ·cases e
   ·split at e;·exact(one _ jS e).elim
    ·exact(one _ jS e).elim
 ·rw[aN jO,aN jO,aN jO,aN jO,aF q] at e;split at e
  ·cases e
  ·split at e;·exact(one _ jS e).elim
   ·exact(one _ jS e).elim
 ·rw[aN jO,aN jO,aN jO,aN jO,aN jO] at e;split at e
  ·cases e
  ·rename_i hn;split at e
   ·cases e
   ·split at e;·exact(one _ jS e).elim
    ·obtain rfl:=Yq.asks.inj e;exact Classical.not_not.1 hn
theorem Tg{f:Z5->Yq}:∀{cs ns:List Z5},ZO f cs=some ns->∀n∈ns,∃c∈cs,f c=.asks n
 |[],ns,h,n,hn=>by obtain rfl:=aq h;cases hn
 |c::cs,ns,h,n,hn=>by
  unfold ZO at h;cases hf:f c with
  |never=>rw[hf] at h;cases h
  |always=>
   rw[hf] at h;obtain⟨d,D,C⟩:=Tg (cs:=cs) h n hn;exact⟨d,by simp[D],C⟩
  |asks m=>
   rw[hf] at h;dsimp only at h;cases hr:ZO f cs with
   |none=>rw[hr] at h;cases h
   |some l=>
    rw[hr] at h;obtain rfl:=aq h;rcases abb.1 hn with rfl|hn;·exact⟨c,jS,hf⟩
    ·obtain⟨d,D,C⟩:=Tg hr n hn;exact⟨d,by simp[D],C⟩
def Ui(l:List Z3):Prop:=∀r∈l,∀c∈r.1,c.nf/\c.kept
theorem DU{rs g:List Z3}(h:TU rs g):(∀r∈rs,∀c∈r.1,c.right)->Ui g:=by
 induction h with
 |nil=>intro _ r hr;cases hr
 |gone _ _ D=>intro hr;exact D (λr hm=>hr r (by simp[hm]))
 |hid _ _ _ D=>intro hr;exact D (λr hm=>hr r (by simp[hm]))
 | @more rs g cs code ns _ hn _ D=>
   intro hr r hm;rcases abf.1 hm with hm|hm;·exact D (λr hm=>hr r (by simp[hm])) r hm
   ·rcases aaa.1 hm with rfl;intro c hc;obtain⟨l,T,J⟩:=hn;obtain⟨d,hd,I⟩:=Tg T c ((J c).1 hc);have C:=hr (cs,code) jS d hd;have:=(Gw C).1;rw[I] at this;exact⟨this.1,wh C I⟩
theorem Kr{d:Nat}{l l':List Z3}(h:WB d l l'):∀r∈l',r∈l:=by
 induction h with
 |same l=>exact λr hr=>hr
 |one _ C=>exact λr hr=>abf.2 (.inl (C r hr))
def strike(d:Nat)(l:List Z3):List Z3:=(l.reverse.dropWhile (λr=>r.2 == d)).reverse
theorem VR(d:Nat):∀(k:Nat) (l:List Z3),l.length<=k->WB d l (strike d l)
 |_,[],_=>WB.same []
 |0,x::r,h=>by simp at h
 |k+1,x::r,h=>by
  have C:x::r≠[]:=jS;have e:x::r=(x::r).dropLast++[(x::r).getLast C]:=(apb C).symm;generalize hi:(x::r).dropLast=i at*;generalize hz:(x::r).getLast C=z at*;have hlen:i.length<=k:=by rw[<-hi];simp at h ⊢;omega
  rw[e];unfold strike;rw[List.reverse_append];show WB d (i++[z]) ((z::i.reverse).dropWhile (λr=>r.2 == d)).reverse;rw[apf];by_cases hd:z.2=d;·rw[aF (by simpa using hd)];obtain⟨I,D⟩:=z;obtain rfl:D=d:=hd;exact WB.one (VR _ k i hlen)
  ·rw[aN (by simpa using hd)];rw[awf,axd];exact WB.same _
def Yn(a d:Nat)(g:List Z3):List Z3:=strike d (if a=2 then YG g else UF g)
theorem cF (hw:GG w){d:Nat}{g:List Z3}(h:Ui g):(ZG (WH w (decide (a≠2))) (Yn a d g)).getD d=(ZG (WH w (decide (a≠2))) g).getD d:=by
 unfold Yn;rw[IE (VR d _ _ (aR _))];by_cases ha:a=2
 ·rw[aF ha]
  have:∀x,WH w (decide (a≠2)) x<UX:=λx=>by unfold WH;rw[aN (by simp[ha])];exact hw _
  rw[KJ this g h]
 ·rw[aN ha,El]
theorem Mx:∀(l:List Z3),Ui l->∀r∈YG l,∀c∈r.1,c.nf/\c.v<UX/\c.m<UX
 |[],_,r,hr,_,_=>by cases hr
 |(cs,code)::l,h,r,hr,c,hc=>by
  have I:=Mx l (λx hx=>h x (by simp[hx]));unfold YG at hr;cases ha:ZO Zi cs with
  |none=>rw[ha] at hr;exact I r hr c hc
  |some ns=>
   rw[ha] at hr;have D:∀n∈ns,n.nf/\n.v<UX/\n.m<UX:=λn hn=>by obtain⟨d,hd,J⟩:=Tg ha n hn;have C:=h (cs,code) jS d hd;have:=(Np C.1 C.2).2;rw[J] at this;exact⟨this.1,this.2.2.1,this.2.2.2⟩
   cases ns with
   |nil=>
    rcases aaa.1 hr with rfl;cases hc
   |cons n ns=>
    rcases abb.1 hr with rfl|hr;·exact D c hc
    ·exact I r hr c hc
theorem Nd:∀(l:List Z3),∀r∈UF l,r∈l
 |[],r,hr=>by cases hr
 |(cs,code)::l,r,hr=>by
  unfold UF at hr;split at hr;·rcases aaa.1 hr with rfl;simp
  ·rcases abb.1 hr with rfl|hr;·simp
   ·exact aff _ (Nd l r hr)
theorem Kq{d:Nat}{g:List Z3}(h:Ui g):GD (.rules (decide (a≠2)) (Yn a d g))/\∀r∈Yn a d g,∀c∈r.1,c.nf:=by
 have sub:=Kr (VR d _ (if a=2 then YG g else UF g) (aR _));have all:∀r∈Yn a d g,∀c∈r.1,c.nf/\(a≠2\/(c.v<UX/\c.m<UX)):=by
  intro r hr c hc;have hm:=sub r hr;by_cases ha:a=2;·rw[aF ha] at hm;have:=Mx g h r hm c hc;exact⟨this.1,.inr this.2⟩
  ·rw[aN ha] at hm;exact⟨(h r (Nd g r hm) c hc).1,.inl ha⟩
 refine⟨λr hr c hc=> ?_,λr hr c hc=>(all r hr c hc).1⟩;obtain⟨D,C⟩:=all r hr c hc;exact⟨D.2.1,C.imp (λe=>by simpa using e) id⟩
structure OX where
 num:Nat->Int
 rules:List Z3
def whole(a n:Nat):Nat:=if a=1 then n+VT else n
def Ut(Vl:Bool)(d:Nat)(gs:List OX)(s0 s1:List (Nat×Nat))(a:Nat)(ps:List (Nat×ZM)):Prop:=
 WE ps/\∀q:Nat×ZM,q∈ps↔(∃g∈gs,0<=g.num a/\(a=1->Vl=true)/\Yn a d g.rules≠[]/\q=(whole a (g.num a).toNat,.rules (decide (a≠2)) (Yn a d g.rules)))\/(a=2/\(q=(102,.subs s0)\/q=(117,.subs s1)))
theorem DT{ps:List (Nat×ZM)}(h:ps.Pairwise (λp q=>p.1<q.1)){q:Nat×ZM}(C:q∈ps):ps.find? (λp=>p.1 == q.1)=some q:=by
 induction ps with
 |nil=>cases C
 |cons p ps I=>
  obtain⟨J,D⟩:=age.1 h;rcases abb.1 C with rfl|C;·exact apg jS
  ·have:=J q C;rw[amf (by simp;omega)];exact I D C
theorem Io{n m:Nat}(h:whole a n=whole a m):n=m:=by
 unfold whole at h;split at h<;>omega
theorem Rk (hw:GG w){Vl:Bool}{d:Nat}{gs:List OX}{s0 s1:List (Nat×Nat)} {ps:List (Nat×ZM)}(hp:Ut Vl d gs s0 s1 a ps)(hx:a=1->Vl=true)(hR:∀g∈gs,Ui g.rules)
 {n:Nat} {G:List Z3} (D:a=2->n≠102/\n≠117) (hG:(∃g∈gs,g.num a=n/\g.rules=G/\∀g'∈gs,g'.num a=n->g'=g)\/(G=[]/\∀g∈gs,g.num a≠n)):
 UH w d ps (whole a n)=(ZG (WH w (decide (a≠2))) G).getD d:=by
 obtain⟨⟨U,_⟩,I⟩:=hp;have C:(∀g∈gs,g.num a=n->Yn a d g.rules=[])->UH w d ps (whole a n)=d:=by
  intro J;unfold UH;have:ps.find? (λp=>p.1 == whole a n)=none:=by
   rw[ayf];intro q hq e;have e:q.1=whole a n:=by simpa using e
   rcases (I q).1 hq with⟨g,T,h0,_,Z,rfl⟩|⟨ha,rfl|rfl⟩;·have:=Io e;exact Z (J g T jO)
   ·have:whole a n=n:=by unfold whole;rw[aN jO]
    rw[this] at e;exact(D ha).1 e.symm
   ·have:whole a n=n:=by unfold whole;rw[aN jO]
    rw[this] at e;exact(D ha).2 e.symm
  rw[this];rfl
 rcases hG with⟨g,T,hn,rfl,Y⟩|⟨rfl,J⟩
 ·have ho:=cF (a:=a) (d:=d) hw (hR g T);by_cases he:Yn a d g.rules=[];·rw[C (λg' hg' hn'=>by rw[Y g' hg' hn'];exact he),<-ho,he];rfl
  ·have hq:(whole a n,ZM.rules (decide (a≠2)) (Yn a d g.rules))∈ps:=(I _).2 (.inl ⟨g,T,jO,hx,he,by rw[show(g.num a).toNat=n from jO]⟩);unfold UH;have hf:=DT U hq;rw[show(whole a n,ZM.rules (decide (a≠2)) (Yn a d g.rules)).1=whole a n from rfl] at hf;rw[hf];show Pb w (decide (a≠2)) d (Yn a d g.rules)=_;rw[Ov (Kq (hR g T)).2,ho]
 ·rw[C (λg T e=>absurd e (J g T))];rfl
end Go.Proofs.YtclgigmgbebhgaaGreatDoor
namespace Go.Proofs.YtclgigmgbebhgaaGreatDoor
open Tryz
open Go Go.Proofs Go.RowKit
theorem rL:(prog.info? TQ).map (λi=>(i.zero,i.size,i.bytes))=some (some (.agg #[.slice none 0 0,.int .u32 0]),2,32):=jK
def qC(r:Z3)(u:Value):List Value:=[u,.int .u32 r.2]
def Xa:List Z3->List Value->List Value
 |r::rs,u::us=>qC r u++Xa rs us
 |_,_=>[]
theorem OW(r:Z3)(u:Value):∀(rs:List Z3) (us:List Value),us.length=rs.length->Xa (rs++[r]) (us++[u])=Xa rs us++qC r u
 |[],[],_=>by simp[Xa]
 |x::rs,y::us,h=>by show qC x y++Xa (rs++[r]) (us++[u])=qC x y++Xa rs us++qC r u;rw[OW r u rs us (by simpa using h),aag]
theorem DR:∀(rs:List Z3) (us:List Value) (i:Nat) (r:Z3) (u:Value),rs[i]? =some r->us[i]? =some u->∀j,j<2->(Xa rs us)[i*2+j]? =(qC r u)[j]?
 |x::rs,y::us,0,r,u,hr,hu,j,hj=>by
  simp at hr hu;subst hr hu;show(qC x y++Xa rs us)[0*2+j]? =_;rw[abc (by show _<2;omega)]
  congr 1
  omega
 |x::rs,y::us,i+1,r,u,hr,hu,j,hj=>by have C:=DR rs us i r u (by simpa using hr) (by simpa using hu) j hj;show(qC x y++Xa rs us)[(i+1)*2+j]? =_;rw[aad (by show 2<=_;omega),show(i+1)*2+j-(qC x y).length=i*2+j by show(i+1)*2+j-2=_;omega];exact C
 |[],_,i,r,u,hr,_,_,_=>by simp at hr
 |_::_,[],i,r,u,_,hu,_,_=>by simp at hu
theorem Im:∀(a:List Z3) (ua:List Value),ua.length=a.length->(Xa a ua).length=a.length*2
 |[],[],_=>rfl
 |x::a,y::ua,h=>by show(qC x y++Xa a ua).length=_;rw[ay,Im a ua (by simpa using h)];show 2+_=(a.length+1)*2;omega
theorem Kp:∀(m:Nat) (a:List Z3) (ua:List Value),ua.length=a.length->Xa (a.take m) (ua.take m)=(Xa a ua).take (m*2)
 |0,a,ua,_=>by simp[Xa]
 |m+1,[],[],_=>by simp[Xa]
 |m+1,x::a,y::ua,h=>by have C:=Kp m a ua (by simpa using h);show qC x y++Xa (a.take m) (ua.take m)=(qC x y++Xa a ua).take ((m+1)*2);rw[C,List.take_append,show(qC x y).length=2 from rfl,show(m+1)*2-2=m*2 from jO,abe (l:=qC x y) (by show 2<=_;omega)]
structure Yd(lo:Nat)(W:World)(v:Value)(rs:List Z3)(us:List Value):Prop where
 len:us.length=rs.length
 row:W.ownsRow lo TQ 2 v rs.length (Xa rs us)
 cs:∀(j:Nat) (u:Value) (r:Z3),us[j]? =some u->rs[j]? =some r->W.ownsRow 0 TC 4 u r.1.length (r.1.flatMap cL)
section
variable {lo:Nat} {W W':World} {v:Value} {rs:List Z3} {us:List Value}
theorem Yd.cell{a:Option Addr}{n c:Nat}(h:Yd lo W (.slice a n c) rs us){i:Nat}{r:Z3}(hr:rs[i]? =some r):∃g u,a=some ⟨g,0,none⟩/\g<W.heap.size/\lo<=g/\us[i]? =some u/\W.cell? ⟨g,i*2,none⟩=some u/\W.cell? ⟨g,i*2+1,none⟩=some (.int .u32 r.2):=by
 have D:=(ak.1 hr).1;obtain⟨u,hu⟩:∃u,us[i]? =some u:=⟨_,aL (by rw[h.len];exact D)⟩;have hn:n=rs.length:=by obtain⟨a',Z,I⟩:=Z0 h.row;injection I
 subst hn;rcases h.row.2 with⟨e,Y⟩|⟨g,cap,U,e,C,T,_⟩;·omega
 ·injection e with e1 _ e2;subst e1;have at_:∀j,j<2->W.cell? ⟨g,i*2+j,none⟩=(qC r u)[j]? :=λj J=>by rw[h.row.cellAt (i*2+j) jO,DR rs us i r u hr hu j J]
  exact⟨g,u,rfl,(aac.1 T).1,C,hu,at_ 0 jD,at_ 1 jD⟩
theorem Yd.rules(h:Yd lo W v rs us):Um W.heap.size W v rs:=by
 obtain⟨a,c,rfl⟩:=Z0 h.row;refine⟨a,c,rfl,λi r hr=> ?_⟩;obtain⟨g,u,e,D,_,hu,C,I⟩:=h.cell hr;exact⟨g,0,u,e,D,by rw[ade];exact C,by rw[ade];exact I,Th (h.cs i u r hu hr)⟩
theorem Yd.grown{row:Option Nat}(h:Yd lo W v rs us)(J:W.grownBy W' row)(hr:∀k,row=some k->v.ownBlock≠some k/\∀cs,¬Z7 W k TC cs):Yd lo W' v rs us:=by
 refine⟨h.len,h.row.kept J ?_,λj u r hu D=>(h.cs j u r hu D).kept J ?_⟩
 ·cases C:row with
  |none=>cases v.ownBlock<;>simp
  |some k=>exact .inr (hr k C).1
 ·cases C:row with
  |none=>cases u.ownBlock<;>simp
  |some k=>
   refine .inr (λe=> ?_);rcases (h.cs j u r hu D).2 with⟨rfl,_⟩|⟨g,cap,I,rfl,_,hb,_⟩
   ·cases e
   ·have e2:g=k:=aq e;subst e2;exact(hr g C).2 I hb
theorem Yd.Zr(h:Yd lo W v rs us)(hb:Below W.heap.size W W'):Yd lo W' v rs us:=
 h.grown (row:=none) ⟨hb.os,hb.tape,hb.output,hb.size,λk hk _=>hb.block k hk⟩ (λk e=>by cases e)
theorem Yd.mono{lo':Nat}(h:Yd lo W v rs us)(hl:lo'<=lo):Yd lo' W v rs us:=⟨h.len,Y7 h.row hl,h.cs⟩
theorem Yd.nil(lo:Nat)(W:World):Yd lo W (.slice none 0 0) [] []:=⟨rfl,anb _ _ _ _,λj u r h=>by simp at h⟩
theorem TJ{k t t':Nat}{cs cs':Array Value}(h:Z7 W k t cs)(C:Z7 W k t' cs'):t=t':=by
 have:=(show W.heap[k]? =_ from h).symm.trans C;simp only[ahf,ayd] at this;exact this.2.1
theorem Yd.set{B t:Nat}{cs:Array Value}(h:Yd lo W v rs us)(C:Z7 W B t cs)(I:TQ≠t)(D:TC≠t)(j:Nat)(u:Value):Yd lo (W.setCell ⟨B,j,none⟩ u) v rs us:=
 ⟨h.len,ZV h.row C I j u,λi x r hx hr=>ZV (h.cs i x r hx hr) C D j u⟩
theorem Yd.lj{B:Nat}{cs:Array Value}(h:Yd lo W v rs us)(D:Z7 W B TQ cs)(C:v.ownBlock≠some B)(j:Nat)(u:Value):Yd lo (W.setCell ⟨B,j,none⟩ u) v rs us:=
 h.grown (row:=some B) ⟨rfl,rfl,rfl,jS,λk _ hk=>afc W ⟨B,j,none⟩ u k (λe=>hk (by rw[e]))⟩ (λk e=>by obtain rfl:=aq e;exact⟨C,λcs' hb=>absurd (TJ D hb) jD⟩)
theorem Yd.take{g n cap:Nat}(h:Yd lo W (.slice (some ⟨g,0,none⟩) n cap) rs us){m:Nat}(hm:m<=rs.length):Yd lo W (.slice (some ⟨g,0,none⟩) m cap) (rs.take m) (us.take m):=by
 have hn:n=rs.length:=by obtain⟨a',c',T⟩:=Z0 h.row;injection T
 subst hn;refine⟨by rw[abg,abg,h.len],?_,λj u r hu hr=> ?_⟩
 ·have hl:(rs.take m).length=m:=by rw[abg];omega
  rw[Kp m rs us h.len,hl];have I:=Im rs us h.len;refine⟨by rw[abg,I];omega,?_⟩;rcases h.row.2 with⟨e,_⟩|⟨g',J,D,e,C,hg,h4,h5,Y,Z⟩
  ·cases e
  ·injection e with e1 e2 e3;injection e1 with e1;injection e1 with e1;subst e1 e3;refine .inr ⟨g,cap,D,rfl,C,hg,jO,h5,Y,?_⟩;rw[<-Z,List.take_take,Nat.min_eq_left jO]
 ·rw[aja] at hu hr;split at hu;·rename_i U;rw[aF U] at hr;exact h.cs j u r hu hr
  ·cases hu
end
end Go.Proofs.YtclgigmgbebhgaaGreatDoor
namespace Go.Proofs.YtclgigmgbebhgaaGreatDoor
open Tryz
open Go Go.Proofs Go.RowKit Go.Maps Go.WideMaps Go.ChangeMaps
def W9(a:Nat)(l:List Z3):List Z3:=if a=2 then YG l else UF l
theorem vZ(a:Nat):W9 a []=[]:=by unfold W9;split<;>rfl
theorem rK(a d:Nat)(l:List Z3):Yn a d l=strike d (W9 a l):=rfl
theorem YT.mono{N K:Nat}{W:World}{v:Value}{cs:List Z5}(h:YT N W v cs)(hk:N<=K):YT K W v cs:=by
 obtain⟨ua,uc,e,h⟩:=h;refine⟨ua,uc,e,λk c hc=> ?_⟩;obtain⟨D,off,e,hl,C⟩:=h k c hc;exact⟨D,off,e,adg hl hk,C⟩
structure Il(lo P:Nat)(w0 W:World)(v:Value)(l:List Z3)(us:List Value)(cs:List Z5)(code:Nat)(ua:Option Addr)(K uc:Nat)(pc:Option Value)(pb:Option (Nat×Value)):Prop where
 row:Yd lo W v l us
 Zr:Below lo w0 W
 lw:lo<=W.heap.size
 bp:Z7 W P TQ #[.slice ua K uc,.int .u32 code]
 ne:v.ownBlock≠some P
 cm:pc=none->YT W.heap.size W (.slice ua K uc) cs
 tc:∀x,pc=some x->W.ownsRow 0 TC 4 x cs.length (cs.flatMap cL)
 tb:∀b x,pb=some (b,x)->Z7 W b TQ #[x,.int .u32 code]/\x.oneCell'=true/\pc=some x
section
variable {lo P:Nat} {w0 W:World} {v:Value} {l:List Z3} {us:List Value} {cs:List Z5} {code:Nat} {ua:Option Addr} {K uc:Nat} {pc:Option Value} {pb:Option (Nat×Value)}
theorem Il.S(h:Il lo P w0 W v l us cs code ua K uc pc pb):W.cell? ⟨P,0,none⟩=some (.slice ua K uc)/\W.cell? ⟨P,1,none⟩=some (.int .u32 code):=(XG h.bp).1
theorem Il.drew(h:Il lo P w0 W v l us cs code ua K uc pc pb):Il lo P w0 W.drew v l us cs code ua K uc pc pb:=
 ⟨⟨h.row.len,h.row.row.drew,λj u r hu hr=>(h.row.cs j u r hu hr).drew⟩,h.Zr.drew,h.lw,h.bp,h.ne,λe=>(h.cm e).below (N:=W.heap.size) (K:=W.heap.size) (aG _ _).drew (aR _),λx e=>(h.tc x e).drew,h.tb⟩
theorem Il.clone(h:Il lo P w0 W v l us cs code ua K uc none none)(I:cs.length=K)(C:K<=1000000):
 Calls prog 92 #[.slice ua K uc] W λe w'=>∃D xc,e=.returned (.slice D K xc)/\Il lo P w0 w' v l us cs code ua K uc (some (.slice D K xc)) none:=by
 refine(Bu I C W (h.cm rfl) (aR _)).mono ?_;rintro e w' ⟨x,rfl,hx,hb⟩;obtain⟨D,xc,rfl⟩:=Z0 hx;refine⟨D,xc,rfl,h.row.Zr hb,h.Zr.trans (hb.mono h.lw),aO h.lw hb.size,h.bp.below hb h.bp.lt,h.ne,λe=>(by cases e),λy e=> ?_,λb y e=>(by cases e)⟩;cases e;rw[I];exact Y7 hx (abd _)
theorem Il.Xg{x:Value}(h:Il lo P w0 W v l us cs code ua K uc (some x) none)(hx:x.oneCell'=true):Il lo P w0 (W.alloc (.cells #[x,.int .u32 code] TQ)) v l us cs code ua K uc (some x) (some (W.heap.size,x)):=
 ⟨h.row.Zr ((aG _ _).alloc (aR _) _),h.Zr.alloc h.lw _,by rw[aj];have:=h.lw;omega,h.bp.alloc _,h.ne,λe=>(by cases e),λy e=>(h.tc y e).alloc _,λb y e=>(by cases e;exact⟨Z7.new W _ _,hx,rfl⟩)⟩
theorem Xm{W:World}{B e s n:Nat}{v:Value}{xs:List Value}(h:W.ownsRow B e s v n xs){k:Nat}(hk:v.ownBlock=some k):∃cs,Z7 W k e cs:=by
 rcases h.2 with⟨rfl,_⟩|⟨g,cap,C,rfl,_,hb,_⟩
 ·cases hk
 ·cases hk;exact⟨C,hb⟩
theorem Il.step{ops:Array Oper}{o:Oper}{a:Act}{Kk:Act->World->Prop}{Q:Exit->Act->World->Prop}{E:Prop}{b:Nat}{x:Value}(h:Il lo P w0 W v l us cs code ua K uc pc (some (b,x)))(Y:o.guard=none)(s y:Operand)
 (ho:o.op=.call {callee:=.builtin .append,args:=#[s,y],argTypes:=#[115,115]}) (hs:a.eval s=v) (hx:a.eval y=.slice (some ⟨b,0,none⟩) 1 1) (Xo:l.length<=1000000)
 (hK:∀gb cap w',Yd lo w' (.slice (some ⟨gb,0,none⟩) (l.length+1) cap) (l++[(cs,code)]) (us++[x])/\Below lo w0 w'/\Z7 w' P TQ #[.slice ua K uc,.int .u32 code]/\lo<=w'.heap.size->Kk (a.put o.dst (.slice (some ⟨gb,0,none⟩) (l.length+1) cap)) w'):
 if Region.wanted o (yielded ops a.tmps)=true then Oper.wp prog o a W Kk Q else E:=by
 obtain⟨i0,hi,hz0,hz1,hz2⟩:=Pq rL;obtain⟨hb,I,Z⟩:=h.tb b x rfl;refine step_append_lies W Y s y 115 ho lo TQ i0 (.agg #[.slice none 0 0,.int .u32 0]) 2 32 underlying115 hi hz0 hz1 hz2 rfl jD v l.length (Xa l us) hs h.row.row ⟨b,0,none⟩ 1 1 [x,.int .u32 code] hx rfl ?_ ?_ jD (by unfold maxLen;omega) jO h.lw _ rfl ?_;·exact World.news_of_block hb
 ·intro u hu;simp at hu;rcases hu with rfl|rfl;·exact I
  ·rfl
 ·intro gb cap w' D T hat _
  have J:∀k,v.ownBlock=some k->∀cs,¬Z7 W k TC cs:=λk hk cs hbk=>by obtain⟨cs',h2⟩:=Xm h.row.row hk;exact absurd (TJ h2 hbk) jD
  have C:∀{u:Value} {ds:List Z5},W.ownsRow 0 TC 4 u ds.length (ds.flatMap cL)->w'.ownsRow 0 TC 4 u ds.length (ds.flatMap cL):=λ{u ds} h1=>by
   refine h1.kept T ?_;cases hv:v.ownBlock with
   |none=>cases u.ownBlock<;>simp
   |some k=>
    refine .inr (λe=> ?_);obtain⟨cs',h2⟩:=Xm h1 e;exact J k hv cs' h2
  refine hK gb cap w' ⟨⟨?_,?_,λj u r hu hr=> ?_⟩,h.Zr.grown T h.lw (λk e=>(h.row.row.lt k e).1),Z7.kept h.bp T (λe=>h.ne e.symm),aO h.lw T.size⟩;·rw[ay,ay,h.row.len];rfl
  ·rw[ay,OW _ _ _ _ h.row.len];exact D
  ·by_cases hj:j<l.length;·rw[abc (by rw[h.row.len];exact hj)] at hu;rw[abc hj] at hr;exact C (h.row.cs j u r hu hr)
   ·rw[aad (by rw[h.row.len];omega),h.row.len] at hu;rw[aad jO] at hr
    have U:j-l.length=0:=by have:=(ak.1 hr).1;simp at this;omega
    rw[U] at hu hr;simp at hu hr;subst hu hr;exact C (h.tc _ Z)
end
theorem cE:∀w,(Go.sizeOf TQ).run prog w=.ok 2 w:=λ_=>jK
theorem DO(W:World)(g n D k:Nat)(hk:k<=D):(Instr.slice 115 (.slice (some ⟨g,0,none⟩) n D) none (some (.int .i64 k)) none).run prog W=.ok (.slice (some ⟨g,0,none⟩) k D) W:=by
 have C:prog.underlying 115=some (.slice (prog.elem 115)):=by simp[Program.elem,underlying115]
 have I:prog.elem 115=TQ:=by simp[Program.elem,underlying115]
 rw[run_slice_h W _ _ _ _ C .i64 _ jO jO,I,cE];simp[Result.andThen,sliced,Addr.add]
end Go.Proofs.YtclgigmgbebhgaaGreatDoor
