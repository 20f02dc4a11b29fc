/- TopAsks: part 16: TopStepW. -/
import Derived.Test.YtclgigmgbebhgaaGreatDoorA15
set_option linter.unusedVariables false
set_option linter.unusedSimpArgs false
set_option maxRecDepth 100000
set_option maxHeartbeats 16000000
namespace Go.Proofs.YtclgigmgbebhgaaGreatDoor
open Tryz
open Go Go.Proofs Go.RowKit Go.Maps Go.WideMaps Go.ChangeMaps
variable {m:Int} {B3 Bm:Nat} {W:World}
def kF(S:List (Int×Nat)):List (Value×Value):=S.map λp=>(.int .i64 p.1,.int .i64 p.2)
theorem yP{S:List (Int×Nat)}(h:∀p∈S,0<p.1/\p.1<=1000000):∀p∈kF S,∃l,keyOf prog 3 p.1=some l:=λp hp=>by
 obtain⟨q,A,rfl⟩:=ah.1 hp;have:=h q A;exact Pg _ jO
theorem rA {B:Nat}{S:List (Int×Nat)} {n:Nat}(h:ZB W B (kF S))(hk:∀p∈S,0<p.1/\p.1<=1000000)(hn:(S.map (·.1)).Nodup)(hm:(m,n)∈S):(Instr.lookup 140 (.map (some B)) (.int .i64 m) false).run prog W=.ok (.int .i64 n) W:=
 Xu underlying140 Wi h (yP hk) (Pg _ (by have:=hk _ hm;dsimp only at this;omega)) (ah.2 ⟨_,hm,rfl⟩) (by unfold kF;rw[afa];refine(afa.1 hn).imp (λ{a b} A e=> ?_);injection e with _ e;exact A e)
theorem kE {B:Nat}{S:List (Int×Nat)} {n:Nat}(h:ZB W B (kF S))(hk:∀p∈S,0<p.1/\p.1<=1000000)(hr:0<m/\m<=1000000)(hm:m∉S.map (·.1)):∃W',(Instr.mapUpdate 140 (.map (some B)) (.int .i64 m) (.int .i64 n)).run prog W=.ok () W'/\ZB W' B (kF (S++[(m,n)]))/\W.grownBy W' (some B):=by
 obtain⟨W',C,A,D⟩:=Vq underlying140 Wi h (yP hk) (Pg m jO) (λp hp e=>by obtain⟨q,I,rfl⟩:=ah.1 hp;injection e with _ e;exact hm (e▸ah.2 ⟨q,I,rfl⟩)) (.int .i64 n)
 exact⟨W',C,by unfold kF at A ⊢;rw[adb];exact A,D⟩
theorem Kz{l:List Z9}(h:∀x∈l,JD x)(n:Nat):∀p∈Zb l n,0<p.1/\p.1<=1000000:=λp hp=>by
 refine IP h p.1 ?_;rw[<-WC l n];exact ah.2 ⟨p,hp,rfl⟩
def s0(x:Z9):Sx:=⟨x,Zz x.code,0,0,false,0,false⟩
theorem cr(l:List Z9):(Z6 l).map s0=Yu l 0 (λ_=>false) (λ_=>false) (λ_=>0):=by
 apply agb;intro m;rw[Xw,ada];cases (Z6 l)[m]? <;>rfl
theorem cn{l:List Z9}{n Bn:Nat} (w:World)(hn:n<=1000000)(D:Z8 w Bn 3 #[.int .i64 n])(J:Z8 w B3 140 #[.map (some Bm)])(hm:ZB w Bm (kF (Zb l 0)))(I:∀x∈l,JD x)(hF:ZT l)(ht:m≠0->m∈marks l):
 Calls prog 180 #[.int .i64 m,.pointer (some ⟨Bn,0,none⟩),.pointer (some ⟨B3,0,none⟩)] w λe w'=>e=.returned (.int .i64 (target l n m:Int))/\w=w':=by
 have c1:=cell1 D;have Y:=cell1 J;have hw:=jW n;by_cases C:m=0;·subst C;have ht:target l n 0=n+1:=aH rfl;rw[ht];clear D J hm I hF;go_enter func180,ntmps180;go_wp2_with fail;go_ret;exact⟨rfl,rfl⟩
 ·have U:=rA hm (Kz I 0) (by rw[WC];exact VB hF) (wh (ht C));have A:target l n m=place l m:=aN C;have hz:(m == 0)=false:=by rw[af];exact C
  rw[A];obtain⟨P,T⟩:=jX (place l m);rw[T] at U ⊢;clear D J hm I hF A T ht;go_enter func180,ntmps180;go_wp2_with fail;go_ret;exact⟨rfl,rfl⟩
structure Xf(LO B3 Bm:Nat)(w W:World)(S:List (Int×Nat))(v:Value)(n:Nat)(ss:List Sx):Prop where
 Zs:Below LO w W
 bx:Z8 W B3 140 #[.map (some Bm)]
 mp:ZB W Bm (kF S)
 own:W.ownsRow LO Tr 11 v n (ss.flatMap Y5)
 lo:LO<=w.heap.size/\LO<=Bm
section
variable {LO B3 Bm:Nat} {w W W':World} {S:List (Int×Nat)} {v:Value} {n:Nat} {ss:List Sx}
theorem Xf.bl(h:Xf LO B3 Bm w W S v n ss)(hb:Below W.heap.size W W'):Xf LO B3 Bm w W' S v n ss:=
 ⟨h.Zs.trans (hb.mono (aO h.lo.1 h.Zs.size)),h.bx.below hb h.bx.lt,h.mp.below hb h.mp.lt,ZF h.own hb,h.lo⟩
theorem Xf.alloc(h:Xf LO B3 Bm w W S v n ss)(o:Obj):Xf LO B3 Bm w (W.alloc o) S v n ss:=h.bl ((aG _ W).alloc (aP _) o)
theorem Xf.map{S':List (Int×Nat)}(h:Xf LO B3 Bm w W S v n ss)(A:W.grownBy W' (some Bm))(hm:ZB W' Bm (kF S')):Xf LO B3 Bm w W' S' v n ss:=
 ⟨h.Zs.grown A (aO h.lo.1 h.Zs.size) (λk e=>by have:=au e;have:=h.lo.2;omega),h.bx.kept A (λe=>Wd h.bx h.mp (au e)),hm,by
   refine h.own.kept A ?_;rcases h.own.2 with⟨rfl,_⟩|⟨g,c,C,rfl,_,hb,_⟩;·exact .inl rfl
   ·exact .inr (λe=>Wd (show Z8 W g Tr C from hb) h.mp (au e)),h.lo⟩
theorem Xf.grow{v':Value}{n':Nat}{ss':List Sx}(h:Xf LO B3 Bm w W S v n ss)(A:W.grownBy W' v.ownBlock)(ho:W'.ownsRow LO Tr 11 v' n' (ss'.flatMap Y5)):Xf LO B3 Bm w W' S v' n' ss':=
 ⟨h.Zs.grown A (aO h.lo.1 h.Zs.size) (λk e=>(h.own.lt k e).1),Zg h.own A h.bx jD,h.mp.kept A (λe=>by
   rcases h.own.2 with⟨rfl,_⟩|⟨g,c,C,rfl,_,hb,_⟩
   ·cases e
   ·exact Wd (show Z8 W g Tr C from hb) h.mp (au e).symm),ho,h.lo⟩
end
theorem rz(w:World):Calls prog 181 #[.int .i64 14] w λe w'=>e=.returned (.bool true)/\w=w':=by
 go_enter func181,ntmps181;go_wp2_with fail;go_ret;exact⟨rfl,rfl⟩
theorem yO{k:Nat}(A:k≠14)(C:k≠15)(w:World):Calls prog 181 #[.int .i64 k] w λe w'=>e=.returned (.bool false)/\w=w':=by
 have e1:((k:Int) == 14)=false:=by rw[af];omega
 have e2:((k:Int) == 15)=false:=by rw[af];omega
 go_enter func181,ntmps181;go_wp2_with fail;go_ret;exact⟨rfl,rfl⟩
theorem Xf.cj{LO:Nat}{w:World}{S:List (Int×Nat)}{g c K:Nat}{ss:List Sx}(h:Xf LO B3 Bm w W S (.slice (some ⟨g,0,none⟩) K c) K ss){d:Nat}{s:Sx}(hs:ss[d]? =some s)(y z:Int):
 Xf LO B3 Bm w ((W.setCell ⟨g,d*11+6,none⟩ (.int .i64 y)).setCell ⟨g,d*11+7,none⟩ (.int .i64 z)) S (.slice (some ⟨g,0,none⟩) K c) K (ss.set d {s with yes:=y,no:=z}):=by
 have hd:=(aq.1 hs).1;obtain⟨C,J⟩:=Vw (f:=Y5) (k:=11) (λ_=>rfl) h.own (i:=d) (j:=6) (x:=s) (x':={s with yes:=y}) (u:=.int .i64 y) hs jD rfl;have A:=h.grow (ss':=ss.set d {s with yes:=y}) J C;obtain⟨I,T⟩:=Vw (f:=Y5) (k:=11) (λ_=>rfl) A.own (i:=d) (j:=7) (u:=.int .i64 z) (x:={s with yes:=y}) (x':={s with yes:=y,no:=z}) (by rw[List.getElem?_set,aH rfl,aH hd]) jD rfl;have D:=A.grow (ss':=(ss.set d {s with yes:=y}).set d {s with yes:=y,no:=z}) T I;rwa [List.set_set] at D
theorem Ng{l:List Z9}{d:Nat}{x:Z9}(hx:(Z6 l)[d]? =some x){y z:Int}(hy:Oi l d x=y)(hz:BH l d x=z)(ZV far:Nat->Bool)(at_:Nat->Nat):
 (Yu l d ZV far at_).set d {Zp l d ZV far at_ d x with yes:=y,no:=z}=Yu l (d+1) ZV far at_:=by
 rw[Tq (l:=l) (d:=d) (d':=d+1) (BG:=ZV) (KA:=far) (at':=at_) hx (λn x hn=>by
  unfold Zp;by_cases h:n<d;·rw[aH h,aH h,aH (show n<d+1 from jO),aH (show n<d+1 from jO)]
  ·rw[aN h,aN h,aN (show ¬n<d+1 from jO),aN (show ¬n<d+1 from jO)])]
 congr 1
 unfold Zp;rw[aH (amg d),aH (amg d),hy,hz]
theorem Oh{l:List Z9}{d:Nat}{x:Z9}(h:(Z6 l)[d]? =some x):x∈l/\x.mark=0:=by
 have:=ag h;unfold Z6 at this;obtain⟨C,A⟩:=apg.1 this;exact⟨C,by simpa using A⟩
theorem kD{l:List Z9}(hF:ZT l){d:Nat}{x:Z9}(h:(Z6 l)[d]? =some x):(x.t≠0->x.t∈marks l)/\(x.f≠0->x.f∈marks l):=by
 obtain⟨p,r,e,hx,_⟩:=Oj l d x h;obtain⟨C,A⟩:=ZT.here p (e▸hF) hx;have hm:∀m,m∈marks r->m∈marks l:=λm hm=>by rw[e,WZ,Y2 hx];exact List.mem_append_right _ hm
 exact⟨λh=>hm _ (C h),λh=>hm _ (A h)⟩
theorem vZ{N:Nat}(l:List Z9)(L K c:Nat)(ad:Option Addr)(hL:l.length=L)(hK:(Z6 l).length=K)(XA:L<=1000000)(hF:ZT l)(hO:∀x∈l,JD x)(w:World)(hm:kJ N w ad l)(hN:N<=w.heap.size):
 Calls prog 110 #[.slice ad L c] w λe w'=>∃v,e=.returned v/\w'.ownsRow w.heap.size Tr 11 v K ((Yu l K (λ_=>false) (λ_=>false) (λ_=>0)).flatMap Y5)/\Below w.heap.size w w':=by
 have JO:= @apb prog;have HL:=aT hL;have HK:=aT hK;have HM:=aT hm;have HF:=aT hF;have HO:=aT hO;have hKL:K<=L:=by rw[<-hK,<-hL];unfold Z6;exact atc _ _
 have mU:Below w.heap.size w ((w.alloc (.map #[] 0)).alloc (.cells #[.map (some w.heap.size)] 140)):=((aG w.heap.size w).alloc (aP _) _).alloc (by rw[ai];omega) _;have I:Hid (Xf w.heap.size (w.heap.size+1) w.heap.size w ((w.alloc (.map #[] 0)).alloc (.cells #[.map (some w.heap.size)] 140)) [] (.slice none 0 0) 0 []):=by refine⟨mU,?_,(ZB.made w).alloc _,Yg _ _ _ _,aP _,aP _⟩;have:=Z8.new (w.alloc (.map #[] 0)) 140 #[.map (some w.heap.size)];rwa [ai] at this
 obtain⟨iS,hi,hz0,hz1,hz2⟩:=ZQ ct;clear hL hK hm hF hO mU;go_enter func110,ntmps110;go_upto_region 4 with fail;generalize (w.alloc (.map #[] 0)).alloc (.cells #[.map (some w.heap.size)] 140)=w1 at*;obtain⟨B3,hB3⟩:=jX (w.heap.size+1);rw[hB3] at I ⊢;clear hB3;go_loopg [4,16] (L+1) (λgg vo iv wr=>∃k n:Nat,k<=L/\L-k<gg/\iv=.int .i64 (k:Int)/\n<=k/\Hid ((Z6 (l.take k)).length=n)/\Hid (Xf w.heap.size B3 w.heap.size w wr (Zb (l.take k) 0) vo n ((Z6 (l.take k)).map s0)));case atStart=>exact⟨0,0,abb _,jO,rfl,aP _,rfl,I⟩
 case round=>
  obtain⟨k,n,hkL,VM,rfl,hnk,Z,I⟩:=hrel;have i0:=jZ k;by_cases hlt:k<L
  ·have Zc:(k:Int)<(L:Int):=by omega
   have iw:=jW k;obtain⟨x,hx⟩:∃x,l[k]? =some x:=⟨_,aM (by rw[HL.out];omega)⟩;obtain⟨g,off,rfl,Va,c0,c1,c2,c3,c4⟩:=HM k x hx;have y0:=ZZ I.Zs hN Va c0;have y1:=ZZ I.Zs hN Va c1;have y2:=ZZ I.Zs hN Va c2;have y3:=ZZ I.Zs hN Va c3;have y4:=ZZ I.Zs hN Va c4;have gK:l.take (k+1)=l.take k++[x]:=by rw[afb,hx];rfl
   have kG:=HO x (ag hx);have hOt:∀x∈l.take k,JD x:=λx hx=>HO x (ald hx)
   have GF:=Kz hOt 0;have HTK:=aT gK;obtain⟨va,vc,rfl⟩:=ZK I.own;have hdr:l=l.take k++x::l.drop (k+1):=by rw[<-drop_cons hx,aoc]
   have gh:=aT hdr;clear c0 c1 c2 c3 c4 hx gK hdr;obtain⟨xm,xc,xk,xt,xf⟩:=x;dsimp only at y0 y1 y2 y3 y4;by_cases T:xm=0
   ·subst T;obtain⟨hc,_⟩:=kG.2 rfl;dsimp only at hc;have HA:=aT (Z8.new wr Wm #[.int .i64 0,.int .u16 xc,.int .u32 xk,.int .i64 xt,.int .i64 xf]);have A:=aT (I.alloc (.cells #[.int .i64 0,.int .u16 xc,.int .u32 xk,.int .i64 xt,.int .i64 xf] Wm));have IM:=aT (V8 hc (wr.alloc (.cells #[.int .i64 0,.int .u16 xc,.int .u32 xk,.int .i64 xt,.int .i64 xf] Wm)));clear kG hOt GF hc I;go_upto_region 6 with fail;generalize wr.alloc (.cells #[.int .i64 0,.int .u16 xc,.int .u32 xk,.int .i64 xt,.int .i64 xf] Wm)=wa at*;generalize wr.heap.size=B1 at*;clear y0 y1 y2 y3 y4;obtain⟨z0,z1⟩:=HA.q2;go_wp2_with fail;refine IM.mono ?_;rintro e w2 ⟨rfl,hb2⟩;have J:=aT (A.bl hb2);have zv:=HA.below hb2 HA.lt;clear z0 z1 IM hb2 HA A;obtain⟨z0,z1,z2,z3,z4⟩:=zv.q5;clear zv;have Pe:w.heap.size<=w2.heap.size:=J.Zs.size;obtain⟨KN,C⟩:=jX (Zz xc);rw[C]
    have HX:Hid (((Z6 (l.take (k+1))).map s0).flatMap Y5=((Z6 (l.take k)).map s0).flatMap Y5++[.int .i64 0,.int .u16 xc,.int .u32 xk,.int .i64 xt,.int .i64 xf,.int .i64 KN,.int .i64 0,.int .i64 0,.bool false,.int .i64 0,.bool false]):=by rw[HTK.out,Yl,adb,aca,YC rfl,<-C];rfl
    have xG:Hid (Zb (l.take (k+1)) 0=Zb (l.take k) 0):=by rw[HTK.out,Rs,Rt rfl];exact ade _
    have cg:Hid ((Z6 (l.take (k+1))).length=n+1):=by rw[HTK.out,Yl,YC rfl,ay,Z.out];rfl
    clear C
    go_wp2_with (first|(refine Great.wpList_buildSliceTo rfl 159 Tr 1 _ rfl _ rfl _ rfl underlying159 #[.int .i64 0,.int .u16 xc,.int .u32 xk,.int .i64 xt,.int .i64 xf,.int .i64 KN,.int .i64 0,.int .i64 0,.bool false,.int .i64 0,.bool false] jK ?_)|(at_builtin;refine aea _ rfl _ _ 159 rfl w.heap.size Tr iS (.agg #[.int .i64 0,.int .u16 0,.int .u32 0,.int .i64 0,.int .i64 0,.int .i64 0,.int .i64 0,.int .i64 0,.bool false,.int .i64 0,.bool false]) 11 80 underlying159 hi hz0 hz1 hz2 rfl jD _ n _ rfl (J.own.alloc _) ⟨w2.heap.size,0,none⟩ 1 1 [.int .i64 0,.int .u16 xc,.int .u32 xk,.int .i64 xt,.int .i64 xf,.int .i64 KN,.int .i64 0,.int .i64 0,.bool false,.int .i64 0,.bool false] rfl ?c1 ?c2 ?c3 ?c4 ?c5 ?c6 ?_;(case c1=>rfl);(case c2=>exact Y1 rfl);(case c3=>intro u hu;simp only[abf,akf,auf] at hu;rcases hu with rfl|rfl|rfl|rfl|rfl|rfl|rfl|rfl|rfl|rfl|rfl<;>rfl);(case c4=>unfold maxLen;omega);(case c5=>omega);(case c6=>simp;omega);intro v' w6 hown' hgrow _;obtain⟨sa,sc,rfl⟩:=ZK hown';have HW:=aT hown';have HG6:=aT (Zi (aeb w2 _ _) hgrow);clear hown' hgrow))
    have cf:Hid (Xf w.heap.size B3 w.heap.size w w6 (Zb (l.take (k+1)) 0) (.slice sa (n+1) sc) (n+1) ((Z6 (l.take (k+1))).map s0)):=by rw[xG.out];exact J.grow HG6 (by rw[HX.out];exact HW)
    clear HW HG6 HX xG J z0 z1 z2 z3 z4 Pe;go_wp2_with fail;go_roundg (L-k);case measure=>omega
    case rel=>exact⟨k+1,n+1,jO,jO,by go_num,jO,cg,cf⟩
   ·obtain⟨he,CU,uj⟩:=kG.1 T;unfold Zr at he;injection he with _ e1 e2 e3 e4;subst e1 e2 e3 e4
    have ry:xm∉(Zb (l.take k) 0).map (·.1):=by rw[WC];have h1:=HF.out;rw[gh.out] at h1;refine ZT.fresh (l.take k) h1 ?_;rw[Zq (show(⟨xm,0,0,0,0⟩:Z9).mark≠0 from T)];exact agd
    have as7:((xm:Int) == 0)=false:=by rw[af];exact T
    have as8:((xm:Int) != 0)=true:=by rw[azf];exact T
    have HA:=aT (Z8.new wr Wm #[.int .i64 xm,.int .u16 0,.int .u32 0,.int .i64 0,.int .i64 0]);have A:=aT (I.alloc (.cells #[.int .i64 xm,.int .u16 0,.int .u32 0,.int .i64 0,.int .i64 0] Wm));obtain⟨w2,u2,m2,g2⟩:=kE (n:=n) A.mp GF ⟨CU,uj⟩ ry;have J:=aT (A.map g2 m2);have c3:=cell1 A.bx;have xG:Hid (Zb (l.take (k+1)) 0=Zb (l.take k) 0++[(xm,n)]):=by rw[HTK.out,Rs,Tp (show(⟨xm,0,0,0,0⟩:Z9).mark≠0 from T),Z.out,adf];rfl
    have cg:Hid (Z6 (l.take (k+1))=Z6 (l.take k)):=by rw[HTK.out,Yl,W9 (show(⟨xm,0,0,0,0⟩:Z9).mark≠0 from T)];exact ade _
    clear kG hOt GF ry I m2 g2;go_upto_region 6 with fail;generalize wr.alloc (.cells #[.int .i64 xm,.int .u16 0,.int .u32 0,.int .i64 0,.int .i64 0] Wm)=wa at*;generalize wr.heap.size=B1 at*;clear y0 y1 y2 y3 y4;have z0:=HA.e0;go_wp2_with fail;go_roundg (L-k);case measure=>omega
    case rel=>exact⟨k+1,n,jO,jO,by go_num,jO,by rw[cg.out];exact Z,by rw[xG.out,cg.out];exact J⟩
  ·obtain rfl:k=L:=by omega
   have Zc:¬(k:Int)<(k:Int):=jO;have gK:l.take k=l:=abd (by rw[HL.out];exact aP _);rw[gK] at Z I;obtain rfl:n=K:=by rw[<-Z.out];exact HK
   clear gK HM;have J:Hid (Xf w.heap.size B3 w.heap.size w wr (Zb l 0) u4 n (Yu l 0 (λ_=>false) (λ_=>false) (λ_=>0))):=by rw[<-cr];exact I
   clear I;obtain⟨va,vc,rfl⟩:=ZK J.own;go_upto_region 12 with fail;go_loopg [44] (n+1) (λgg iv wq=>∃d:Nat,d<=n/\n-d<gg/\iv=.int .i64 (d:Int)/\Hid (Xf w.heap.size B3 w.heap.size w wq (Zb l 0) (.slice va n vc) n (Yu l d (λ_=>false) (λ_=>false) (λ_=>0))));case atStart=>exact⟨0,abb _,jO,rfl,J⟩
   case round=>
    obtain⟨d,hdn,mm,rfl,I⟩:=hrel;clear J;have d0:=jZ d;by_cases Pd:d<n
    ·have Ja:(d:Int)<(n:Int):=by omega
     have iw:=jW d;obtain⟨x,hx⟩:∃x,(Z6 l)[d]? =some x:=⟨_,aM (by rw[Z.out];exact Pd)⟩;have mW:=V6 (d:=d) (ZV:=λ_=>false) (far:=λ_=>false) (at_:=λ_=>0) hx;obtain⟨g,rfl,BM,I9⟩:=Ye Y5 11 (λ_=>rfl) (by rw[V7];exact Z) I.own mW;obtain⟨bZ,T⟩:=Oh hx;obtain⟨htT,htF⟩:=kD HF hx;obtain⟨hc,_⟩:=(HO x bZ).2 T;have HX:=aT hx;have HSX:=aT mW;have hIa:=I.alloc (.cells #[.int .i64 d] 3);have HBn:=aT (Z8.new wr 3 #[.int .i64 d]);have hb:=(aG wr.heap.size wr).alloc (aP _) (.cells #[.int .i64 d] 3);have U:∀j,j<11->(wr.alloc (.cells #[.int .i64 d] 3)).cell? ⟨g,d*11+j,none⟩=(Y5 (Zp l d (λ_=>false) (λ_=>false) (λ_=>0) d x))[j]? :=by obtain⟨g',e1,_,h⟩:=Ye Y5 11 (λ_=>rfl) (by rw[V7];exact Z) hIa.own mW;cases e1;exact h
     have y3:=U 3 jD;have y4:=U 4 jD;have y5:=U 5 jD;have y6:=U 6 jD;have y7:=U 7 jD;unfold Y5 Zp at y3 y4 y5 y6 y7;simp only[aL,aF,asb,if_false] at y3 y4 y5 y6 y7;have f6:=hIa.own.frozenAt (d*11+6);have f7:=hIa.own.frozenAt (d*11+7);have A:=aT hIa;have HT:=aT (And.intro htT htF);clear I9 U bZ T hx mW I hIa hb htT htF;obtain⟨KN,C⟩:=jX (Zz x.code);rw[C] at y5;go_upto_region 14 with fail;generalize wr.alloc (.cells #[.int .i64 d] 3)=wa at*;generalize wr.heap.size=Bn at*;have b0:=cell1 HBn;have ir:∀(fn:Fn) (first cap:Array Value) (w:World),(Instr.makeFunc fn first cap).run prog w=.ok (.func fn first cap) w:=λ_ _ _ _=>rfl
     by_cases h6:x.code=0x06
     ·obtain rfl:KN=14:=by rw[<-C,h6];rfl
      clear C;go_wp2_with fail;refine(rz wa).mono ?_;rintro e w' ⟨rfl,rfl⟩;have D:=A.cj HSX (-1) (-1);rw[Ng HX.out (by unfold Oi;rw[aH h6]) (by unfold BH;rw[h6];rfl)] at D;have Y:=aT D;clear D A HBn;go_wp2_with fail;go_roundg (n-d);case measure=>omega
      case rel=>exact⟨d+1,jO,jO,by go_num,Y⟩
     ·have ah6:KN≠14:=by
       rw[<-C];rcases hc with h|h|h|h|h|h|h|h<;>rw[h]<;>first|decide|exact absurd h h6
      have ah7:KN≠15:=by rw[<-C];rcases hc with h|h|h|h|h|h|h|h<;>rw[h]<;>decide
      have HTO:=aT (λ(m:Int) (h:m≠0->m∈marks l) (W:World) (hW:wa.heap=W.heap)=>cn (n:=d) (m:=m) W jO (show W.heap[Bn]? =_ by rw[<-hW];exact HBn) (show W.heap[B3]? =_ by rw[<-hW];exact A.bx) (by obtain⟨es,c,h1,h2⟩:=A.mp;exact⟨es,c,by rw[<-hW];exact h1,h2⟩) HO HF h);by_cases hbr:YW x.code=true
      ·have bW:(25:Int)<=(KN:Int):=by have:=LH hbr;omega
       have D:=A.cj HSX (target l d x.t:Int) (target l d x.f:Int);rw[Ng HX.out (by unfold Oi;rw[aN h6]) (by unfold BH;rw[aH hbr])] at D;have Y:=aT D;clear D C HBn;go_wp2_with fail;refine(yO ah6 ah7 wa).mono ?_;rintro e w' ⟨rfl,rfl⟩;have hS0:wa.cell? ⟨g,d*11+3,none⟩=some (.int .i64 x.t)/\wa.cell? ⟨g,d*11+4,none⟩=some (.int .i64 x.f):=⟨y3,y4⟩;have hS1:∀u,(wa.setCell ⟨g,d*11+6,none⟩ u).cell? ⟨g,d*11+3,none⟩=some (.int .i64 x.t)/\(wa.setCell ⟨g,d*11+6,none⟩ u).cell? ⟨g,d*11+4,none⟩=some (.int .i64 x.f):=λu=>⟨(agf wa _ _ _ jS).trans y3,(agf wa _ _ _ jS).trans y4⟩
       have il:∀u u2,((wa.setCell ⟨g,d*11+6,none⟩ u).setCell ⟨g,d*11+7,none⟩ u2).cell? ⟨g,d*11+3,none⟩=some (.int .i64 x.t)/\((wa.setCell ⟨g,d*11+6,none⟩ u).setCell ⟨g,d*11+7,none⟩ u2).cell? ⟨g,d*11+4,none⟩=some (.int .i64 x.f):=λu u2=>⟨(agf _ _ _ _ jS).trans (hS1 u).1,(agf _ _ _ _ jS).trans (hS1 u).2⟩
       have Um:=aT hS0;have GQ:=aT hS1;have QN:=aT il;clear hS0 hS1 il;go_upto_region 20 with fail
       go_region_held3 (λw'=>w'.cell? ⟨g,d*11+3,none⟩=some (.int .i64 x.t)/\w'.cell? ⟨g,d*11+4,none⟩=some (.int .i64 x.f)) (first|exact Um|exact GQ _|exact QN _ _) (first
        |(go_at_call 180;refine(HTO _ ?hm wa.drew rfl).mono ?_;(case hm=>first|exact HT.1|exact HT.2);rintro e w' ⟨rfl,rfl⟩))
       have cA:Hid (Xf w.heap.size B3 w.heap.size w ((wa.setCell ⟨g,d*11+6,none⟩ (.int .i64 (target l d x.t:Int))).setCell ⟨g,d*11+7,none⟩ (.int .i64 (target l d x.f:Int))).drew (Zb l 0) (.slice (some ⟨g,0,none⟩) n vc) n (Yu l (d+1) (λ_=>false) (λ_=>false) (λ_=>0))):=⟨Y.Zs.drew,Y.bx,Y.mp,Y.own.drew,Y.lo⟩;go_wp2_with fail;go_roundg (n-d);case measure=>omega
       case rel=>exact⟨d+1,jO,jO,by go_num,cA⟩
      ·have bW:¬(25:Int)<=(KN:Int):=by have:=LG hc (by simpa using hbr);omega
       have D:=A.cj HSX (target l d x.t:Int) (-1);rw[Ng HX.out (by unfold Oi;rw[aN h6]) (by unfold BH;rw[aN hbr])] at D;have Y:=aT D;clear D C HBn;go_wp2_with fail;refine(yO ah6 ah7 wa).mono ?_;rintro e w' ⟨rfl,rfl⟩;go_wp2_with fail;refine(HTO x.t HT.1 wa rfl).mono ?_;rintro e w' ⟨rfl,rfl⟩;go_wp2_with fail;go_roundg (n-d);case measure=>omega
       case rel=>exact⟨d+1,jO,jO,by go_num,Y⟩
    ·obtain rfl:d=n:=by omega
     have Ja:¬(d:Int)<(d:Int):=jO;go_wp2_with fail;go_ret;exact⟨_,rfl,by rw[HK.out] at Z;exact I.own,I.Zs⟩
end Go.Proofs.YtclgigmgbebhgaaGreatDoor
