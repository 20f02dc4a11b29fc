/- TopOther: part 16: TopStepW. -/
import Derived.Test.YtclgigmgbebhgaaGreatDoorO15
set_option linter.unusedVariables false
set_option linter.unusedSimpArgs false
set_option maxRecDepth 100000
set_option maxHeartbeats 16000000
namespace Go.Proofs.YtclgigmgbebhgaaGreatDoor
open Tryz
open Go Go.Proofs Go.RowKit Go.Maps Go.WideMaps Go.ChangeMaps
variable {m:Int} {B3 Bm:Nat} {W:World}
def ke(S:List (Int×Nat)):List (Value×Value):=S.map λp=>(.int .i64 p.1,.int .i64 p.2)
theorem yB{S:List (Int×Nat)}(h:∀p∈S,0<p.1/\p.1<=1000000):∀p∈ke S,∃l,keyOf prog 3 p.1=some l:=λp hp=>by
 obtain⟨q,A,rfl⟩:=ai.1 hp;have:=h q A;exact Pd _ jO
theorem qQ {B:Nat}{S:List (Int×Nat)} {n:Nat}(h:ZB W B (ke S))(hk:∀p∈S,0<p.1/\p.1<=1000000)(hn:(S.map (·.1)).Nodup)(hm:(m,n)∈S):(Instr.lookup 140 (.map (some B)) (.int .i64 m) false).run prog W=.ok (.int .i64 n) W:=
 Xu underlying140 Wh h (yB hk) (Pd _ (by have:=hk _ hm;dsimp only at this;omega)) (ai.2 ⟨_,hm,rfl⟩) (by unfold ke;rw[aeg];refine(aeg.1 hn).imp (λ{a b} A e=> ?_);injection e with _ e;exact A e)
theorem j9 {B:Nat}{S:List (Int×Nat)} {n:Nat}(h:ZB W B (ke S))(hk:∀p∈S,0<p.1/\p.1<=1000000)(hr:0<m/\m<=1000000)(hm:m∉S.map (·.1)):∃W',(Instr.mapUpdate 140 (.map (some B)) (.int .i64 m) (.int .i64 n)).run prog W=.ok () W'/\ZB W' B (ke (S++[(m,n)]))/\W.grownBy W' (some B):=by
 obtain⟨W',C,A,I⟩:=Vq underlying140 Wh h (yB hk) (Pd m jO) (λp hp e=>by obtain⟨q,D,rfl⟩:=ai.1 hp;injection e with _ e;exact hm (e▸ai.2 ⟨q,D,rfl⟩)) (.int .i64 n)
 exact⟨W',C,by unfold ke at A ⊢;rw[acf];exact A,I⟩
theorem Kg{l:List Z9}(h:∀x∈l,Jl x)(n:Nat):∀p∈Zb l n,0<p.1/\p.1<=1000000:=λp hp=>by
 refine Ii h p.1 ?_;rw[<-Wy l n];exact ai.2 ⟨p,hp,rfl⟩
def s0(x:Z9):Sy:=⟨x,Zz x.code,0,0,false,0,false⟩
theorem bn(l:List Z9):(Z6 l).map s0=Yw l 0 (λ_=>false) (λ_=>false) (λ_=>0):=by
 apply agd;intro m;rw[Xw,ada];cases (Z6 l)[m]? <;>rfl
theorem bm{l:List Z9}{n Bn:Nat} (w:World)(hn:n<=1000000)(D:Z7 w Bn 3 #[.int .i64 n])(I:Z7 w B3 140 #[.map (some Bm)])(hm:ZB w Bm (ke (Zb l 0)))(J:∀x∈l,Jl x)(hF:ZR l)(ht:m≠0->m∈marks l):
 Calls prog 180 #[.int .i64 m,.pointer (some ⟨Bn,0,none⟩),.pointer (some ⟨B3,0,none⟩)] w λe w'=>e=.returned (.int .i64 (target l n m:Int))/\w=w':=by
 have c1:=cell1 D;have Y:=cell1 I;have hw:=jW n;by_cases C:m=0;·subst C;have ht:target l n 0=n+1:=aG rfl;rw[ht];clear D I hm J hF;go_enter func180,ntmps180;go_wp2_with fail;go_ret;exact⟨rfl,rfl⟩
 ·have U:=qQ hm (Kg J 0) (by rw[Wy];exact VB hF) (vL (ht C));have A:target l n m=place l m:=aN C;have hz:(m == 0)=false:=by rw[ae];exact C
  rw[A];obtain⟨P,T⟩:=jX (place l m);rw[T] at U ⊢;clear D I hm J hF A T ht;go_enter func180,ntmps180;go_wp2_with fail;go_ret;exact⟨rfl,rfl⟩
structure Xc(LO B3 Bm:Nat)(w W:World)(S:List (Int×Nat))(v:Value)(n:Nat)(ss:List Sy):Prop where
 Zs:Below LO w W
 bx:Z7 W B3 140 #[.map (some Bm)]
 mp:ZB W Bm (ke S)
 own:W.ownsRow LO Tq 11 v n (ss.flatMap Y5)
 lo:LO<=w.heap.size/\LO<=Bm
section
variable {LO B3 Bm:Nat} {w W W':World} {S:List (Int×Nat)} {v:Value} {n:Nat} {ss:List Sy}
theorem Xc.bl(h:Xc LO B3 Bm w W S v n ss)(hb:Below W.heap.size W W'):Xc LO B3 Bm w W' S v n ss:=
 ⟨h.Zs.trans (hb.mono (aO h.lo.1 h.Zs.size)),h.bx.below hb h.bx.lt,h.mp.below hb h.mp.lt,ZE h.own hb,h.lo⟩
theorem Xc.alloc(h:Xc LO B3 Bm w W S v n ss)(o:Obj):Xc LO B3 Bm w (W.alloc o) S v n ss:=h.bl ((aH _ W).alloc (aR _) o)
theorem Xc.map{S':List (Int×Nat)}(h:Xc LO B3 Bm w W S v n ss)(A:W.grownBy W' (some Bm))(hm:ZB W' Bm (ke S')):Xc LO B3 Bm w W' S' v n ss:=
 ⟨h.Zs.grown A (aO h.lo.1 h.Zs.size) (λk e=>by have:=ax e;have:=h.lo.2;omega),h.bx.kept A (λe=>Wc h.bx h.mp (ax e)),hm,by
   refine h.own.kept A ?_;rcases h.own.2 with⟨rfl,_⟩|⟨g,c,C,rfl,_,hb,_⟩;·exact .inl rfl
   ·exact .inr (λe=>Wc (show Z7 W g Tq C from hb) h.mp (ax e)),h.lo⟩
theorem Xc.grow{v':Value}{n':Nat}{ss':List Sy}(h:Xc LO B3 Bm w W S v n ss)(A:W.grownBy W' v.ownBlock)(ho:W'.ownsRow LO Tq 11 v' n' (ss'.flatMap Y5)):Xc LO B3 Bm w W' S v' n' ss':=
 ⟨h.Zs.grown A (aO h.lo.1 h.Zs.size) (λk e=>(h.own.lt k e).1),Zf h.own A h.bx jD,h.mp.kept A (λe=>by
   rcases h.own.2 with⟨rfl,_⟩|⟨g,c,C,rfl,_,hb,_⟩
   ·cases e
   ·exact Wc (show Z7 W g Tq C from hb) h.mp (ax e).symm),ho,h.lo⟩
end
theorem qP(w:World):Calls prog 181 #[.int .i64 14] w λe w'=>e=.returned (.bool true)/\w=w':=by
 go_enter func181,ntmps181;go_wp2_with fail;go_ret;exact⟨rfl,rfl⟩
theorem yA{k:Nat}(A:k≠14)(C:k≠15)(w:World):Calls prog 181 #[.int .i64 k] w λe w'=>e=.returned (.bool false)/\w=w':=by
 have e1:((k:Int) == 14)=false:=by rw[ae];omega
 have e2:((k:Int) == 15)=false:=by rw[ae];omega
 go_enter func181,ntmps181;go_wp2_with fail;go_ret;exact⟨rfl,rfl⟩
theorem Xc.bj{LO:Nat}{w:World}{S:List (Int×Nat)}{g c K:Nat}{ss:List Sy}(h:Xc LO B3 Bm w W S (.slice (some ⟨g,0,none⟩) K c) K ss){d:Nat}{s:Sy}(hs:ss[d]? =some s)(y z:Int):
 Xc LO B3 Bm w ((W.setCell ⟨g,d*11+6,none⟩ (.int .i64 y)).setCell ⟨g,d*11+7,none⟩ (.int .i64 z)) S (.slice (some ⟨g,0,none⟩) K c) K (ss.set d {s with yes:=y,no:=z}):=by
 have hd:=(au.1 hs).1;obtain⟨D,C⟩:=Vw (f:=Y5) (k:=11) (λ_=>rfl) h.own (i:=d) (j:=6) (x:=s) (x':={s with yes:=y}) (u:=.int .i64 y) hs jD rfl;have A:=h.grow (ss':=ss.set d {s with yes:=y}) C D;obtain⟨I,J⟩:=Vw (f:=Y5) (k:=11) (λ_=>rfl) A.own (i:=d) (j:=7) (u:=.int .i64 z) (x:={s with yes:=y}) (x':={s with yes:=y,no:=z}) (by rw[List.getElem?_set,aG rfl,aG hd]) jD rfl;have T:=A.grow (ss':=(ss.set d {s with yes:=y}).set d {s with yes:=y,no:=z}) J I;rwa [List.set_set] at T
theorem M6{l:List Z9}{d:Nat}{x:Z9}(hx:(Z6 l)[d]? =some x){y z:Int}(hy:Oa l d x=y)(hz:AU l d x=z)(ZU far:Nat->Bool)(at_:Nat->Nat):
 (Yw l d ZU far at_).set d {Zp l d ZU far at_ d x with yes:=y,no:=z}=Yw l (d+1) ZU far at_:=by
 rw[Tp (l:=l) (d:=d) (d':=d+1) (AR:=ZU) (Kh:=far) (at':=at_) hx (λn x hn=>by
  unfold Zp;by_cases h:n<d;·rw[aG h,aG h,aG (show n<d+1 from jO),aG (show n<d+1 from jO)]
  ·rw[aN h,aN h,aN (show ¬n<d+1 from jO),aN (show ¬n<d+1 from jO)])]
 congr 1
 unfold Zp;rw[aG (amg d),aG (amg d),hy,hz]
theorem N9{l:List Z9}{d:Nat}{x:Z9}(h:(Z6 l)[d]? =some x):x∈l/\x.mark=0:=by
 have:=af h;unfold Z6 at this;obtain⟨A,C⟩:=aqa.1 this;exact⟨A,by simpa using C⟩
theorem j8{l:List Z9}(hF:ZR l){d:Nat}{x:Z9}(h:(Z6 l)[d]? =some x):(x.t≠0->x.t∈marks l)/\(x.f≠0->x.f∈marks l):=by
 obtain⟨p,r,e,hx,_⟩:=Ob l d x h;obtain⟨A,C⟩:=ZR.here p (e▸hF) hx;have hm:∀m,m∈marks r->m∈marks l:=λm hm=>by rw[e,WS,Y2 hx];exact List.mem_append_right _ hm
 exact⟨λh=>hm _ (A h),λh=>hm _ (C h)⟩
theorem vK{N:Nat}(l:List Z9)(L K c:Nat)(ad:Option Addr)(hL:l.length=L)(hK:(Z6 l).length=K)(Xl:L<=1000000)(hF:ZR l)(hO:∀x∈l,Jl x)(w:World)(hm:kj N w ad l)(hN:N<=w.heap.size):
 Calls prog 110 #[.slice ad L c] w λe w'=>∃v,e=.returned v/\w'.ownsRow w.heap.size Tq 11 v K ((Yw l K (λ_=>false) (λ_=>false) (λ_=>0)).flatMap Y5)/\Below w.heap.size w w':=by
 have Jw:= @apc prog;have HL:=aT hL;have HK:=aT hK;have HM:=aT hm;have HF:=aT hF;have HO:=aT hO;have hKL:K<=L:=by rw[<-hK,<-hL];unfold Z6;exact ate _ _
 have Cl:Below w.heap.size w ((w.alloc (.map #[] 0)).alloc (.cells #[.map (some w.heap.size)] 140)):=((aH w.heap.size w).alloc (aR _) _).alloc (by rw[ah];omega) _;have I:Hid (Xc w.heap.size (w.heap.size+1) w.heap.size w ((w.alloc (.map #[] 0)).alloc (.cells #[.map (some w.heap.size)] 140)) [] (.slice none 0 0) 0 []):=by refine⟨Cl,?_,(ZB.made w).alloc _,Yg _ _ _ _,aR _,aR _⟩;have:=Z7.new (w.alloc (.map #[] 0)) 140 #[.map (some w.heap.size)];rwa [ah] at this
 obtain⟨iS,hi,hz0,hz1,hz2⟩:=ZP bq;clear hL hK hm hF hO Cl;go_enter func110,ntmps110;go_upto_region 4 with fail;generalize (w.alloc (.map #[] 0)).alloc (.cells #[.map (some w.heap.size)] 140)=w1 at*;obtain⟨B3,hB3⟩:=jX (w.heap.size+1);rw[hB3] at I ⊢;clear hB3;go_loopg [4,16] (L+1) (λgg vo iv wr=>∃k n:Nat,k<=L/\L-k<gg/\iv=.int .i64 (k:Int)/\n<=k/\Hid ((Z6 (l.take k)).length=n)/\Hid (Xc w.heap.size B3 w.heap.size w wr (Zb (l.take k) 0) vo n ((Z6 (l.take k)).map s0)));case atStart=>exact⟨0,0,abc _,jO,rfl,aR _,rfl,I⟩
 case round=>
  obtain⟨k,n,hkL,VP,rfl,hnk,Y,I⟩:=hrel;have i0:=jZ k;by_cases hlt:k<L
  ·have Y8:(k:Int)<(L:Int):=by omega
   have iw:=jW k;obtain⟨x,hx⟩:∃x,l[k]? =some x:=⟨_,aM (by rw[HL.out];omega)⟩;obtain⟨g,off,rfl,U7,c0,c1,c2,c3,c4⟩:=HM k x hx;have y0:=ZY I.Zs hN U7 c0;have y1:=ZY I.Zs hN U7 c1;have y2:=ZY I.Zs hN U7 c2;have y3:=ZY I.Zs hN U7 c3;have y4:=ZY I.Zs hN U7 c4;have fM:l.take (k+1)=l.take k++[x]:=by rw[afb,hx];rfl
   have kf:=HO x (af hx);have hOt:∀x∈l.take k,Jl x:=λx hx=>HO x (alc hx)
   have Gd:=Kg hOt 0;have HTK:=aT fM;obtain⟨va,vc,rfl⟩:=ZI I.own;have hdr:l=l.take k++x::l.drop (k+1):=by rw[<-drop_cons hx,aod]
   have fA:=aT hdr;clear c0 c1 c2 c3 c4 hx fM hdr;obtain⟨xm,xc,xk,xt,xf⟩:=x;dsimp only at y0 y1 y2 y3 y4;by_cases T:xm=0
   ·subst T;obtain⟨hc,_⟩:=kf.2 rfl;dsimp only at hc;have HA:=aT (Z7.new wr Wk #[.int .i64 0,.int .u16 xc,.int .u32 xk,.int .i64 xt,.int .i64 xf]);have A:=aT (I.alloc (.cells #[.int .i64 0,.int .u16 xc,.int .u32 xk,.int .i64 xt,.int .i64 xf] Wk));have Ig:=aT (V7 hc (wr.alloc (.cells #[.int .i64 0,.int .u16 xc,.int .u32 xk,.int .i64 xt,.int .i64 xf] Wk)));clear kf hOt Gd hc I;go_upto_region 6 with fail;generalize wr.alloc (.cells #[.int .i64 0,.int .u16 xc,.int .u32 xk,.int .i64 xt,.int .i64 xf] Wk)=wa at*;generalize wr.heap.size=B1 at*;clear y0 y1 y2 y3 y4;obtain⟨z0,z1⟩:=HA.q2;go_wp2_with fail;refine Ig.mono ?_;rintro e w2 ⟨rfl,hb2⟩;have J:=aT (A.bl hb2);have sM:=HA.below hb2 HA.lt;clear z0 z1 Ig hb2 HA A;obtain⟨z0,z1,z2,z3,z4⟩:=sM.q5;clear sM;have Pa:w.heap.size<=w2.heap.size:=J.Zs.size;obtain⟨KN,D⟩:=jX (Zz xc);rw[D]
    have HX:Hid (((Z6 (l.take (k+1))).map s0).flatMap Y5=((Z6 (l.take k)).map s0).flatMap Y5++[.int .i64 0,.int .u16 xc,.int .u32 xk,.int .i64 xt,.int .i64 xf,.int .i64 KN,.int .i64 0,.int .i64 0,.bool false,.int .i64 0,.bool false]):=by rw[HTK.out,Yn,acf,acb,YD rfl,<-D];rfl
    have xd:Hid (Zb (l.take (k+1)) 0=Zb (l.take k) 0):=by rw[HTK.out,Rs,Rt rfl];exact ade _
    have yz:Hid ((Z6 (l.take (k+1))).length=n+1):=by rw[HTK.out,Yn,YD rfl,ay,Y.out];rfl
    clear D
    go_wp2_with (first|(refine Great.wpList_buildSliceTo rfl 159 Tq 1 _ rfl _ rfl _ rfl underlying159 #[.int .i64 0,.int .u16 xc,.int .u32 xk,.int .i64 xt,.int .i64 xf,.int .i64 KN,.int .i64 0,.int .i64 0,.bool false,.int .i64 0,.bool false] jK ?_)|(at_builtin;refine adg _ rfl _ _ 159 rfl w.heap.size Tq iS (.agg #[.int .i64 0,.int .u16 0,.int .u32 0,.int .i64 0,.int .i64 0,.int .i64 0,.int .i64 0,.int .i64 0,.bool false,.int .i64 0,.bool false]) 11 80 underlying159 hi hz0 hz1 hz2 rfl jD _ n _ rfl (J.own.alloc _) ⟨w2.heap.size,0,none⟩ 1 1 [.int .i64 0,.int .u16 xc,.int .u32 xk,.int .i64 xt,.int .i64 xf,.int .i64 KN,.int .i64 0,.int .i64 0,.bool false,.int .i64 0,.bool false] rfl ?c1 ?c2 ?c3 ?c4 ?c5 ?c6 ?_;(case c1=>rfl);(case c2=>exact Y1 rfl);(case c3=>intro u hu;simp only[abf,ajf,atg] at hu;rcases hu with rfl|rfl|rfl|rfl|rfl|rfl|rfl|rfl|rfl|rfl|rfl<;>rfl);(case c4=>unfold maxLen;omega);(case c5=>omega);(case c6=>simp;omega);intro v' w6 hown' hgrow _;obtain⟨sa,sc,rfl⟩:=ZI hown';have HW:=aT hown';have HG6:=aT (Zj (aea w2 _ _) hgrow);clear hown' hgrow))
    have bh:Hid (Xc w.heap.size B3 w.heap.size w w6 (Zb (l.take (k+1)) 0) (.slice sa (n+1) sc) (n+1) ((Z6 (l.take (k+1))).map s0)):=by rw[xd.out];exact J.grow HG6 (by rw[HX.out];exact HW)
    clear HW HG6 HX xd J z0 z1 z2 z3 z4 Pa;go_wp2_with fail;go_roundg (L-k);case measure=>omega
    case rel=>exact⟨k+1,n+1,jO,jO,by go_num,jO,yz,bh⟩
   ·obtain⟨he,Cj,tQ⟩:=kf.1 T;unfold Zr at he;injection he with _ e1 e2 e3 e4;subst e1 e2 e3 e4
    have M7:xm∉(Zb (l.take k) 0).map (·.1):=by rw[Wy];have h1:=HF.out;rw[fA.out] at h1;refine ZR.fresh (l.take k) h1 ?_;rw[Zq (show(⟨xm,0,0,0,0⟩:Z9).mark≠0 from T)];exact agf
    have ax3:((xm:Int) == 0)=false:=by rw[ae];exact T
    have ax4:((xm:Int) != 0)=true:=by rw[aze];exact T
    have HA:=aT (Z7.new wr Wk #[.int .i64 xm,.int .u16 0,.int .u32 0,.int .i64 0,.int .i64 0]);have A:=aT (I.alloc (.cells #[.int .i64 xm,.int .u16 0,.int .u32 0,.int .i64 0,.int .i64 0] Wk));obtain⟨w2,u2,m2,g2⟩:=j9 (n:=n) A.mp Gd ⟨Cj,tQ⟩ M7;have J:=aT (A.map g2 m2);have c3:=cell1 A.bx;have xd:Hid (Zb (l.take (k+1)) 0=Zb (l.take k) 0++[(xm,n)]):=by rw[HTK.out,Rs,Tn (show(⟨xm,0,0,0,0⟩:Z9).mark≠0 from T),Y.out,aca];rfl
    have yz:Hid (Z6 (l.take (k+1))=Z6 (l.take k)):=by rw[HTK.out,Yn,WZ (show(⟨xm,0,0,0,0⟩:Z9).mark≠0 from T)];exact ade _
    clear kf hOt Gd M7 I m2 g2;go_upto_region 6 with fail;generalize wr.alloc (.cells #[.int .i64 xm,.int .u16 0,.int .u32 0,.int .i64 0,.int .i64 0] Wk)=wa at*;generalize wr.heap.size=B1 at*;clear y0 y1 y2 y3 y4;have z0:=HA.e0;go_wp2_with fail;go_roundg (L-k);case measure=>omega
    case rel=>exact⟨k+1,n,jO,jO,by go_num,jO,by rw[yz.out];exact Y,by rw[xd.out,yz.out];exact J⟩
  ·obtain rfl:k=L:=by omega
   have Y8:¬(k:Int)<(k:Int):=jO;have fM:l.take k=l:=abd (by rw[HL.out];exact aR _);rw[fM] at Y I;obtain rfl:n=K:=by rw[<-Y.out];exact HK
   clear fM HM;have J:Hid (Xc w.heap.size B3 w.heap.size w wr (Zb l 0) u4 n (Yw l 0 (λ_=>false) (λ_=>false) (λ_=>0))):=by rw[<-bn];exact I
   clear I;obtain⟨va,vc,rfl⟩:=ZI J.own;go_upto_region 12 with fail;go_loopg [44] (n+1) (λgg iv wq=>∃d:Nat,d<=n/\n-d<gg/\iv=.int .i64 (d:Int)/\Hid (Xc w.heap.size B3 w.heap.size w wq (Zb l 0) (.slice va n vc) n (Yw l d (λ_=>false) (λ_=>false) (λ_=>0))));case atStart=>exact⟨0,abc _,jO,rfl,J⟩
   case round=>
    obtain⟨d,hdn,lS,rfl,I⟩:=hrel;clear J;have d0:=jZ d;by_cases RQ:d<n
    ·have II:(d:Int)<(n:Int):=by omega
     have iw:=jW d;obtain⟨x,hx⟩:∃x,(Z6 l)[d]? =some x:=⟨_,aM (by rw[Y.out];exact RQ)⟩;have mK:=V5 (d:=d) (ZU:=λ_=>false) (far:=λ_=>false) (at_:=λ_=>0) hx;obtain⟨g,rfl,AY,IG⟩:=Ye Y5 11 (λ_=>rfl) (by rw[V6];exact Y) I.own mK;obtain⟨j7,T⟩:=N9 hx;obtain⟨htT,htF⟩:=j8 HF hx;obtain⟨hc,_⟩:=(HO x j7).2 T;have HX:=aT hx;have HSX:=aT mK;have hIa:=I.alloc (.cells #[.int .i64 d] 3);have HBn:=aT (Z7.new wr 3 #[.int .i64 d]);have hb:=(aH wr.heap.size wr).alloc (aR _) (.cells #[.int .i64 d] 3);have U:∀j,j<11->(wr.alloc (.cells #[.int .i64 d] 3)).cell? ⟨g,d*11+j,none⟩=(Y5 (Zp l d (λ_=>false) (λ_=>false) (λ_=>0) d x))[j]? :=by obtain⟨g',e1,_,h⟩:=Ye Y5 11 (λ_=>rfl) (by rw[V6];exact Y) hIa.own mK;cases e1;exact h
     have y3:=U 3 jD;have y4:=U 4 jD;have y5:=U 5 jD;have y6:=U 6 jD;have y7:=U 7 jD;unfold Y5 Zp at y3 y4 y5 y6 y7;simp only[aL,aF,asc,if_false] at y3 y4 y5 y6 y7;have f6:=hIa.own.frozenAt (d*11+6);have f7:=hIa.own.frozenAt (d*11+7);have A:=aT hIa;have HT:=aT (And.intro htT htF);clear IG U j7 T hx mK I hIa hb htT htF;obtain⟨KN,D⟩:=jX (Zz x.code);rw[D] at y5;go_upto_region 14 with fail;generalize wr.alloc (.cells #[.int .i64 d] 3)=wa at*;generalize wr.heap.size=Bn at*;have b0:=cell1 HBn;have gF:∀(fn:Fn) (first cap:Array Value) (w:World),(Instr.makeFunc fn first cap).run prog w=.ok (.func fn first cap) w:=λ_ _ _ _=>rfl
     by_cases h6:x.code=0x06
     ·obtain rfl:KN=14:=by rw[<-D,h6];rfl
      clear D;go_wp2_with fail;refine(qP wa).mono ?_;rintro e w' ⟨rfl,rfl⟩;have C:=A.bj HSX (-1) (-1);rw[M6 HX.out (by unfold Oa;rw[aG h6]) (by unfold AU;rw[h6];rfl)] at C;have Z:=aT C;clear C A HBn;go_wp2_with fail;go_roundg (n-d);case measure=>omega
      case rel=>exact⟨d+1,jO,jO,by go_num,Z⟩
     ·have ak0:KN≠14:=by
       rw[<-D];rcases hc with h|h|h|h|h|h|h|h<;>rw[h]<;>first|decide|exact absurd h h6
      have ak1:KN≠15:=by rw[<-D];rcases hc with h|h|h|h|h|h|h|h<;>rw[h]<;>decide
      have HTO:=aT (λ(m:Int) (h:m≠0->m∈marks l) (W:World) (hW:wa.heap=W.heap)=>bm (n:=d) (m:=m) W jO (show W.heap[Bn]? =_ by rw[<-hW];exact HBn) (show W.heap[B3]? =_ by rw[<-hW];exact A.bx) (by obtain⟨es,c,h1,h2⟩:=A.mp;exact⟨es,c,by rw[<-hW];exact h1,h2⟩) HO HF h);by_cases hbr:YV x.code=true
      ·have bg:(25:Int)<=(KN:Int):=by have:=Ln hbr;omega
       have C:=A.bj HSX (target l d x.t:Int) (target l d x.f:Int);rw[M6 HX.out (by unfold Oa;rw[aN h6]) (by unfold AU;rw[aG hbr])] at C;have Z:=aT C;clear C D HBn;go_wp2_with fail;refine(yA ak0 ak1 wa).mono ?_;rintro e w' ⟨rfl,rfl⟩;have hS0:wa.cell? ⟨g,d*11+3,none⟩=some (.int .i64 x.t)/\wa.cell? ⟨g,d*11+4,none⟩=some (.int .i64 x.f):=⟨y3,y4⟩;have hS1:∀u,(wa.setCell ⟨g,d*11+6,none⟩ u).cell? ⟨g,d*11+3,none⟩=some (.int .i64 x.t)/\(wa.setCell ⟨g,d*11+6,none⟩ u).cell? ⟨g,d*11+4,none⟩=some (.int .i64 x.f):=λu=>⟨(ahb wa _ _ _ jS).trans y3,(ahb wa _ _ _ jS).trans y4⟩
       have gw:∀u u2,((wa.setCell ⟨g,d*11+6,none⟩ u).setCell ⟨g,d*11+7,none⟩ u2).cell? ⟨g,d*11+3,none⟩=some (.int .i64 x.t)/\((wa.setCell ⟨g,d*11+6,none⟩ u).setCell ⟨g,d*11+7,none⟩ u2).cell? ⟨g,d*11+4,none⟩=some (.int .i64 x.f):=λu u2=>⟨(ahb _ _ _ _ jS).trans (hS1 u).1,(ahb _ _ _ _ jS).trans (hS1 u).2⟩
       have Uj:=aT hS0;have Nt:=aT hS1;have TZ:=aT gw;clear hS0 hS1 gw;go_upto_region 20 with fail
       go_region_held3 (λw'=>w'.cell? ⟨g,d*11+3,none⟩=some (.int .i64 x.t)/\w'.cell? ⟨g,d*11+4,none⟩=some (.int .i64 x.f)) (first|exact Uj|exact Nt _|exact TZ _ _) (first
        |(go_at_call 180;refine(HTO _ ?hm wa.drew rfl).mono ?_;(case hm=>first|exact HT.1|exact HT.2);rintro e w' ⟨rfl,rfl⟩))
       have bB:Hid (Xc w.heap.size B3 w.heap.size w ((wa.setCell ⟨g,d*11+6,none⟩ (.int .i64 (target l d x.t:Int))).setCell ⟨g,d*11+7,none⟩ (.int .i64 (target l d x.f:Int))).drew (Zb l 0) (.slice (some ⟨g,0,none⟩) n vc) n (Yw l (d+1) (λ_=>false) (λ_=>false) (λ_=>0))):=⟨Z.Zs.drew,Z.bx,Z.mp,Z.own.drew,Z.lo⟩;go_wp2_with fail;go_roundg (n-d);case measure=>omega
       case rel=>exact⟨d+1,jO,jO,by go_num,bB⟩
      ·have bg:¬(25:Int)<=(KN:Int):=by have:=Lm hc (by simpa using hbr);omega
       have C:=A.bj HSX (target l d x.t:Int) (-1);rw[M6 HX.out (by unfold Oa;rw[aN h6]) (by unfold AU;rw[aN hbr])] at C;have Z:=aT C;clear C D HBn;go_wp2_with fail;refine(yA ak0 ak1 wa).mono ?_;rintro e w' ⟨rfl,rfl⟩;go_wp2_with fail;refine(HTO x.t HT.1 wa rfl).mono ?_;rintro e w' ⟨rfl,rfl⟩;go_wp2_with fail;go_roundg (n-d);case measure=>omega
       case rel=>exact⟨d+1,jO,jO,by go_num,Z⟩
    ·obtain rfl:d=n:=by omega
     have II:¬(d:Int)<(d:Int):=jO;go_wp2_with fail;go_ret;exact⟨_,rfl,by rw[HK.out] at Y;exact I.own,I.Zs⟩
end Go.Proofs.YtclgigmgbebhgaaGreatDoor
