/- TopFirst: part 16: TopStepW. -/
import Derived.Test.YtclgigmgbebhgaaGreatDoorF15
set_option linter.unusedVariables false
set_option linter.unusedSimpArgs false
set_option maxRecDepth 100000
set_option maxHeartbeats 16000000
namespace Go.Proofs.YtclgigmgbebhgaaGreatDoor
open Tryz
open Go Go.Proofs Go.RowKit Go.Maps Go.WideMaps Go.ChangeMaps
variable {m:Int} {B3 Bm:Nat} {W:World}
def kv(S:List (Int×Nat)):List (Value×Value):=S.map λp=>(.int .i64 p.1,.int .i64 p.2)
theorem yC{S:List (Int×Nat)}(h:∀p∈S,0<p.1/\p.1<=1000000):∀p∈kv S,∃l,keyOf prog 3 p.1=some l:=λp hp=>by
 obtain⟨q,C,rfl⟩:=ah.1 hp;have:=h q C;exact O1 _ jO
theorem qF {B:Nat}{S:List (Int×Nat)} {n:Nat}(h:Zz W B (kv S))(hk:∀p∈S,0<p.1/\p.1<=1000000)(hn:(S.map (·.1)).Nodup)(hm:(m,n)∈S):(Instr.lookup 140 (.map (some B)) (.int .i64 m) false).run prog W=.ok (.int .i64 n) W:=
 Xq underlying140 V7 h (yC hk) (O1 _ (by have:=hk _ hm;dsimp only at this;omega)) (ah.2 ⟨_,hm,rfl⟩) (by unfold kv;rw[afa];refine(afa.1 hn).imp (λ{a b} C e=> ?_);injection e with _ e;exact C e)
theorem ku {B:Nat}{S:List (Int×Nat)} {n:Nat}(h:Zz W B (kv S))(hk:∀p∈S,0<p.1/\p.1<=1000000)(hr:0<m/\m<=1000000)(hm:m∉S.map (·.1)):∃W',(Instr.mapUpdate 140 (.map (some B)) (.int .i64 m) (.int .i64 n)).run prog W=.ok () W'/\Zz W' B (kv (S++[(m,n)]))/\W.grownBy W' (some B):=by
 obtain⟨W',I,C,D⟩:=Vd underlying140 V7 h (yC hk) (O1 m jO) (λp hp e=>by obtain⟨q,J,rfl⟩:=ah.1 hp;injection e with _ e;exact hm (e▸ah.2 ⟨q,J,rfl⟩)) (.int .i64 n)
 exact⟨W',I,by unfold kv at C ⊢;rw[ada];exact C,D⟩
theorem J7{l:List Z9}(h:∀x∈l,I6 x)(n:Nat):∀p∈Y4 l n,0<p.1/\p.1<=1000000:=λp hp=>by
 refine Hz h p.1 ?_;rw[<-Wt l n];exact ah.2 ⟨p,hp,rfl⟩
def s0(x:Z9):R9:=⟨x,Zx x.code,0,0,false,0,false⟩
theorem bJ(l:List Z9):(Z6 l).map s0=Yo l 0 (λ_=>false) (λ_=>false) (λ_=>0):=by
 apply agb;intro m;rw[Xt,acd];cases (Z6 l)[m]? <;>rfl
theorem bI{l:List Z9}{n Bn:Nat} (w:World)(hn:n<=1000000)(J:Z7 w Bn 3 #[.int .i64 n])(I:Z7 w B3 140 #[.map (some Bm)])(hm:Zz w Bm (kv (Y4 l 0)))(T:∀x∈l,I6 x)(hF:ZR l)(ht:m≠0->m∈marks l):
 Calls prog 180 #[.int .i64 m,.pointer (some ⟨Bn,0,none⟩),.pointer (some ⟨B3,0,none⟩)] w λe w'=>e=.returned (.int .i64 (target l n m:Int))/\w=w':=by
 have c1:=cell1 J;have Z:=cell1 I;have hw:=jW n;by_cases D:m=0;·subst D;have ht:target l n 0=n+1:=aF rfl;rw[ht];clear J I hm T hF;go_enter func180,ntmps180;go_wp2_with fail;go_ret;exact⟨rfl,rfl⟩
 ·have Y:=qF hm (J7 T 0) (by rw[Wt];exact Vp hF) (vD (ht D));have C:target l n m=place l m:=aN D;have hz:(m == 0)=false:=by rw[af];exact D
  rw[C];obtain⟨P,U⟩:=jX (place l m);rw[U] at Y ⊢;clear J I hm T hF C U ht;go_enter func180,ntmps180;go_wp2_with fail;go_ret;exact⟨rfl,rfl⟩
structure W8(LO B3 Bm:Nat)(w W:World)(S:List (Int×Nat))(v:Value)(n:Nat)(ss:List R9):Prop where
 Zr:Below LO w W
 bx:Z7 W B3 140 #[.map (some Bm)]
 mp:Zz W Bm (kv S)
 own:W.ownsRow LO S8 11 v n (ss.flatMap Y0)
 lo:LO<=w.heap.size/\LO<=Bm
section
variable {LO B3 Bm:Nat} {w W W':World} {S:List (Int×Nat)} {v:Value} {n:Nat} {ss:List R9}
theorem W8.bl(h:W8 LO B3 Bm w W S v n ss)(hb:Below W.heap.size W W'):W8 LO B3 Bm w W' S v n ss:=
 ⟨h.Zr.trans (hb.mono (aO h.lo.1 h.Zr.size)),h.bx.below hb h.bx.lt,h.mp.below hb h.mp.lt,ZC h.own hb,h.lo⟩
theorem W8.alloc(h:W8 LO B3 Bm w W S v n ss)(o:Obj):W8 LO B3 Bm w (W.alloc o) S v n ss:=h.bl ((aG _ W).alloc (aR _) o)
theorem W8.map{S':List (Int×Nat)}(h:W8 LO B3 Bm w W S v n ss)(C:W.grownBy W' (some Bm))(hm:Zz W' Bm (kv S')):W8 LO B3 Bm w W' S' v n ss:=
 ⟨h.Zr.grown C (aO h.lo.1 h.Zr.size) (λk e=>by have:=aq e;have:=h.lo.2;omega),h.bx.kept C (λe=>V4 h.bx h.mp (aq e)),hm,by
   refine h.own.kept C ?_;rcases h.own.2 with⟨rfl,_⟩|⟨g,c,D,rfl,_,hb,_⟩;·exact .inl rfl
   ·exact .inr (λe=>V4 (show Z7 W g S8 D from hb) h.mp (aq e)),h.lo⟩
theorem W8.grow{v':Value}{n':Nat}{ss':List R9}(h:W8 LO B3 Bm w W S v n ss)(C:W.grownBy W' v.ownBlock)(ho:W'.ownsRow LO S8 11 v' n' (ss'.flatMap Y0)):W8 LO B3 Bm w W' S v' n' ss':=
 ⟨h.Zr.grown C (aO h.lo.1 h.Zr.size) (λk e=>(h.own.lt k e).1),Zc h.own C h.bx jD,h.mp.kept C (λe=>by
   rcases h.own.2 with⟨rfl,_⟩|⟨g,c,D,rfl,_,hb,_⟩
   ·cases e
   ·exact V4 (show Z7 W g S8 D from hb) h.mp (aq e).symm),ho,h.lo⟩
end
theorem qE(w:World):Calls prog 181 #[.int .i64 14] w λe w'=>e=.returned (.bool true)/\w=w':=by
 go_enter func181,ntmps181;go_wp2_with fail;go_ret;exact⟨rfl,rfl⟩
theorem yB{k:Nat}(C:k≠14)(D:k≠15)(w:World):Calls prog 181 #[.int .i64 k] w λe w'=>e=.returned (.bool false)/\w=w':=by
 have e1:((k:Int) == 14)=false:=by rw[af];omega
 have e2:((k:Int) == 15)=false:=by rw[af];omega
 go_enter func181,ntmps181;go_wp2_with fail;go_ret;exact⟨rfl,rfl⟩
theorem W8.bH{LO:Nat}{w:World}{S:List (Int×Nat)}{g c K:Nat}{ss:List R9}(h:W8 LO B3 Bm w W S (.slice (some ⟨g,0,none⟩) K c) K ss){d:Nat}{s:R9}(hs:ss[d]? =some s)(y z:Int):
 W8 LO B3 Bm w ((W.setCell ⟨g,d*11+6,none⟩ (.int .i64 y)).setCell ⟨g,d*11+7,none⟩ (.int .i64 z)) S (.slice (some ⟨g,0,none⟩) K c) K (ss.set d {s with yes:=y,no:=z}):=by
 have hd:=(ak.1 hs).1;obtain⟨I,J⟩:=Vj (f:=Y0) (k:=11) (λ_=>rfl) h.own (i:=d) (j:=6) (x:=s) (x':={s with yes:=y}) (u:=.int .i64 y) hs jD rfl;have C:=h.grow (ss':=ss.set d {s with yes:=y}) J I;obtain⟨U,T⟩:=Vj (f:=Y0) (k:=11) (λ_=>rfl) C.own (i:=d) (j:=7) (u:=.int .i64 z) (x:={s with yes:=y}) (x':={s with yes:=y,no:=z}) (by rw[List.getElem?_set,aF rfl,aF hd]) jD rfl;have D:=C.grow (ss':=(ss.set d {s with yes:=y}).set d {s with yes:=y,no:=z}) T U;rwa [List.set_set] at D
theorem MT{l:List Z9}{d:Nat}{x:Z9}(hx:(Z6 l)[d]? =some x){y z:Int}(hy:NW l d x=y)(hz:AW l d x=z)(ZU far:Nat->Bool)(at_:Nat->Nat):
 (Yo l d ZU far at_).set d {Zn l d ZU far at_ d x with yes:=y,no:=z}=Yo l (d+1) ZU far at_:=by
 rw[S7 (l:=l) (d:=d) (d':=d+1) (AV:=ZU) (J8:=far) (at':=at_) hx (λn x hn=>by
  unfold Zn;by_cases h:n<d;·rw[aF h,aF h,aF (show n<d+1 from jO),aF (show n<d+1 from jO)]
  ·rw[aN h,aN h,aN (show ¬n<d+1 from jO),aN (show ¬n<d+1 from jO)])]
 congr 1
 unfold Zn;rw[aF (amd d),aF (amd d),hy,hz]
theorem NV{l:List Z9}{d:Nat}{x:Z9}(h:(Z6 l)[d]? =some x):x∈l/\x.mark=0:=by
 have:=ag h;unfold Z6 at this;obtain⟨C,D⟩:=ape.1 this;exact⟨C,by simpa using D⟩
theorem kt{l:List Z9}(hF:ZR l){d:Nat}{x:Z9}(h:(Z6 l)[d]? =some x):(x.t≠0->x.t∈marks l)/\(x.f≠0->x.f∈marks l):=by
 obtain⟨p,r,e,hx,_⟩:=NX l d x h;obtain⟨D,C⟩:=ZR.here p (e▸hF) hx;have hm:∀m,m∈marks r->m∈marks l:=λm hm=>by rw[e,WQ,YY hx];exact List.mem_append_right _ hm
 exact⟨λh=>hm _ (D h),λh=>hm _ (C h)⟩
theorem vC{N:Nat}(l:List Z9)(L K c:Nat)(ad:Option Addr)(hL:l.length=L)(hK:(Z6 l).length=K)(Xo:L<=1000000)(hF:ZR l)(hO:∀x∈l,I6 x)(w:World)(hm:kA N w ad l)(hN:N<=w.heap.size):
 Calls prog 110 #[.slice ad L c] w λe w'=>∃v,e=.returned v/\w'.ownsRow w.heap.size S8 11 v K ((Yo l K (λ_=>false) (λ_=>false) (λ_=>0)).flatMap Y0)/\Below w.heap.size w w':=by
 have Jj:= @aog prog;have HL:=aT hL;have HK:=aT hK;have HM:=aT hm;have HF:=aT hF;have HO:=aT hO;have hKL:K<=L:=by rw[<-hK,<-hL];unfold Z6;exact atc _ _
 have Cn:Below w.heap.size w ((w.alloc (.map #[] 0)).alloc (.cells #[.map (some w.heap.size)] 140)):=((aG w.heap.size w).alloc (aR _) _).alloc (by rw[aj];omega) _;have J:Hid (W8 w.heap.size (w.heap.size+1) w.heap.size w ((w.alloc (.map #[] 0)).alloc (.cells #[.map (some w.heap.size)] 140)) [] (.slice none 0 0) 0 []):=by refine⟨Cn,?_,(Zz.made w).alloc _,Ya _ _ _ _,aR _,aR _⟩;have:=Z7.new (w.alloc (.map #[] 0)) 140 #[.map (some w.heap.size)];rwa [aj] at this
 obtain⟨iS,hi,hz0,hz1,hz2⟩:=ZP bK;clear hL hK hm hF hO Cn;go_enter func110,ntmps110;go_upto_region 4 with fail;generalize (w.alloc (.map #[] 0)).alloc (.cells #[.map (some w.heap.size)] 140)=w1 at*;obtain⟨B3,hB3⟩:=jX (w.heap.size+1);rw[hB3] at J ⊢;clear hB3;go_loopg [4,16] (L+1) (λgg vo iv wr=>∃k n:Nat,k<=L/\L-k<gg/\iv=.int .i64 (k:Int)/\n<=k/\Hid ((Z6 (l.take k)).length=n)/\Hid (W8 w.heap.size B3 w.heap.size w wr (Y4 (l.take k) 0) vo n ((Z6 (l.take k)).map s0)));case atStart=>exact⟨0,0,abd _,jO,rfl,aR _,rfl,J⟩
 case round=>
  obtain⟨k,n,hkL,Vs,rfl,hnk,Z,J⟩:=hrel;have i0:=jZ k;by_cases hlt:k<L
  ·have Zd:(k:Int)<(L:Int):=by omega
   have iw:=jW k;obtain⟨x,hx⟩:∃x,l[k]? =some x:=⟨_,aL (by rw[HL.out];omega)⟩;obtain⟨g,off,rfl,UW,c0,c1,c2,c3,c4⟩:=HM k x hx;have y0:=ZY J.Zr hN UW c0;have y1:=ZY J.Zr hN UW c1;have y2:=ZY J.Zr hN UW c2;have y3:=ZY J.Zr hN UW c3;have y4:=ZY J.Zr hN UW c4;have gl:l.take (k+1)=l.take k++[x]:=by rw[afd,hx];rfl
   have kx:=HO x (ag hx);have hOt:∀x∈l.take k,I6 x:=λx hx=>HO x (ald hx)
   have F9:=J7 hOt 0;have HTK:=aT gl;obtain⟨va,vc,rfl⟩:=ZI J.own;have hdr:l=l.take k++x::l.drop (k+1):=by rw[<-drop_cons hx,aoa]
   have fQ:=aT hdr;clear c0 c1 c2 c3 c4 hx gl hdr;obtain⟨xm,xc,xk,xt,xf⟩:=x;dsimp only at y0 y1 y2 y3 y4;by_cases T:xm=0
   ·subst T;obtain⟨hc,_⟩:=kx.2 rfl;dsimp only at hc;have HA:=aT (Z7.new wr Wc #[.int .i64 0,.int .u16 xc,.int .u32 xk,.int .i64 xt,.int .i64 xf]);have C:=aT (J.alloc (.cells #[.int .i64 0,.int .u16 xc,.int .u32 xk,.int .i64 xt,.int .i64 xf] Wc));have Hw:=aT (V1 hc (wr.alloc (.cells #[.int .i64 0,.int .u16 xc,.int .u32 xk,.int .i64 xt,.int .i64 xf] Wc)));clear kx hOt F9 hc J;go_upto_region 6 with fail;generalize wr.alloc (.cells #[.int .i64 0,.int .u16 xc,.int .u32 xk,.int .i64 xt,.int .i64 xf] Wc)=wa at*;generalize wr.heap.size=B1 at*;clear y0 y1 y2 y3 y4;obtain⟨z0,z1⟩:=HA.q2;go_wp2_with fail;refine Hw.mono ?_;rintro e w2 ⟨rfl,hb2⟩;have U:=aT (C.bl hb2);have sx:=HA.below hb2 HA.lt;clear z0 z1 Hw hb2 HA C;obtain⟨z0,z1,z2,z3,z4⟩:=sx.q5;clear sx;have OZ:w.heap.size<=w2.heap.size:=U.Zr.size;obtain⟨KN,I⟩:=jX (Zx xc);rw[I]
    have HX:Hid (((Z6 (l.take (k+1))).map s0).flatMap Y0=((Z6 (l.take k)).map s0).flatMap Y0++[.int .i64 0,.int .u16 xc,.int .u32 xk,.int .i64 xt,.int .i64 xf,.int .i64 KN,.int .i64 0,.int .i64 0,.bool false,.int .i64 0,.bool false]):=by rw[HTK.out,Yg,ada,aca,Yw rfl,<-I];rfl
    have xh:Hid (Y4 (l.take (k+1)) 0=Y4 (l.take k) 0):=by rw[HTK.out,Q3,Q4 rfl];exact adb _
    have bE:Hid ((Z6 (l.take (k+1))).length=n+1):=by rw[HTK.out,Yg,Yw rfl,ay,Z.out];rfl
    clear I
    go_wp2_with (first|(refine Great.wpList_buildSliceTo rfl 159 S8 1 _ rfl _ rfl _ rfl underlying159 #[.int .i64 0,.int .u16 xc,.int .u32 xk,.int .i64 xt,.int .i64 xf,.int .i64 KN,.int .i64 0,.int .i64 0,.bool false,.int .i64 0,.bool false] jK ?_)|(at_builtin;refine aea _ rfl _ _ 159 rfl w.heap.size S8 iS (.agg #[.int .i64 0,.int .u16 0,.int .u32 0,.int .i64 0,.int .i64 0,.int .i64 0,.int .i64 0,.int .i64 0,.bool false,.int .i64 0,.bool false]) 11 80 underlying159 hi hz0 hz1 hz2 rfl jD _ n _ rfl (U.own.alloc _) ⟨w2.heap.size,0,none⟩ 1 1 [.int .i64 0,.int .u16 xc,.int .u32 xk,.int .i64 xt,.int .i64 xf,.int .i64 KN,.int .i64 0,.int .i64 0,.bool false,.int .i64 0,.bool false] rfl ?c1 ?c2 ?c3 ?c4 ?c5 ?c6 ?_;(case c1=>rfl);(case c2=>exact YX rfl);(case c3=>intro u hu;simp only[abb,ahd,arc] at hu;rcases hu with rfl|rfl|rfl|rfl|rfl|rfl|rfl|rfl|rfl|rfl|rfl<;>rfl);(case c4=>unfold maxLen;omega);(case c5=>omega);(case c6=>simp;omega);intro v' w6 hown' hgrow _;obtain⟨sa,sc,rfl⟩:=ZI hown';have HW:=aT hown';have HG6:=aT (Zf (aeb w2 _ _) hgrow);clear hown' hgrow))
    have bD:Hid (W8 w.heap.size B3 w.heap.size w w6 (Y4 (l.take (k+1)) 0) (.slice sa (n+1) sc) (n+1) ((Z6 (l.take (k+1))).map s0)):=by rw[xh.out];exact U.grow HG6 (by rw[HX.out];exact HW)
    clear HW HG6 HX xh U z0 z1 z2 z3 z4 OZ;go_wp2_with fail;go_roundg (L-k);case measure=>omega
    case rel=>exact⟨k+1,n+1,jO,jO,by go_num,jO,bE,bD⟩
   ·obtain⟨he,Fo,tJ⟩:=kx.1 T;unfold Zq at he;injection he with _ e1 e2 e3 e4;subst e1 e2 e3 e4
    have MU:xm∉(Y4 (l.take k) 0).map (·.1):=by rw[Wt];have h1:=HF.out;rw[fQ.out] at h1;refine ZR.fresh (l.take k) h1 ?_;rw[Zp (show(⟨xm,0,0,0,0⟩:Z9).mark≠0 from T)];exact agd
    have ax3:((xm:Int) == 0)=false:=by rw[af];exact T
    have ax4:((xm:Int) != 0)=true:=by rw[aze];exact T
    have HA:=aT (Z7.new wr Wc #[.int .i64 xm,.int .u16 0,.int .u32 0,.int .i64 0,.int .i64 0]);have C:=aT (J.alloc (.cells #[.int .i64 xm,.int .u16 0,.int .u32 0,.int .i64 0,.int .i64 0] Wc));obtain⟨w2,u2,m2,g2⟩:=ku (n:=n) C.mp F9 ⟨Fo,tJ⟩ MU;have U:=aT (C.map g2 m2);have c3:=cell1 C.bx;have xh:Hid (Y4 (l.take (k+1)) 0=Y4 (l.take k) 0++[(xm,n)]):=by rw[HTK.out,Q3,S6 (show(⟨xm,0,0,0,0⟩:Z9).mark≠0 from T),Z.out,ade];rfl
    have bE:Hid (Z6 (l.take (k+1))=Z6 (l.take k)):=by rw[HTK.out,Yg,WX (show(⟨xm,0,0,0,0⟩:Z9).mark≠0 from T)];exact adb _
    clear kx hOt F9 MU J m2 g2;go_upto_region 6 with fail;generalize wr.alloc (.cells #[.int .i64 xm,.int .u16 0,.int .u32 0,.int .i64 0,.int .i64 0] Wc)=wa at*;generalize wr.heap.size=B1 at*;clear y0 y1 y2 y3 y4;have z0:=HA.e0;go_wp2_with fail;go_roundg (L-k);case measure=>omega
    case rel=>exact⟨k+1,n,jO,jO,by go_num,jO,by rw[bE.out];exact Z,by rw[xh.out,bE.out];exact U⟩
  ·obtain rfl:k=L:=by omega
   have Zd:¬(k:Int)<(k:Int):=jO;have gl:l.take k=l:=abe (by rw[HL.out];exact aR _);rw[gl] at Z J;obtain rfl:n=K:=by rw[<-Z.out];exact HK
   clear gl HM;have U:Hid (W8 w.heap.size B3 w.heap.size w wr (Y4 l 0) u4 n (Yo l 0 (λ_=>false) (λ_=>false) (λ_=>0))):=by rw[<-bJ];exact J
   clear J;obtain⟨va,vc,rfl⟩:=ZI U.own;go_upto_region 12 with fail;go_loopg [44] (n+1) (λgg iv wq=>∃d:Nat,d<=n/\n-d<gg/\iv=.int .i64 (d:Int)/\Hid (W8 w.heap.size B3 w.heap.size w wq (Y4 l 0) (.slice va n vc) n (Yo l d (λ_=>false) (λ_=>false) (λ_=>0))));case atStart=>exact⟨0,abd _,jO,rfl,U⟩
   case round=>
    obtain⟨d,hdn,mj,rfl,J⟩:=hrel;clear U;have d0:=jZ d;by_cases Ro:d<n
    ·have Ir:(d:Int)<(n:Int):=by omega
     have iw:=jW d;obtain⟨x,hx⟩:∃x,(Z6 l)[d]? =some x:=⟨_,aL (by rw[Z.out];exact Ro)⟩;have mU:=VZ (d:=d) (ZU:=λ_=>false) (far:=λ_=>false) (at_:=λ_=>0) hx;obtain⟨g,rfl,Jd,Ny⟩:=X9 Y0 11 (λ_=>rfl) (by rw[V0];exact Z) J.own mU;obtain⟨bC,T⟩:=NV hx;obtain⟨htT,htF⟩:=kt HF hx;obtain⟨hc,_⟩:=(HO x bC).2 T;have HX:=aT hx;have HSX:=aT mU;have hIa:=J.alloc (.cells #[.int .i64 d] 3);have HBn:=aT (Z7.new wr 3 #[.int .i64 d]);have hb:=(aG wr.heap.size wr).alloc (aR _) (.cells #[.int .i64 d] 3);have Y:∀j,j<11->(wr.alloc (.cells #[.int .i64 d] 3)).cell? ⟨g,d*11+j,none⟩=(Y0 (Zn l d (λ_=>false) (λ_=>false) (λ_=>0) d x))[j]? :=by obtain⟨g',e1,_,h⟩:=X9 Y0 11 (λ_=>rfl) (by rw[V0];exact Z) hIa.own mU;cases e1;exact h
     have y3:=Y 3 jD;have y4:=Y 4 jD;have y5:=Y 5 jD;have y6:=Y 6 jD;have y7:=Y 7 jD;unfold Y0 Zn at y3 y4 y5 y6 y7;simp only[aM,aH,asa,if_false] at y3 y4 y5 y6 y7;have f6:=hIa.own.frozenAt (d*11+6);have f7:=hIa.own.frozenAt (d*11+7);have C:=aT hIa;have HT:=aT (And.intro htT htF);clear Ny Y bC T hx mU J hIa hb htT htF;obtain⟨KN,I⟩:=jX (Zx x.code);rw[I] at y5;go_upto_region 14 with fail;generalize wr.alloc (.cells #[.int .i64 d] 3)=wa at*;generalize wr.heap.size=Bn at*;have b0:=cell1 HBn;have gZ:∀(fn:Fn) (first cap:Array Value) (w:World),(Instr.makeFunc fn first cap).run prog w=.ok (.func fn first cap) w:=λ_ _ _ _=>rfl
     by_cases h6:x.code=0x06
     ·obtain rfl:KN=14:=by rw[<-I,h6];rfl
      clear I;go_wp2_with fail;refine(qE wa).mono ?_;rintro e w' ⟨rfl,rfl⟩;have D:=C.bH HSX (-1) (-1);rw[MT HX.out (by unfold NW;rw[aF h6]) (by unfold AW;rw[h6];rfl)] at D;have HST:=aT D;clear D C HBn;go_wp2_with fail;go_roundg (n-d);case measure=>omega
      case rel=>exact⟨d+1,jO,jO,by go_num,HST⟩
     ·have aj9:KN≠14:=by
       rw[<-I];rcases hc with h|h|h|h|h|h|h|h<;>rw[h]<;>first|decide|exact absurd h h6
      have ak0:KN≠15:=by rw[<-I];rcases hc with h|h|h|h|h|h|h|h<;>rw[h]<;>decide
      have HTO:=aT (λ(m:Int) (h:m≠0->m∈marks l) (W:World) (hW:wa.heap=W.heap)=>bI (n:=d) (m:=m) W jO (show W.heap[Bn]? =_ by rw[<-hW];exact HBn) (show W.heap[B3]? =_ by rw[<-hW];exact C.bx) (by obtain⟨es,c,h1,h2⟩:=C.mp;exact⟨es,c,by rw[<-hW];exact h1,h2⟩) HO HF h);by_cases hbr:YS x.code=true
      ·have F8:(25:Int)<=(KN:Int):=by have:=Ld hbr;omega
       have D:=C.bH HSX (target l d x.t:Int) (target l d x.f:Int);rw[MT HX.out (by unfold NW;rw[aN h6]) (by unfold AW;rw[aF hbr])] at D;have HST:=aT D;clear D I HBn;go_wp2_with fail;refine(yB aj9 ak0 wa).mono ?_;rintro e w' ⟨rfl,rfl⟩;have hS0:wa.cell? ⟨g,d*11+3,none⟩=some (.int .i64 x.t)/\wa.cell? ⟨g,d*11+4,none⟩=some (.int .i64 x.f):=⟨y3,y4⟩;have hS1:∀u,(wa.setCell ⟨g,d*11+6,none⟩ u).cell? ⟨g,d*11+3,none⟩=some (.int .i64 x.t)/\(wa.setCell ⟨g,d*11+6,none⟩ u).cell? ⟨g,d*11+4,none⟩=some (.int .i64 x.f):=λu=>⟨(agf wa _ _ _ jS).trans y3,(agf wa _ _ _ jS).trans y4⟩
       have gV:∀u u2,((wa.setCell ⟨g,d*11+6,none⟩ u).setCell ⟨g,d*11+7,none⟩ u2).cell? ⟨g,d*11+3,none⟩=some (.int .i64 x.t)/\((wa.setCell ⟨g,d*11+6,none⟩ u).setCell ⟨g,d*11+7,none⟩ u2).cell? ⟨g,d*11+4,none⟩=some (.int .i64 x.f):=λu u2=>⟨(agf _ _ _ _ jS).trans (hS1 u).1,(agf _ _ _ _ jS).trans (hS1 u).2⟩
       have UB:=aT hS0;have Jn:=aT hS1;have Qw:=aT gV;clear hS0 hS1 gV;go_upto_region 20 with fail
       go_region_held3 (λw'=>w'.cell? ⟨g,d*11+3,none⟩=some (.int .i64 x.t)/\w'.cell? ⟨g,d*11+4,none⟩=some (.int .i64 x.f)) (first|exact UB|exact Jn _|exact Qw _ _) (first
        |(go_at_call 180;refine(HTO _ ?hm wa.drew rfl).mono ?_;(case hm=>first|exact HT.1|exact HT.2);rintro e w' ⟨rfl,rfl⟩))
       have bO:Hid (W8 w.heap.size B3 w.heap.size w ((wa.setCell ⟨g,d*11+6,none⟩ (.int .i64 (target l d x.t:Int))).setCell ⟨g,d*11+7,none⟩ (.int .i64 (target l d x.f:Int))).drew (Y4 l 0) (.slice (some ⟨g,0,none⟩) n vc) n (Yo l (d+1) (λ_=>false) (λ_=>false) (λ_=>0))):=⟨HST.Zr.drew,HST.bx,HST.mp,HST.own.drew,HST.lo⟩;go_wp2_with fail;go_roundg (n-d);case measure=>omega
       case rel=>exact⟨d+1,jO,jO,by go_num,bO⟩
      ·have F8:¬(25:Int)<=(KN:Int):=by have:=Lc hc (by simpa using hbr);omega
       have D:=C.bH HSX (target l d x.t:Int) (-1);rw[MT HX.out (by unfold NW;rw[aN h6]) (by unfold AW;rw[aN hbr])] at D;have HST:=aT D;clear D I HBn;go_wp2_with fail;refine(yB aj9 ak0 wa).mono ?_;rintro e w' ⟨rfl,rfl⟩;go_wp2_with fail;refine(HTO x.t HT.1 wa rfl).mono ?_;rintro e w' ⟨rfl,rfl⟩;go_wp2_with fail;go_roundg (n-d);case measure=>omega
       case rel=>exact⟨d+1,jO,jO,by go_num,HST⟩
    ·obtain rfl:d=n:=by omega
     have Ir:¬(d:Int)<(d:Int):=jO;go_wp2_with fail;go_ret;exact⟨_,rfl,by rw[HK.out] at Z;exact J.own,J.Zr⟩
end Go.Proofs.YtclgigmgbebhgaaGreatDoor
