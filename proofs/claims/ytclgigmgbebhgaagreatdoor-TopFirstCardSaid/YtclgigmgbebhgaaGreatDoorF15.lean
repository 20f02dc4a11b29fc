/- TopFirst: part 15: TopFormed TopChkP TopStepP. -/
import Derived.Test.YtclgigmgbebhgaaGreatDoorF14
set_option linter.unusedVariables false
set_option linter.unusedSimpArgs false
set_option maxRecDepth 100000
set_option maxHeartbeats 16000000
namespace Go.Proofs.YtclgigmgbebhgaaGreatDoor
open Tryz
open Go Go.Proofs Go.RowKit Go.Maps Go.WideMaps Go.ChangeMaps
variable {m:Int} {ms:List Int} {N:Nat} {ad:Option Addr} {W:World}
def I6(x:Z9):Prop:=(x.mark≠0->x=Zq x.mark/\0<x.mark/\x.mark<=1000000)/\(x.mark=0->codeOk x.code/\(x.t≠0->YS x.code=true\/x.code=0x05)/\(x.f≠0->YS x.code=true)/\(x.code=0x20->x.k%4=0/\x.k<64)/\x.k<4294967296)
def kA(N:Nat)(W:World)(ad:Option Addr)(l:List Z9):Prop:=∀(i:Nat) (x:Z9),l[i]? =some x->∃g off,ad=some ⟨g,off,none⟩/\g<N/\W.cell? ⟨g,off+i*5,none⟩=some (.int .i64 x.mark)/\W.cell? ⟨g,off+i*5+1,none⟩=some (.int .u16 x.code)/\W.cell? ⟨g,off+i*5+2,none⟩=some (.int .u32 x.k)/\W.cell? ⟨g,off+i*5+3,none⟩=some (.int .i64 x.t)/\W.cell? ⟨g,off+i*5+4,none⟩=some (.int .i64 x.f)
theorem kA.below{K:Nat}{W':World}(hb:Below K W W')(hN:N<=K) {l:List Z9}(h:kA N W ad l):kA N W' ad l:=λi x hx=>by
 obtain⟨g,off,e,hl,T,J,D,C,I⟩:=h i x hx;exact⟨g,off,e,hl,ZY hb hN hl T,ZY hb hN hl J,ZY hb hN hl D,ZY hb hN hl C,ZY hb hN hl I⟩
theorem kz {B n c:Nat} {l:List Z9}(hn:l.length=n)(h:W.ownsRow B Wc 5 (.slice ad n c) n (XT l)):kA W.heap.size W ad l:=λi x hx=>by
 obtain⟨g,e,_,hc⟩:=X9 zu 5 (λ_=>rfl) hn h hx;have C:=hc 0 jD;have T:=hc 1 jD;have I:=hc 2 jD;have D:=hc 3 jD;have J:=hc 4 jD;simp only[zu,aec,aM,aH] at C T I D J;refine⟨g,0,e,afg _ _ C,?_⟩;simp only[ade];exact⟨C,T,I,D,J⟩
def Q5(ms:List Int):List (Value×Value):=ms.reverse.map λm=>(.int .i64 m,.bool true)
theorem AY(m:Int)(ms:List Int):Q5 (m::ms)=Q5 ms++[(.int .i64 m,.bool true)]:=by
 unfold Q5;rw[awf,ada];rfl
theorem MV (h:∀m∈ms,0<m/\m<=1000000):∀p∈Q5 ms,∃l,keyOf prog 3 p.1=some l:=λp hp=>by
 obtain⟨m,hm,rfl⟩:=ah.1 hp;have:=h m (ava.1 hm);exact O1 _ jO
theorem aj6:∀W,(zeroValue 4).run prog W=.ok (.bool false) W:=λ_=>jK
theorem Ka {B:Nat}(h:Zz W B (Q5 ms))(hk:∀m∈ms,0<m/\m<=1000000)(hn:ms.Nodup)(hm:m∈ms):(Instr.lookup 222 (.map (some B)) (.int .i64 m) false).run prog W=.ok (.bool true) W:=
 Xq underlying222 V7 h (MV hk) (O1 _ (by have:=hk m hm;omega)) (ah.2 ⟨m,ava.2 hm,rfl⟩) (by unfold Q5;rw[afa];refine((List.reverse_perm ms).nodup_iff.2 hn).imp (λ{a b} C e=> ?_);injection e with _ e;exact C e)
theorem ky {B:Nat}(h:Zz W B (Q5 ms))(hk:∀m∈ms,0<m/\m<=1000000)(hr:0<m/\m<=1000000)(hm:m∉ms):(Instr.lookup 222 (.map (some B)) (.int .i64 m) false).run prog W=.ok (.bool false) W:=
 TX underlying222 V7 aj6 h (MV hk) (O1 _ jO) (λp hp e=>by obtain⟨m',C,rfl⟩:=ah.1 hp;injection e with _ e;exact hm (e▸ava.1 C))
theorem qH {B:Nat}(h:Zz W B (Q5 ms))(hk:∀m∈ms,0<m/\m<=1000000)(hr:0<m/\m<=1000000)(hm:m∉ms):∃W',(Instr.mapUpdate 222 (.map (some B)) (.int .i64 m) (.bool true)).run prog W=.ok () W'/\Zz W' B (Q5 (m::ms))/\W.grownBy W' (some B):=by
 rw[AY];refine Vd underlying222 V7 h (MV hk) (O1 _ jO) (λp hp e=> ?_) _;obtain⟨m',C,rfl⟩:=ah.1 hp;injection e with _ e;exact hm (e▸ava.1 C)
theorem Hz{l:List Z9}(h:∀x∈l,I6 x):∀m∈marks l,0<m/\m<=1000000:=λm hm=>by
 unfold marks at hm;obtain⟨x,hx,rfl⟩:=ah.1 hm;obtain⟨hx,C⟩:=ape.1 hx;exact((h x hx).1 (by simpa using C)).2
theorem Vp:∀{l:List Z9},ZR l->(marks l).Nodup
 |[],_=>List.Pairwise.nil
 |x::r,h=>by
  have C:=Vp (ZR.tail [x] h);by_cases hx:x.mark=0;·rw[YY hx];exact C
  ·rw[Zp hx];refine ayc.2 ⟨λhm=> ?_,C⟩;have:=ZR.fresh [x] (s:=r) (m:=x.mark) h hm;apply this;rw[Zp hx];exact agd
theorem Ld{c:Nat}(h:YS c=true):25<=Zx c:=by
 unfold YS at h;simp only[asg,ahc] at h;rcases h with((h|h)|h)|h<;>subst h<;>decide
theorem Lc{c:Nat}(hc:codeOk c)(h:YS c=false):Zx c<25:=by
 rcases hc with rfl|rfl|rfl|rfl|rfl|rfl|rfl|rfl<;>first|decide|cases h
theorem AX (l q:List Z9)(y:Z9)(L c:Nat)(ad:Option Addr)(hL:l.length=L)(Xo:L<=1000000)(hl:l=q++[y])(hy:y.mark=0)(Dy:y.code=0x06)(hF:ZR l)(hO:∀x∈l,I6 x)(w:World)(hm:kA N w ad l)(hN:N<=w.heap.size):
 Calls prog 58 #[.slice ad L c] w λe w'=>e=.returned (.bool true)/\Below w.heap.size w w':=by
 have Jj:= @aog prog;have hL1:1<=L:=by rw[<-hL,hl];simp
 have fR:l[L-1]? =some y:=by
  rw[hl];have:L-1=q.length:=by rw[<-hL,hl];simp
  rw[this,aad (aR _),alc];rfl
 have aj7:=aT fR;have HL:=aT hL;have HM:=aT hm;have HF:=aT hF;have HO:=aT hO;have HY:=aT (And.intro hy Dy);have HMB:=aT (Zz.made w);have lY:=aT ((aG w.heap.size w).alloc (aR _) (.map #[] 0));obtain⟨P,hP⟩:=jX (L-1);have hPz:(L:Int)-1=(P:Int):=jO;have w0:IntKind.i64.wrap ((L:Int)-1)=(P:Int):=by rw[aJ _ jO];exact hPz
 rw[hP] at aj7;have HPZ:=aT hPz;clear hPz hP;clear fR hL hm hF hO hl hy Dy;go_enter func58,ntmps58;go_upto_region 3 with fail;generalize w.alloc (.map #[] 0)=w1 at*;have hlB:w.heap.size<=w.heap.size:=aR _;go_loopg [4] (L+1) (λgg iv wr=>∃k:Nat,k<=L/\k<gg/\(∃z:Int,iv=.int .i64 z/\z=(k:Int)-1)/\Hid (Zz wr w.heap.size (Q5 (marks (l.drop k))))/\Hid (Below w.heap.size w wr));case atStart=>exact⟨L,aR _,jO,⟨_,rfl,HPZ.out.symm⟩,by rw[amg (by rw[HL.out];exact aR _)];exact HMB,lY⟩
 case round=>
  obtain⟨k,hkL,Vs,⟨z,rfl,hz⟩,HS,HB⟩:=hrel;clear HMB lY;by_cases hk:k=0
  ·subst hk;obtain rfl:z= -1:=jO;clear hz;have HBz:=HB;have hLz:((L:Int) == 0)=false:=by rw[af];omega
   have hP0:=jZ P;have hPL:(P:Int)<(L:Int):=by have:=HPZ.out;omega
   obtain⟨hy,Dy⟩:=HY.out;obtain⟨ym,yc,yk,yt,yf⟩:=y;dsimp only at hy Dy;subst hy Dy;obtain⟨g,off,rfl,UW,c0,c1,c2,c3,c4⟩:=HM.out P _ aj7.out;have y0:=ZY HB.out hN UW c0;have y1:=ZY HB.out hN UW c1;dsimp only at y0 y1;have Hw:Hid (Calls prog 109 #[.int .u16 6] wr λe w'=>e=.returned (.tuple #[.int .i64 14,.bool false,.bool true])/\Below wr.heap.size wr w'):=qX wr;clear c0 c1 c2 c3 c4 HS;go_wp2_with fail;refine Hw.out.mono ?_;rintro e w2 ⟨rfl,D⟩;have XX:=aT (HB.out.trans (D.mono HB.out.size));clear D Hw y0 y1;go_wp2_with fail;go_ret;exact⟨rfl,XX.out⟩
  ·obtain⟨j,rfl⟩:∃j,k=j+1:=⟨k-1,jO⟩;obtain rfl:z=(j:Int):=jO;clear hz;have gI:=jZ j;have hjL:(j:Int)<(L:Int):=jO;have jw:IntKind.i64.wrap ((j:Int)-1)=(j:Int)-1:=aJ _ jO;obtain⟨x,hx⟩:∃x,l[j]? =some x:=⟨_,aL (by rw[HL.out];omega)⟩;obtain⟨g,off,rfl,UW,c0,c1,c2,c3,c4⟩:=HM.out j x hx;have y0:=ZY HB.out hN UW c0;have y1:=ZY HB.out hN UW c1;have y2:=ZY HB.out hN UW c2;have y3:=ZY HB.out hN UW c3;have y4:=ZY HB.out hN UW c4;have qG:l.drop j=x::l.drop (j+1):=drop_cons hx
   have hFj:ZR (x::l.drop (j+1)):=by rw[<-qG];refine ZR.tail (l.take j) ?_;rw[aoa];exact HF.out
   have kx:=HO.out x (ag hx);have hOr:∀x∈l.drop (j+1),I6 x:=λx hx=>HO.out x (apa hx)
   have F9:=Hz hOr;have hFr:ZR (l.drop (j+1)):=ZR.tail [x] hFj;have hnd:=Vp hFr;have fQ:=aT qG;clear c0 c1 c2 c3 c4 hx qG;obtain⟨xm,xc,xk,xt,xf⟩:=x;dsimp only at y0 y1 y2 y3 y4;by_cases hxm:xm=0
   ·subst hxm;obtain⟨hc,ht,hf,hld,ax2⟩:=kx.2 rfl;obtain⟨Z,U⟩:=ZR.here [] hFj rfl;dsimp only at hc ht hf Z U;have HA:=aT (Z7.new wr Wc #[.int .i64 0,.int .u16 xc,.int .u32 xk,.int .i64 xt,.int .i64 xf]);have Jf:=aT (HS.out.alloc (.cells #[.int .i64 0,.int .u16 xc,.int .u32 xk,.int .i64 xt,.int .i64 xf] Wc));have HBa:=aT (HB.out.alloc HB.out.size (.cells #[.int .i64 0,.int .u16 xc,.int .u32 xk,.int .i64 xt,.int .i64 xf] Wc));have LC:=aT (And.intro F9 hnd);have HCF:=aT (And.intro (And.intro ht hf) (And.intro Z U));have Hw:=aT (V1 hc (wr.alloc (.cells #[.int .i64 0,.int .u16 xc,.int .u32 xk,.int .i64 xt,.int .i64 xf] Wc)));have HKB:=aT (And.intro (λh:YS xc=true=>Ld h) (λh:YS xc=false=>Lc hc h));clear kx hFj hOr F9 hFr hnd HS HB hc ht hf hld ax2 Z U;go_upto_region 6 with fail;generalize wr.alloc (.cells #[.int .i64 0,.int .u16 xc,.int .u32 xk,.int .i64 xt,.int .i64 xf] Wc)=wa at*;generalize wr.heap.size=B1 at*;clear y0 y1 y2 y3 y4;obtain⟨z0,z1⟩:=HA.out.q2;go_wp2_with fail;refine Hw.out.mono ?_;rintro e w2 ⟨rfl,D⟩;clear Hw z0 z1;obtain⟨C,J⟩:=LC.out;have I:Zz w2 w.heap.size (Q5 (marks (l.drop (j+1)))):=Jf.out.below D Jf.out.lt;have XX:=aT (HBa.out.trans (D.mono HBa.out.size));obtain⟨⟨ht,hf⟩,Z,U⟩:=HCF.out;obtain⟨hkb,ly⟩:=HKB.out;obtain⟨K,hK⟩:=jX (Zx xc);rw[hK] at hkb ly ⊢;have HK:=aT hK;clear hK HBa HCF HKB;by_cases fY:xt=0
    ·subst fY;by_cases T:xf=0
     ·subst T;clear hkb ly ht hf Z U;obtain⟨z0,z1,z2,z3,z4⟩:=(HA.out.below D HA.out.lt).q5;have Y:=aT I;clear I C J;clear D Jf;go_wp2_with fail;go_roundg (j+1);case measure=>omega
      case rel=>exact⟨j,jO,jO,⟨_,rfl,rfl⟩,by rw[fQ.out,YY rfl];exact Y,XX⟩
     ·have lkf:=Ka I C J (U T);have hk:=hkb (hf T);have dI:(25:Int)<=(K:Int):=jO;have vE:((xf:Int) != 0)=true:=by rw[aze];exact T
      have hf2:((xf:Int) == 0)=false:=by rw[af];exact T
      clear hkb ly ht hf Z U hk;obtain⟨z0,z1,z2,z3,z4⟩:=(HA.out.below D HA.out.lt).q5;have Y:=aT I;clear I C J;clear D Jf;go_wp2_with fail;go_roundg (j+1);case measure=>omega
      case rel=>exact⟨j,jO,jO,⟨_,rfl,rfl⟩,by rw[fQ.out,YY rfl];exact Y,XX⟩
    ·have lkt:=Ka I C J (Z fY);have ht1:((xt:Int) != 0)=true:=by rw[aze];exact fY
     have ht2:((xt:Int) == 0)=false:=by rw[af];exact fY
     by_cases T:xf=0
     ·subst T;rcases ht fY with hb|hb
      ·have hk:=hkb hb;have dI:(25:Int)<=(K:Int):=jO;clear hkb ly ht hf Z U hk;obtain⟨z0,z1,z2,z3,z4⟩:=(HA.out.below D HA.out.lt).q5;have Y:=aT I;clear I C J;clear D Jf;go_wp2_with fail;go_roundg (j+1);case measure=>omega
       case rel=>exact⟨j,jO,jO,⟨_,rfl,rfl⟩,by rw[fQ.out,YY rfl];exact Y,XX⟩
      ·obtain rfl:K=13:=by
        rw[<-HK.out,hb];rfl
       clear hkb ly ht hf Z U;obtain⟨z0,z1,z2,z3,z4⟩:=(HA.out.below D HA.out.lt).q5;have Y:=aT I;clear I C J;clear D Jf;go_wp2_with fail;go_roundg (j+1);case measure=>omega
       case rel=>exact⟨j,jO,jO,⟨_,rfl,rfl⟩,by rw[fQ.out,YY rfl];exact Y,XX⟩
     ·have lkf:=Ka I C J (U T);have hk:=hkb (hf T);have dI:(25:Int)<=(K:Int):=jO;have vE:((xf:Int) != 0)=true:=by rw[aze];exact T
      have hf2:((xf:Int) == 0)=false:=by rw[af];exact T
      clear hkb ly ht hf Z U hk;obtain⟨z0,z1,z2,z3,z4⟩:=(HA.out.below D HA.out.lt).q5;have Y:=aT I;clear I C J;clear D Jf;go_wp2_with fail;go_roundg (j+1);case measure=>omega
      case rel=>exact⟨j,jO,jO,⟨_,rfl,rfl⟩,by rw[fQ.out,YY rfl];exact Y,XX⟩
   ·obtain⟨he,Fo,tJ⟩:=kx.1 hxm;unfold Zq at he;injection he with _ e1 e2 e3 e4;subst e1 e2 e3 e4
    have MU:xm∉marks (l.drop (j+1)):=by have h1:=Vp hFj;rw[Zp (show(⟨xm,0,0,0,0⟩:Z9).mark≠0 from hxm)] at h1;exact(ayc.1 h1).1
    have ax3:((xm:Int) == 0)=false:=by rw[af];exact hxm
    have ax4:((xm:Int) != 0)=true:=by rw[aze];exact hxm
    have lu:¬xm<0:=jO;have HA:=aT (Z7.new wr Wc #[.int .i64 xm,.int .u16 0,.int .u32 0,.int .i64 0,.int .i64 0]);have fP:=HS.out.alloc (.cells #[.int .i64 xm,.int .u16 0,.int .u32 0,.int .i64 0,.int .i64 0] Wc);have HBa:=aT (HB.out.alloc HB.out.size (.cells #[.int .i64 xm,.int .u16 0,.int .u32 0,.int .i64 0,.int .i64 0] Wc));have lk:=ky fP F9 ⟨Fo,tJ⟩ MU;obtain⟨w2,u2,m2,g2⟩:=qH fP F9 ⟨Fo,tJ⟩ MU;have XX:=aT (HBa.out.grown g2 HBa.out.size (λk e=>by have:=aq e;omega));have Y:=aT m2;clear kx hFj hOr F9 hFr hnd HS HB fP m2 g2 MU;go_upto_region 6 with fail;generalize wr.alloc (.cells #[.int .i64 xm,.int .u16 0,.int .u32 0,.int .i64 0,.int .i64 0] Wc)=wa at*;generalize wr.heap.size=B1 at*;clear y0 y1 y2 y3 y4;obtain⟨z0,z1,z2,z3,z4⟩:=HA.out.q5;go_wp2_with fail;go_roundg (j+1);case measure=>omega
    case rel=>exact⟨j,jO,jO,⟨_,rfl,rfl⟩,by rw[fQ.out,Zp (show(⟨xm,0,0,0,0⟩:Z9).mark≠0 from hxm)];exact Y,XX⟩
end Go.Proofs.YtclgigmgbebhgaaGreatDoor
namespace Go.Proofs.YtclgigmgbebhgaaGreatDoor
open Tryz
open Go Go.Proofs
theorem Ur{α:Type}{a b:List α}{x y:α}(h:a++[x]=b++[y]):x=y:=by
 have:=ax List.getLast? h;simpa using this
theorem J9{l p r:List Z9}{x y:Z9}(e:l=p++x::r){q:List Z9}(hl:l=q++[y])(hy:y.mark=0)(D:x≠y):Z6 r≠[]:=by
 cases r with
 |nil=>
  exact absurd (Ur (a:=p) (b:=q) (e.symm.trans hl)) D
 |cons z C=>
  have e2:z::C=(z::C).dropLast++[(z::C).getLast jS]:=(apb jS).symm;have e3:l=(p++x::(z::C).dropLast)++[(z::C).getLast jS]:=by
   rw[e]
   conv=>lhs;rw[e2]
   simp
  have e4:(z::C).getLast jS=y:=Ur (e3.symm.trans hl);rw[e2,e4,Yg,Yw hy];simp
theorem NX:∀(l:List Z9) (n:Nat) (x:Z9),(Z6 l)[n]? =some x->∃p r,l=p++x::r/\x.mark=0/\(Z6 p).length=n
 |[],n,x,h=>by simp[Z6] at h
 |y::l,n,x,h=>by
  by_cases hz:y.mark=0
  ·rw[Yw hz] at h;cases n with
   |zero=>
    simp at h;subst h;exact⟨[],l,rfl,hz,rfl⟩
   |succ n=>
    obtain⟨p,r,I,D,C⟩:=NX l n x (by simpa using h);exact⟨y::p,r,by rw[I];rfl,D,by rw[Yw hz,ai,C]⟩
  ·rw[WX hz] at h;obtain⟨p,r,I,D,C⟩:=NX l n x h;exact⟨y::p,r,by rw[I];rfl,D,by rw[WX hz,C]⟩
theorem UK.bM{l:List Z9}{out:List ZN}{at_:Nat->Nat}{ZU far:Nat->Bool}(h:UK l out at_ ZU far){n:Nat}(hn:n<(Z6 l).length)(hu:ZU n=false):at_ n<at_ (Z6 l).length:=by
 obtain⟨x,hx⟩:∃x,(Z6 l)[n]? =some x:=⟨_,aL hn⟩;have I:=h.next _ _ hx;have D:1<=(encI x (ZU n) (far n) (at_ n) (at_ (target l n x.t)) (at_ (target l n x.f))).length:=by
  unfold encI;rw[hu,aN jD];split;·simp
  ·split;·simp
   ·split<;>simp
 obtain⟨d,hd⟩:∃d,(Z6 l).length=n+1+d:=⟨(Z6 l).length-(n+1),jO⟩;have C:=h.mono d (n+1) jO;rw[<-hd] at C;omega
theorem UK.size{l:List Z9}{out:List ZN}{at_:Nat->Nat}{ZU far:Nat->Bool}(h:UK l out at_ ZU far)(J:at_ 0=0):at_ (Z6 l).length=out.length:=by
 have D:∀n,n<=(Z6 l).length->out.length=at_ n+(out.drop (at_ n)).length:=by
  intro n
  induction n with
  |zero=>intro _;rw[J];simp
  |succ n C=>
   intro hn;have C:=C jO;obtain⟨x,hx⟩:∃x,(Z6 l)[n]? =some x:=⟨_,aL jO⟩;have T:=h.next _ _ hx;have I:=h.write _ _ hx;rw[I,ay] at C;omega
 have:=D _ (aR _);rw[h.last] at this;simpa using this.symm
theorem yD{l:List Z9}{out:List ZN}{at_:Nat->Nat}{ZU far:Nat->Bool}(hf:ZR l)(h:UK l out at_ ZU far)(h0:at_ 0=0){q:List Z9}{y:Z9}(hl:l=q++[y])(hy:y.mark=0)(Dy:y.code=0x06)(hld:∀x∈Z6 l,x.code=0x20->x.k%4=0/\x.k<64):
 ∀n,n<=(Z6 l).length->∀j i,j<at_ n->out[j]? =some i->qJ i (out.length-1-j)
 |0,_,j,i,hj,_=>jO
 |n+1,hn,j,i,hj,hi=>by
  by_cases hlt:j<at_ n;·exact yD hf h h0 hl hy Dy hld n jO j i hlt hi
  ·obtain⟨x,hx⟩:∃x,(Z6 l)[n]? =some x:=⟨_,aL jO⟩;have D:=h.next _ _ hx;have hwr:=h.write _ _ hx;have hsz:=h.size h0;have aj8:=h.code x (ag hx);have hlx:=hld x (ag hx);obtain⟨p,r,e,hx0,Dx⟩:=NX l n x hx
   have C:(out.drop (at_ n))[j-at_ n]? =some i:=by rw[avg,show at_ n+(j-at_ n)=j from jO];exact hi
   have hlen:j-at_ n<(encI x (ZU n) (far n) (at_ n) (at_ (target l n x.t)) (at_ (target l n x.f))).length:=jO;rw[hwr,abc hlen] at C;obtain⟨ft,ff⟩:=ZR.here p (e▸hf) hx0;have U:∀m,(m≠0->m∈marks r)->x.code≠0x06->ZU (target l n m)=false->at_ (target l n m)<out.length/\at_ (n+1)<=at_ (target l n m):=by
    intro m hm h6 hu;have hb:Z6 r≠[]:=J9 e hl hy (by rintro rfl;exact h6 Dy);have Z:∀q' y',l=q'++[y']->y'.mark=0:=λq' y' hq'=>by have:=Ur (hl.symm.trans hq');rw[<-this];exact hy
    have ht:=Ia hf e hx0 hm hb Z;rw[Dx] at ht;have hp:=h.bM ht hu;obtain⟨_,_,_,dT,_⟩:=Vi (p:=p) (x:=x) (r:=r) (e▸hf) hx0 hm;rw[<-e,Dx] at dT;obtain⟨d,hd⟩:∃d,target l n m=n+1+d:=⟨_,(Nat.add_sub_cancel' dT).symm⟩;have bL:=h.mono d (n+1) jO;rw[<-hd] at bL;exact⟨jO,bL⟩
   cases hu:ZU n with
   |true=>
    unfold encI at C;rw[hu,aF rfl] at C;simp at C
   |false=>
    unfold encI at C D;rw[hu,aN jD] at C D;have J:∀k rest,k<rest->qJ ⟨0x05,0,0,k⟩ rest:=λk rest hk=>⟨.inr (.inr (.inl rfl)),λe=>absurd (show(5:Nat)=32 from e) jD,λ_=>hk,λe=>absurd (show false=true from e) jD⟩
    by_cases T:far n=true
    ·have I:=h.branch _ _ hx T;have hc:=Pd I;obtain⟨y1,y2⟩:=U x.t ft hc.2.2.2 (h.yes _ _ hx hu hc.2.2.2);obtain⟨z1,z2⟩:=U x.f ff hc.2.2.2 (h.no _ _ hx hu I);rw[aF T] at C D;simp only[ai,acg] at D;obtain⟨m,hm⟩:∃m,j=at_ n+m:=⟨j-at_ n,jO⟩;rw[hm,Nat.add_sub_cancel_left] at C;rw[hm] at hj ⊢
     match m,C with
     |0,C=>
      obtain rfl:=aq C;exact⟨.inr (.inr (.inr (.inr I))),λe=>absurd e hc.1,λe=>absurd e hc.2.2.1,λ_=>⟨by show 0<_;omega,by show 1<_;omega⟩⟩
     |1,C=>
      obtain rfl:=aq C;exact J _ _ jO
     |2,C=>
      obtain rfl:=aq C;exact J _ _ jO
     |m+3,C=>simp at C
    ·rw[aN T] at C D;by_cases Y:x.code=0x05;·obtain⟨y1,y2⟩:=U x.t ft jO (h.yes _ _ hx hu jO);rw[aF Y] at C D;simp only[ai,acg] at D;obtain rfl:j=at_ n:=jO;rw[alc] at C;obtain rfl:=aq C;rw[Y];exact J _ _ jO
     ·rw[aN Y] at C D;by_cases I:YS x.code=true;·have hc:=Pd I;obtain⟨y1,y2⟩:=U x.t ft hc.2.2.2 (h.yes _ _ hx hu hc.2.2.2);obtain⟨z1,z2⟩:=U x.f ff hc.2.2.2 (h.no _ _ hx hu I);rw[aF I] at C D;simp only[ai,acg] at D;obtain rfl:j=at_ n:=jO;rw[alc] at C;obtain rfl:=aq C;exact⟨.inr (.inr (.inr (.inr I))),λe=>absurd e hc.1,λe=>absurd e hc.2.2.1,λ_=>⟨by show at_ (target l n x.t)-at_ n-1<_;omega,by show at_ (target l n x.f)-at_ n-1<_;omega⟩⟩
      ·rw[aN I] at C D;simp only[ai,acg] at D;obtain rfl:j=at_ n:=jO;rw[alc] at C;obtain rfl:=aq C;exact⟨aj8,hlx,λe=>absurd e Y,λe=>absurd e I⟩
end Go.Proofs.YtclgigmgbebhgaaGreatDoor
namespace Go.Proofs.YtclgigmgbebhgaaGreatDoor
open Tryz
open Go Go.Proofs Go.RowKit
theorem Dw{α β:Type}(f:α->List β)(k:Nat)(hk:∀x,(f x).length=k):∀(l:List α) (i:Nat) (x C:α) (j:Nat) (u:β),l[i]? =some x->j<k->f C=(f x).set j u->(l.flatMap f).set (i*k+j) u=(l.set i C).flatMap f
 |[],i,x,C,j,u,h,_,_=>by simp at h
 |y::l,0,x,C,j,u,h,hj,hf=>by rw[aM] at h;cases h;rw[ace,aP,ace,Nat.zero_mul,ade,List.set_append_left _ _ (by rw[hk];exact hj),hf]
 |y::l,i+1,x,C,j,u,h,hj,hf=>by rw[aH] at h;have D:=Dw f k hk l i x C j u h hj hf;rw[ace,aQ,ace,List.set_append_right _ _ (by rw[hk,ara];omega),hk,show(i+1)*k+j-k=i*k+j by rw[ara];omega,D]
theorem Vj{α:Type}{f:α->List Value}{k:Nat}(hk:∀x,(f x).length=k){W:World}{LO e c n g:Nat}{l:List α}(h:W.ownsRow LO e k (.slice (some ⟨g,0,none⟩) n c) n (l.flatMap f)){i j:Nat}{x x':α}{u:Value}(hx:l[i]? =some x)(I:j<k)(hf:f x'=(f x).set j u):
 (W.setCell ⟨g,i*k+j,none⟩ u).ownsRow LO e k (.slice (some ⟨g,0,none⟩) n c) n ((l.set i x').flatMap f)/\W.grownBy (W.setCell ⟨g,i*k+j,none⟩ u) (some g):=by
 obtain⟨C,D⟩:=h.stored (i*k+j) u;rw[Dw f k hk l i x x' j u hx I hf] at C;exact⟨C,D⟩
structure R9 where
 i:Z9
 kind:Nat
 (yes no:Int)
 far:Bool
 at_:Nat
 ZU:Bool
abbrev S8:Nat:=164
def Y0(s:R9):List Value:=[.int .i64 s.i.mark,.int .u16 s.i.code,.int .u32 s.i.k,.int .i64 s.i.t,.int .i64 s.i.f,.int .i64 s.kind,.int .i64 s.yes,.int .i64 s.no,.bool s.far,.int .i64 s.at_,.bool s.ZU]
theorem bK:(prog.info? S8).map (λi=>(i.zero,i.size,i.bytes))=some (some (.agg #[.int .i64 0,.int .u16 0,.int .u32 0,.int .i64 0,.int .i64 0,.int .i64 0,.int .i64 0,.int .i64 0,.bool false,.int .i64 0,.bool false]),11,80):=jK
def NW(l:List Z9)(n:Nat)(x:Z9):Int:=if x.code=0x06 then -1 else(target l n x.t:Int)
def AW(l:List Z9)(n:Nat)(x:Z9):Int:=if YS x.code=true then(target l n x.f:Int) else -1
def Zn(l:List Z9)(d:Nat)(ZU far:Nat->Bool)(at_:Nat->Nat)(m:Nat)(x:Z9):R9:=⟨x,Zx x.code,if m<d then NW l m x else 0,if m<d then AW l m x else 0,far m,at_ m,ZU m⟩
def Yo(l:List Z9)(d:Nat)(ZU far:Nat->Bool)(at_:Nat->Nat):List R9:=(Z6 l).mapIdx (Zn l d ZU far at_)
theorem V0(l:List Z9)(d:Nat)(ZU far:Nat->Bool)(at_:Nat->Nat):(Yo l d ZU far at_).length=(Z6 l).length:=List.length_mapIdx
theorem Xt(l:List Z9)(d:Nat)(ZU far:Nat->Bool)(at_:Nat->Nat)(m:Nat):(Yo l d ZU far at_)[m]? =((Z6 l)[m]?).map (Zn l d ZU far at_ m):=List.getElem?_mapIdx
theorem VZ{l:List Z9}{d:Nat}{ZU far:Nat->Bool}{at_:Nat->Nat}{m:Nat}{x:Z9}(h:(Z6 l)[m]? =some x):(Yo l d ZU far at_)[m]? =some (Zn l d ZU far at_ m x):=by rw[Xt,h];rfl
theorem S7{l:List Z9}{d d':Nat}{ZU far AV J8:Nat->Bool}{at_ at':Nat->Nat}{m:Nat}{x:Z9}(h:(Z6 l)[m]? =some x)(C:∀n x,n≠m->Zn l d' AV J8 at' n x=Zn l d ZU far at_ n x):Yo l d' AV J8 at'=(Yo l d ZU far at_).set m (Zn l d' AV J8 at' m x):=by
 apply agb;intro n;rw[List.getElem?_set,Xt,Xt,V0];by_cases hn:m=n;·subst hn;rw[aF rfl,aF (ak.1 h).1,h];rfl
 ·rw[aN hn];cases (Z6 l)[n]? with
  |none=>rfl
  |some y=>show some _=some _;rw[C n y (ame hn)]
def upd{β:Type}(f:Nat->β)(n:Nat)(v:β):Nat->β:=λm=>if m=n then v else f m
theorem upd_same{β:Type}(f:Nat->β)(n:Nat)(v:β):upd f n v n=v:=aF rfl
theorem TF{β:Type}(f:Nat->β){n m:Nat}(v:β)(h:m≠n):upd f n v m=f m:=aN h
def Y4:List Z9->Nat->List (Int×Nat)
 |[],_=>[]
 |x::r,n=>if x.mark≠0 then(x.mark,n)::Y4 r n else Y4 r (n+1)
theorem Q4{x:Z9}(h:x.mark=0)(r:List Z9)(n:Nat):Y4 (x::r) n=Y4 r (n+1):=by
 show(if x.mark≠0 then _ else _)=_;rw[aN (λe=>e h)]
theorem S6{x:Z9}(h:x.mark≠0)(r:List Z9)(n:Nat):Y4 (x::r) n=(x.mark,n)::Y4 r n:=by
 show(if x.mark≠0 then _ else _)=_;rw[aF h]
theorem Q3:∀(a b:List Z9) (n:Nat),Y4 (a++b) n=Y4 a n++Y4 b (n+(Z6 a).length)
 |[],b,n=>rfl
 |x::a,b,n=>by
  have C:=λm=>Q3 a b m
  rw[ahb];by_cases hx:x.mark=0;·rw[Q4 hx,Q4 hx,C,Yw hx,ai,show n+1+(Z6 a).length=n+((Z6 a).length+1) from jO]
  ·rw[S6 hx,S6 hx,C,WX hx,ahb]
theorem Wt:∀(l:List Z9) (n:Nat),(Y4 l n).map (·.1)=marks l
 |[],_=>rfl
 |x::l,n=>by
  unfold Y4;by_cases hx:x.mark=0;·rw[aN (λh=>h hx),Wt l,YY hx]
  ·rw[aF hx,aed,Wt l,Zp hx]
theorem Q2:∀(l:List Z9) (n:Nat) (m:Int),m∈marks l->(m,n+((Z6 l).length-(Z6 (UU m l)).length))∈Y4 l n
 |[],_,m,h=>by cases h
 |x::l,n,m,h=>by
  unfold Y4 UU;by_cases hx:x.mark=0
  ·rw[YY hx] at h;have I:=Q2 l (n+1) m h;have J:=K1 l m
   have D:x.mark≠m:=by rintro rfl;unfold marks at h;obtain⟨y,hy,e⟩:=ah.1 h;have:=(ape.1 hy).2;rw[hx] at e;simp[e] at this
   rw[aN (λh=>h hx),aN D,Yw hx,ai];rw[show n+((Z6 l).length+1-(Z6 (UU m l)).length)=n+1+((Z6 l).length-(Z6 (UU m l)).length) from jO];exact I
  ·rw[aF hx,WX hx];by_cases C:x.mark=m;·rw[aF C,alc,C];exact agd
   ·rw[aN C];rw[Zp hx] at h;rcases abb.1 h with e|h;·exact absurd e.symm C
    ·exact aff _ (Q2 l n m h)
theorem vD{l:List Z9}{m:Int}(h:m∈marks l):(m,place l m)∈Y4 l 0:=by
 have:=Q2 l 0 m h;rwa [ade] at this
end Go.Proofs.YtclgigmgbebhgaaGreatDoor
