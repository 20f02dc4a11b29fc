/- TopOther: part 15: TopFormed TopChkP TopStepP. -/
import Derived.Test.YtclgigmgbebhgaaGreatDoorO14
set_option linter.unusedVariables false
set_option linter.unusedSimpArgs false
set_option maxRecDepth 100000
set_option maxHeartbeats 16000000
namespace Go.Proofs.YtclgigmgbebhgaaGreatDoor
open Tryz
open Go Go.Proofs Go.RowKit Go.Maps Go.WideMaps Go.ChangeMaps
variable {m:Int} {ms:List Int} {N:Nat} {ad:Option Addr} {W:World}
def Jl(x:Z9):Prop:=(x.mark≠0->x=Zr x.mark/\0<x.mark/\x.mark<=1000000)/\(x.mark=0->codeOk x.code/\(x.t≠0->YV x.code=true\/x.code=0x05)/\(x.f≠0->YV x.code=true)/\(x.code=0x20->x.k%4=0/\x.k<64)/\x.k<4294967296)
def kj(N:Nat)(W:World)(ad:Option Addr)(l:List Z9):Prop:=∀(i:Nat) (x:Z9),l[i]? =some x->∃g off,ad=some ⟨g,off,none⟩/\g<N/\W.cell? ⟨g,off+i*5,none⟩=some (.int .i64 x.mark)/\W.cell? ⟨g,off+i*5+1,none⟩=some (.int .u16 x.code)/\W.cell? ⟨g,off+i*5+2,none⟩=some (.int .u32 x.k)/\W.cell? ⟨g,off+i*5+3,none⟩=some (.int .i64 x.t)/\W.cell? ⟨g,off+i*5+4,none⟩=some (.int .i64 x.f)
theorem kj.below{K:Nat}{W':World}(hb:Below K W W')(hN:N<=K) {l:List Z9}(h:kj N W ad l):kj N W' ad l:=λi x hx=>by
 obtain⟨g,off,e,hl,D,C,J,I,A⟩:=h i x hx;exact⟨g,off,e,hl,ZY hb hN hl D,ZY hb hN hl C,ZY hb hN hl J,ZY hb hN hl I,ZY hb hN hl A⟩
theorem ki {B n c:Nat} {l:List Z9}(hn:l.length=n)(h:W.ownsRow B Wk 5 (.slice ad n c) n (XY l)):kj W.heap.size W ad l:=λi x hx=>by
 obtain⟨g,e,_,hc⟩:=Ye zr 5 (λ_=>rfl) hn h hx;have A:=hc 0 jD;have D:=hc 1 jD;have I:=hc 2 jD;have J:=hc 3 jD;have C:=hc 4 jD;simp only[zr,aeb,aL,aF] at A D I J C;refine⟨g,0,e,afe _ _ A,?_⟩;simp only[aca];exact⟨A,D,I,J,C⟩
def Ru(ms:List Int):List (Value×Value):=ms.reverse.map λm=>(.int .i64 m,.bool true)
theorem AW(m:Int)(ms:List Int):Ru (m::ms)=Ru ms++[(.int .i64 m,.bool true)]:=by
 unfold Ru;rw[awg,acf];rfl
theorem M8 (h:∀m∈ms,0<m/\m<=1000000):∀p∈Ru ms,∃l,keyOf prog 3 p.1=some l:=λp hp=>by
 obtain⟨m,hm,rfl⟩:=ai.1 hp;have:=h m (avb.1 hm);exact Pd _ jO
theorem aj8:∀W,(zeroValue 4).run prog W=.ok (.bool false) W:=λ_=>jK
theorem Kj {B:Nat}(h:ZB W B (Ru ms))(hk:∀m∈ms,0<m/\m<=1000000)(hn:ms.Nodup)(hm:m∈ms):(Instr.lookup 222 (.map (some B)) (.int .i64 m) false).run prog W=.ok (.bool true) W:=
 Xu underlying222 Wh h (M8 hk) (Pd _ (by have:=hk m hm;omega)) (ai.2 ⟨m,avb.2 hm,rfl⟩) (by unfold Ru;rw[aeg];refine((List.reverse_perm ms).nodup_iff.2 hn).imp (λ{a b} A e=> ?_);injection e with _ e;exact A e)
theorem kh {B:Nat}(h:ZB W B (Ru ms))(hk:∀m∈ms,0<m/\m<=1000000)(hr:0<m/\m<=1000000)(hm:m∉ms):(Instr.lookup 222 (.map (some B)) (.int .i64 m) false).run prog W=.ok (.bool false) W:=
 Ud underlying222 Wh aj8 h (M8 hk) (Pd _ jO) (λp hp e=>by obtain⟨m',A,rfl⟩:=ai.1 hp;injection e with _ e;exact hm (e▸avb.1 A))
theorem qU {B:Nat}(h:ZB W B (Ru ms))(hk:∀m∈ms,0<m/\m<=1000000)(hr:0<m/\m<=1000000)(hm:m∉ms):∃W',(Instr.mapUpdate 222 (.map (some B)) (.int .i64 m) (.bool true)).run prog W=.ok () W'/\ZB W' B (Ru (m::ms))/\W.grownBy W' (some B):=by
 rw[AW];refine Vq underlying222 Wh h (M8 hk) (Pd _ jO) (λp hp e=> ?_) _;obtain⟨m',A,rfl⟩:=ai.1 hp;injection e with _ e;exact hm (e▸avb.1 A)
theorem Ii{l:List Z9}(h:∀x∈l,Jl x):∀m∈marks l,0<m/\m<=1000000:=λm hm=>by
 unfold marks at hm;obtain⟨x,hx,rfl⟩:=ai.1 hm;obtain⟨hx,A⟩:=aqa.1 hx;exact((h x hx).1 (by simpa using A)).2
theorem VB:∀{l:List Z9},ZR l->(marks l).Nodup
 |[],_=>List.Pairwise.nil
 |x::r,h=>by
  have A:=VB (ZR.tail [x] h);by_cases hx:x.mark=0;·rw[Y2 hx];exact A
  ·rw[Zq hx];refine aye.2 ⟨λhm=> ?_,A⟩;have:=ZR.fresh [x] (s:=r) (m:=x.mark) h hm;apply this;rw[Zq hx];exact agf
theorem Ln{c:Nat}(h:YV c=true):25<=Zz c:=by
 unfold YV at h;simp only[atb,ahd] at h;rcases h with((h|h)|h)|h<;>subst h<;>decide
theorem Lm{c:Nat}(hc:codeOk c)(h:YV c=false):Zz c<25:=by
 rcases hc with rfl|rfl|rfl|rfl|rfl|rfl|rfl|rfl<;>first|decide|cases h
theorem AV (l q:List Z9)(y:Z9)(L c:Nat)(ad:Option Addr)(hL:l.length=L)(Xl:L<=1000000)(hl:l=q++[y])(hy:y.mark=0)(Ih:y.code=0x06)(hF:ZR l)(hO:∀x∈l,Jl x)(w:World)(hm:kj N w ad l)(hN:N<=w.heap.size):
 Calls prog 58 #[.slice ad L c] w λe w'=>e=.returned (.bool true)/\Below w.heap.size w w':=by
 have Jw:= @apc prog;have hL1:1<=L:=by rw[<-hL,hl];simp
 have yD:l[L-1]? =some y:=by
  rw[hl];have:L-1=q.length:=by rw[<-hL,hl];simp
  rw[this,aae (aR _),alb];rfl
 have aj9:=aT yD;have HL:=aT hL;have HM:=aT hm;have HF:=aT hF;have HO:=aT hO;have HY:=aT (And.intro hy Ih);have HMB:=aT (ZB.made w);have lK:=aT ((aH w.heap.size w).alloc (aR _) (.map #[] 0));obtain⟨P,hP⟩:=jX (L-1);have hPz:(L:Int)-1=(P:Int):=jO;have w0:IntKind.i64.wrap ((L:Int)-1)=(P:Int):=by rw[aJ _ jO];exact hPz
 rw[hP] at aj9;have HPZ:=aT hPz;clear hPz hP;clear yD hL hm hF hO hl hy Ih;go_enter func58,ntmps58;go_upto_region 3 with fail;generalize w.alloc (.map #[] 0)=w1 at*;have hlB:w.heap.size<=w.heap.size:=aR _;go_loopg [4] (L+1) (λgg iv wr=>∃k:Nat,k<=L/\k<gg/\(∃z:Int,iv=.int .i64 z/\z=(k:Int)-1)/\Hid (ZB wr w.heap.size (Ru (marks (l.drop k))))/\Hid (Below w.heap.size w wr));case atStart=>exact⟨L,aR _,jO,⟨_,rfl,HPZ.out.symm⟩,by rw[anc (by rw[HL.out];exact aR _)];exact HMB,lK⟩
 case round=>
  obtain⟨k,hkL,VP,⟨z,rfl,hz⟩,HS,HB⟩:=hrel;clear HMB lK;by_cases hk:k=0
  ·subst hk;obtain rfl:z= -1:=jO;clear hz;have HBz:=HB;have hLz:((L:Int) == 0)=false:=by rw[ae];omega
   have hP0:=jZ P;have hPL:(P:Int)<(L:Int):=by have:=HPZ.out;omega
   obtain⟨hy,Ih⟩:=HY.out;obtain⟨ym,yc,yk,yt,yf⟩:=y;dsimp only at hy Ih;subst hy Ih;obtain⟨g,off,rfl,U7,c0,c1,c2,c3,c4⟩:=HM.out P _ aj9.out;have y0:=ZY HB.out hN U7 c0;have y1:=ZY HB.out hN U7 c1;dsimp only at y0 y1;have Ig:Hid (Calls prog 109 #[.int .u16 6] wr λe w'=>e=.returned (.tuple #[.int .i64 14,.bool false,.bool true])/\Below wr.heap.size wr w'):=ry wr;clear c0 c1 c2 c3 c4 HS;go_wp2_with fail;refine Ig.out.mono ?_;rintro e w2 ⟨rfl,C⟩;have Z:=aT (HB.out.trans (C.mono HB.out.size));clear C Ig y0 y1;go_wp2_with fail;go_ret;exact⟨rfl,Z.out⟩
  ·obtain⟨j,rfl⟩:∃j,k=j+1:=⟨k-1,jO⟩;obtain rfl:z=(j:Int):=jO;clear hz;have mV:=jZ j;have hjL:(j:Int)<(L:Int):=jO;have jw:IntKind.i64.wrap ((j:Int)-1)=(j:Int)-1:=aJ _ jO;obtain⟨x,hx⟩:∃x,l[j]? =some x:=⟨_,aM (by rw[HL.out];omega)⟩;obtain⟨g,off,rfl,U7,c0,c1,c2,c3,c4⟩:=HM.out j x hx;have y0:=ZY HB.out hN U7 c0;have y1:=ZY HB.out hN U7 c1;have y2:=ZY HB.out hN U7 c2;have y3:=ZY HB.out hN U7 c3;have y4:=ZY HB.out hN U7 c4;have qT:l.drop j=x::l.drop (j+1):=drop_cons hx
   have hFj:ZR (x::l.drop (j+1)):=by rw[<-qT];refine ZR.tail (l.take j) ?_;rw[aod];exact HF.out
   have kf:=HO.out x (af hx);have hOr:∀x∈l.drop (j+1),Jl x:=λx hx=>HO.out x (apd hx)
   have Gd:=Ii hOr;have hFr:ZR (l.drop (j+1)):=ZR.tail [x] hFj;have hnd:=VB hFr;have fA:=aT qT;clear c0 c1 c2 c3 c4 hx qT;obtain⟨xm,xc,xk,xt,xf⟩:=x;dsimp only at y0 y1 y2 y3 y4;by_cases hxm:xm=0
   ·subst hxm;obtain⟨hc,ht,hf,hld,ax2⟩:=kf.2 rfl;obtain⟨Y,J⟩:=ZR.here [] hFj rfl;dsimp only at hc ht hf Y J;have HA:=aT (Z7.new wr Wk #[.int .i64 0,.int .u16 xc,.int .u32 xk,.int .i64 xt,.int .i64 xf]);have Jt:=aT (HS.out.alloc (.cells #[.int .i64 0,.int .u16 xc,.int .u32 xk,.int .i64 xt,.int .i64 xf] Wk));have HBa:=aT (HB.out.alloc HB.out.size (.cells #[.int .i64 0,.int .u16 xc,.int .u32 xk,.int .i64 xt,.int .i64 xf] Wk));have LQ:=aT (And.intro Gd hnd);have HCF:=aT (And.intro (And.intro ht hf) (And.intro Y J));have Ig:=aT (V7 hc (wr.alloc (.cells #[.int .i64 0,.int .u16 xc,.int .u32 xk,.int .i64 xt,.int .i64 xf] Wk)));have HKB:=aT (And.intro (λh:YV xc=true=>Ln h) (λh:YV xc=false=>Lm hc h));clear kf hFj hOr Gd hFr hnd HS HB hc ht hf hld ax2 Y J;go_upto_region 6 with fail;generalize wr.alloc (.cells #[.int .i64 0,.int .u16 xc,.int .u32 xk,.int .i64 xt,.int .i64 xf] Wk)=wa at*;generalize wr.heap.size=B1 at*;clear y0 y1 y2 y3 y4;obtain⟨z0,z1⟩:=HA.out.q2;go_wp2_with fail;refine Ig.out.mono ?_;rintro e w2 ⟨rfl,C⟩;clear Ig z0 z1;obtain⟨A,I⟩:=LQ.out;have D:ZB w2 w.heap.size (Ru (marks (l.drop (j+1)))):=Jt.out.below C Jt.out.lt;have Z:=aT (HBa.out.trans (C.mono HBa.out.size));obtain⟨⟨ht,hf⟩,Y,J⟩:=HCF.out;obtain⟨hkb,kY⟩:=HKB.out;obtain⟨K,hK⟩:=jX (Zz xc);rw[hK] at hkb kY ⊢;have HK:=aT hK;clear hK HBa HCF HKB;by_cases fH:xt=0
    ·subst fH;by_cases U:xf=0
     ·subst U;clear hkb kY ht hf Y J;obtain⟨z0,z1,z2,z3,z4⟩:=(HA.out.below C HA.out.lt).q5;have T:=aT D;clear D A I;clear C Jt;go_wp2_with fail;go_roundg (j+1);case measure=>omega
      case rel=>exact⟨j,jO,jO,⟨_,rfl,rfl⟩,by rw[fA.out,Y2 rfl];exact T,Z⟩
     ·have lkf:=Kj D A I (J U);have hk:=hkb (hf U);have dt:(25:Int)<=(K:Int):=jO;have vM:((xf:Int) != 0)=true:=by rw[aze];exact U
      have hf2:((xf:Int) == 0)=false:=by rw[ae];exact U
      clear hkb kY ht hf Y J hk;obtain⟨z0,z1,z2,z3,z4⟩:=(HA.out.below C HA.out.lt).q5;have T:=aT D;clear D A I;clear C Jt;go_wp2_with fail;go_roundg (j+1);case measure=>omega
      case rel=>exact⟨j,jO,jO,⟨_,rfl,rfl⟩,by rw[fA.out,Y2 rfl];exact T,Z⟩
    ·have lkt:=Kj D A I (Y fH);have ht1:((xt:Int) != 0)=true:=by rw[aze];exact fH
     have ht2:((xt:Int) == 0)=false:=by rw[ae];exact fH
     by_cases U:xf=0
     ·subst U;rcases ht fH with hb|hb
      ·have hk:=hkb hb;have dt:(25:Int)<=(K:Int):=jO;clear hkb kY ht hf Y J hk;obtain⟨z0,z1,z2,z3,z4⟩:=(HA.out.below C HA.out.lt).q5;have T:=aT D;clear D A I;clear C Jt;go_wp2_with fail;go_roundg (j+1);case measure=>omega
       case rel=>exact⟨j,jO,jO,⟨_,rfl,rfl⟩,by rw[fA.out,Y2 rfl];exact T,Z⟩
      ·obtain rfl:K=13:=by
        rw[<-HK.out,hb];rfl
       clear hkb kY ht hf Y J;obtain⟨z0,z1,z2,z3,z4⟩:=(HA.out.below C HA.out.lt).q5;have T:=aT D;clear D A I;clear C Jt;go_wp2_with fail;go_roundg (j+1);case measure=>omega
       case rel=>exact⟨j,jO,jO,⟨_,rfl,rfl⟩,by rw[fA.out,Y2 rfl];exact T,Z⟩
     ·have lkf:=Kj D A I (J U);have hk:=hkb (hf U);have dt:(25:Int)<=(K:Int):=jO;have vM:((xf:Int) != 0)=true:=by rw[aze];exact U
      have hf2:((xf:Int) == 0)=false:=by rw[ae];exact U
      clear hkb kY ht hf Y J hk;obtain⟨z0,z1,z2,z3,z4⟩:=(HA.out.below C HA.out.lt).q5;have T:=aT D;clear D A I;clear C Jt;go_wp2_with fail;go_roundg (j+1);case measure=>omega
      case rel=>exact⟨j,jO,jO,⟨_,rfl,rfl⟩,by rw[fA.out,Y2 rfl];exact T,Z⟩
   ·obtain⟨he,Cj,tQ⟩:=kf.1 hxm;unfold Zr at he;injection he with _ e1 e2 e3 e4;subst e1 e2 e3 e4
    have M7:xm∉marks (l.drop (j+1)):=by have h1:=VB hFj;rw[Zq (show(⟨xm,0,0,0,0⟩:Z9).mark≠0 from hxm)] at h1;exact(aye.1 h1).1
    have ax3:((xm:Int) == 0)=false:=by rw[ae];exact hxm
    have ax4:((xm:Int) != 0)=true:=by rw[aze];exact hxm
    have hm3:¬xm<0:=jO;have HA:=aT (Z7.new wr Wk #[.int .i64 xm,.int .u16 0,.int .u32 0,.int .i64 0,.int .i64 0]);have fz:=HS.out.alloc (.cells #[.int .i64 xm,.int .u16 0,.int .u32 0,.int .i64 0,.int .i64 0] Wk);have HBa:=aT (HB.out.alloc HB.out.size (.cells #[.int .i64 xm,.int .u16 0,.int .u32 0,.int .i64 0,.int .i64 0] Wk));have lk:=kh fz Gd ⟨Cj,tQ⟩ M7;obtain⟨w2,u2,m2,g2⟩:=qU fz Gd ⟨Cj,tQ⟩ M7;have Z:=aT (HBa.out.grown g2 HBa.out.size (λk e=>by have:=ax e;omega));have T:=aT m2;clear kf hFj hOr Gd hFr hnd HS HB fz m2 g2 M7;go_upto_region 6 with fail;generalize wr.alloc (.cells #[.int .i64 xm,.int .u16 0,.int .u32 0,.int .i64 0,.int .i64 0] Wk)=wa at*;generalize wr.heap.size=B1 at*;clear y0 y1 y2 y3 y4;obtain⟨z0,z1,z2,z3,z4⟩:=HA.out.q5;go_wp2_with fail;go_roundg (j+1);case measure=>omega
    case rel=>exact⟨j,jO,jO,⟨_,rfl,rfl⟩,by rw[fA.out,Zq (show(⟨xm,0,0,0,0⟩:Z9).mark≠0 from hxm)];exact T,Z⟩
end Go.Proofs.YtclgigmgbebhgaaGreatDoor
namespace Go.Proofs.YtclgigmgbebhgaaGreatDoor
open Tryz
open Go Go.Proofs
theorem UD{α:Type}{a b:List α}{x y:α}(h:a++[x]=b++[y]):x=y:=by
 have:=aq List.getLast? h;simpa using this
theorem Ki{l p r:List Z9}{x y:Z9}(e:l=p++x::r){q:List Z9}(hl:l=q++[y])(hy:y.mark=0)(C:x≠y):Z6 r≠[]:=by
 cases r with
 |nil=>
  exact absurd (UD (a:=p) (b:=q) (e.symm.trans hl)) C
 |cons z A=>
  have e2:z::A=(z::A).dropLast++[(z::A).getLast jS]:=(ape jS).symm;have e3:l=(p++x::(z::A).dropLast)++[(z::A).getLast jS]:=by
   rw[e]
   conv=>lhs;rw[e2]
   simp
  have e4:(z::A).getLast jS=y:=UD (e3.symm.trans hl);rw[e2,e4,Yn,YD hy];simp
theorem Ob:∀(l:List Z9) (n:Nat) (x:Z9),(Z6 l)[n]? =some x->∃p r,l=p++x::r/\x.mark=0/\(Z6 p).length=n
 |[],n,x,h=>by simp[Z6] at h
 |y::l,n,x,h=>by
  by_cases hz:y.mark=0
  ·rw[YD hz] at h;cases n with
   |zero=>
    simp at h;subst h;exact⟨[],l,rfl,hz,rfl⟩
   |succ n=>
    obtain⟨p,r,C,A,D⟩:=Ob l n x (by simpa using h);exact⟨y::p,r,by rw[C];rfl,A,by rw[YD hz,aj,D]⟩
  ·rw[WZ hz] at h;obtain⟨p,r,C,A,D⟩:=Ob l n x h;exact⟨y::p,r,by rw[C];rfl,A,by rw[WZ hz,D]⟩
theorem UY.bw{l:List Z9}{out:List ZN}{at_:Nat->Nat}{ZU far:Nat->Bool}(h:UY l out at_ ZU far){n:Nat}(hn:n<(Z6 l).length)(hu:ZU n=false):at_ n<at_ (Z6 l).length:=by
 obtain⟨x,hx⟩:∃x,(Z6 l)[n]? =some x:=⟨_,aM hn⟩;have D:=h.next _ _ hx;have C:1<=(encI x (ZU n) (far n) (at_ n) (at_ (target l n x.t)) (at_ (target l n x.f))).length:=by
  unfold encI;rw[hu,aN jD];split;·simp
  ·split;·simp
   ·split<;>simp
 obtain⟨d,hd⟩:∃d,(Z6 l).length=n+1+d:=⟨(Z6 l).length-(n+1),jO⟩;have A:=h.mono d (n+1) jO;rw[<-hd] at A;omega
theorem UY.size{l:List Z9}{out:List ZN}{at_:Nat->Nat}{ZU far:Nat->Bool}(h:UY l out at_ ZU far)(D:at_ 0=0):at_ (Z6 l).length=out.length:=by
 have C:∀n,n<=(Z6 l).length->out.length=at_ n+(out.drop (at_ n)).length:=by
  intro n
  induction n with
  |zero=>intro _;rw[D];simp
  |succ n A=>
   intro hn;have A:=A jO;obtain⟨x,hx⟩:∃x,(Z6 l)[n]? =some x:=⟨_,aM jO⟩;have J:=h.next _ _ hx;have I:=h.write _ _ hx;rw[I,ay] at A;omega
 have:=C _ (aR _);rw[h.last] at this;simpa using this.symm
theorem yC{l:List Z9}{out:List ZN}{at_:Nat->Nat}{ZU far:Nat->Bool}(hf:ZR l)(h:UY l out at_ ZU far)(h0:at_ 0=0){q:List Z9}{y:Z9}(hl:l=q++[y])(hy:y.mark=0)(Ih:y.code=0x06)(hld:∀x∈Z6 l,x.code=0x20->x.k%4=0/\x.k<64):
 ∀n,n<=(Z6 l).length->∀j i,j<at_ n->out[j]? =some i->qW i (out.length-1-j)
 |0,_,j,i,hj,_=>jO
 |n+1,hn,j,i,hj,hi=>by
  by_cases hlt:j<at_ n;·exact yC hf h h0 hl hy Ih hld n jO j i hlt hi
  ·obtain⟨x,hx⟩:∃x,(Z6 l)[n]? =some x:=⟨_,aM jO⟩;have C:=h.next _ _ hx;have hwr:=h.write _ _ hx;have hsz:=h.size h0;have Z:=h.code x (af hx);have hlx:=hld x (af hx);obtain⟨p,r,e,Y,qR⟩:=Ob l n x hx
   have A:(out.drop (at_ n))[j-at_ n]? =some i:=by rw[awb,show at_ n+(j-at_ n)=j from jO];exact hi
   have hlen:j-at_ n<(encI x (ZU n) (far n) (at_ n) (at_ (target l n x.t)) (at_ (target l n x.f))).length:=jO;rw[hwr,abb hlen] at A;obtain⟨ft,ff⟩:=ZR.here p (e▸hf) Y;have J:∀m,(m≠0->m∈marks r)->x.code≠0x06->ZU (target l n m)=false->at_ (target l n m)<out.length/\at_ (n+1)<=at_ (target l n m):=by
    intro m hm h6 hu;have hb:Z6 r≠[]:=Ki e hl hy (by rintro rfl;exact h6 Ih);have yD:∀q' y',l=q'++[y']->y'.mark=0:=λq' y' hq'=>by have:=UD (hl.symm.trans hq');rw[<-this];exact hy
    have ht:=Ik hf e Y hm hb yD;rw[qR] at ht;have hp:=h.bw ht hu;obtain⟨_,_,_,dD,_⟩:=Vv (p:=p) (x:=x) (r:=r) (e▸hf) Y hm;rw[<-e,qR] at dD;obtain⟨d,hd⟩:∃d,target l n m=n+1+d:=⟨_,(Nat.add_sub_cancel' dD).symm⟩;have bu:=h.mono d (n+1) jO;rw[<-hd] at bu;exact⟨jO,bu⟩
   cases hu:ZU n with
   |true=>
    unfold encI at A;rw[hu,aG rfl] at A;simp at A
   |false=>
    unfold encI at A C;rw[hu,aN jD] at A C;have I:∀k rest,k<rest->qW ⟨0x05,0,0,k⟩ rest:=λk rest hk=>⟨.inr (.inr (.inl rfl)),λe=>absurd (show(5:Nat)=32 from e) jD,λ_=>hk,λe=>absurd (show false=true from e) jD⟩
    by_cases T:far n=true
    ·have D:=h.branch _ _ hx T;have hc:=Ps D;obtain⟨y1,y2⟩:=J x.t ft hc.2.2.2 (h.yes _ _ hx hu hc.2.2.2);obtain⟨z1,z2⟩:=J x.f ff hc.2.2.2 (h.no _ _ hx hu D);rw[aG T] at A C;simp only[aj,acg] at C;obtain⟨m,hm⟩:∃m,j=at_ n+m:=⟨j-at_ n,jO⟩;rw[hm,Nat.add_sub_cancel_left] at A;rw[hm] at hj ⊢
     match m,A with
     |0,A=>
      obtain rfl:=ax A;exact⟨.inr (.inr (.inr (.inr D))),λe=>absurd e hc.1,λe=>absurd e hc.2.2.1,λ_=>⟨by show 0<_;omega,by show 1<_;omega⟩⟩
     |1,A=>
      obtain rfl:=ax A;exact I _ _ jO
     |2,A=>
      obtain rfl:=ax A;exact I _ _ jO
     |m+3,A=>simp at A
    ·rw[aN T] at A C;by_cases U:x.code=0x05;·obtain⟨y1,y2⟩:=J x.t ft jO (h.yes _ _ hx hu jO);rw[aG U] at A C;simp only[aj,acg] at C;obtain rfl:j=at_ n:=jO;rw[alb] at A;obtain rfl:=ax A;rw[U];exact I _ _ jO
     ·rw[aN U] at A C;by_cases D:YV x.code=true;·have hc:=Ps D;obtain⟨y1,y2⟩:=J x.t ft hc.2.2.2 (h.yes _ _ hx hu hc.2.2.2);obtain⟨z1,z2⟩:=J x.f ff hc.2.2.2 (h.no _ _ hx hu D);rw[aG D] at A C;simp only[aj,acg] at C;obtain rfl:j=at_ n:=jO;rw[alb] at A;obtain rfl:=ax A;exact⟨.inr (.inr (.inr (.inr D))),λe=>absurd e hc.1,λe=>absurd e hc.2.2.1,λ_=>⟨by show at_ (target l n x.t)-at_ n-1<_;omega,by show at_ (target l n x.f)-at_ n-1<_;omega⟩⟩
      ·rw[aN D] at A C;simp only[aj,acg] at C;obtain rfl:j=at_ n:=jO;rw[alb] at A;obtain rfl:=ax A;exact⟨Z,hlx,λe=>absurd e U,λe=>absurd e D⟩
end Go.Proofs.YtclgigmgbebhgaaGreatDoor
namespace Go.Proofs.YtclgigmgbebhgaaGreatDoor
open Tryz
open Go Go.Proofs Go.RowKit
theorem Dz{α β:Type}(f:α->List β)(k:Nat)(hk:∀x,(f x).length=k):∀(l:List α) (i:Nat) (x A:α) (j:Nat) (u:β),l[i]? =some x->j<k->f A=(f x).set j u->(l.flatMap f).set (i*k+j) u=(l.set i A).flatMap f
 |[],i,x,A,j,u,h,_,_=>by simp at h
 |y::l,0,x,A,j,u,h,hj,hf=>by rw[aL] at h;cases h;rw[acd,aP,acd,Nat.zero_mul,aca,List.set_append_left _ _ (by rw[hk];exact hj),hf]
 |y::l,i+1,x,A,j,u,h,hj,hf=>by rw[aF] at h;have C:=Dz f k hk l i x A j u h hj hf;rw[acd,aQ,acd,List.set_append_right _ _ (by rw[hk,arc];omega),hk,show(i+1)*k+j-k=i*k+j by rw[arc];omega,C]
theorem Vw{α:Type}{f:α->List Value}{k:Nat}(hk:∀x,(f x).length=k){W:World}{LO e c n g:Nat}{l:List α}(h:W.ownsRow LO e k (.slice (some ⟨g,0,none⟩) n c) n (l.flatMap f)){i j:Nat}{x x':α}{u:Value}(hx:l[i]? =some x)(C:j<k)(hf:f x'=(f x).set j u):
 (W.setCell ⟨g,i*k+j,none⟩ u).ownsRow LO e k (.slice (some ⟨g,0,none⟩) n c) n ((l.set i x').flatMap f)/\W.grownBy (W.setCell ⟨g,i*k+j,none⟩ u) (some g):=by
 obtain⟨A,D⟩:=h.stored (i*k+j) u;rw[Dz f k hk l i x x' j u hx C hf] at A;exact⟨A,D⟩
structure Sy where
 i:Z9
 kind:Nat
 (yes no:Int)
 far:Bool
 at_:Nat
 ZU:Bool
abbrev Tq:Nat:=164
def Y5(s:Sy):List Value:=[.int .i64 s.i.mark,.int .u16 s.i.code,.int .u32 s.i.k,.int .i64 s.i.t,.int .i64 s.i.f,.int .i64 s.kind,.int .i64 s.yes,.int .i64 s.no,.bool s.far,.int .i64 s.at_,.bool s.ZU]
theorem bq:(prog.info? Tq).map (λi=>(i.zero,i.size,i.bytes))=some (some (.agg #[.int .i64 0,.int .u16 0,.int .u32 0,.int .i64 0,.int .i64 0,.int .i64 0,.int .i64 0,.int .i64 0,.bool false,.int .i64 0,.bool false]),11,80):=jK
def Oa(l:List Z9)(n:Nat)(x:Z9):Int:=if x.code=0x06 then -1 else(target l n x.t:Int)
def AU(l:List Z9)(n:Nat)(x:Z9):Int:=if YV x.code=true then(target l n x.f:Int) else -1
def Zp(l:List Z9)(d:Nat)(ZU far:Nat->Bool)(at_:Nat->Nat)(m:Nat)(x:Z9):Sy:=⟨x,Zz x.code,if m<d then Oa l m x else 0,if m<d then AU l m x else 0,far m,at_ m,ZU m⟩
def Yw(l:List Z9)(d:Nat)(ZU far:Nat->Bool)(at_:Nat->Nat):List Sy:=(Z6 l).mapIdx (Zp l d ZU far at_)
theorem V6(l:List Z9)(d:Nat)(ZU far:Nat->Bool)(at_:Nat->Nat):(Yw l d ZU far at_).length=(Z6 l).length:=List.length_mapIdx
theorem Xw(l:List Z9)(d:Nat)(ZU far:Nat->Bool)(at_:Nat->Nat)(m:Nat):(Yw l d ZU far at_)[m]? =((Z6 l)[m]?).map (Zp l d ZU far at_ m):=List.getElem?_mapIdx
theorem V5{l:List Z9}{d:Nat}{ZU far:Nat->Bool}{at_:Nat->Nat}{m:Nat}{x:Z9}(h:(Z6 l)[m]? =some x):(Yw l d ZU far at_)[m]? =some (Zp l d ZU far at_ m x):=by rw[Xw,h];rfl
theorem Tp{l:List Z9}{d d':Nat}{ZU far AR Kh:Nat->Bool}{at_ at':Nat->Nat}{m:Nat}{x:Z9}(h:(Z6 l)[m]? =some x)(A:∀n x,n≠m->Zp l d' AR Kh at' n x=Zp l d ZU far at_ n x):Yw l d' AR Kh at'=(Yw l d ZU far at_).set m (Zp l d' AR Kh at' m x):=by
 apply agd;intro n;rw[List.getElem?_set,Xw,Xw,V6];by_cases hn:m=n;·subst hn;rw[aG rfl,aG (au.1 h).1,h];rfl
 ·rw[aN hn];cases (Z6 l)[n]? with
  |none=>rfl
  |some y=>show some _=some _;rw[A n y (ana hn)]
def upd{β:Type}(f:Nat->β)(n:Nat)(v:β):Nat->β:=λm=>if m=n then v else f m
theorem upd_same{β:Type}(f:Nat->β)(n:Nat)(v:β):upd f n v n=v:=aG rfl
theorem TT{β:Type}(f:Nat->β){n m:Nat}(v:β)(h:m≠n):upd f n v m=f m:=aN h
def Zb:List Z9->Nat->List (Int×Nat)
 |[],_=>[]
 |x::r,n=>if x.mark≠0 then(x.mark,n)::Zb r n else Zb r (n+1)
theorem Rt{x:Z9}(h:x.mark=0)(r:List Z9)(n:Nat):Zb (x::r) n=Zb r (n+1):=by
 show(if x.mark≠0 then _ else _)=_;rw[aN (λe=>e h)]
theorem Tn{x:Z9}(h:x.mark≠0)(r:List Z9)(n:Nat):Zb (x::r) n=(x.mark,n)::Zb r n:=by
 show(if x.mark≠0 then _ else _)=_;rw[aG h]
theorem Rs:∀(a b:List Z9) (n:Nat),Zb (a++b) n=Zb a n++Zb b (n+(Z6 a).length)
 |[],b,n=>rfl
 |x::a,b,n=>by
  have A:=λm=>Rs a b m
  rw[ahc];by_cases hx:x.mark=0;·rw[Rt hx,Rt hx,A,YD hx,aj,show n+1+(Z6 a).length=n+((Z6 a).length+1) from jO]
  ·rw[Tn hx,Tn hx,A,WZ hx,ahc]
theorem Wy:∀(l:List Z9) (n:Nat),(Zb l n).map (·.1)=marks l
 |[],_=>rfl
 |x::l,n=>by
  unfold Zb;by_cases hx:x.mark=0;·rw[aN (λh=>h hx),Wy l,Y2 hx]
  ·rw[aG hx,aec,Wy l,Zq hx]
theorem Rq:∀(l:List Z9) (n:Nat) (m:Int),m∈marks l->(m,n+((Z6 l).length-(Z6 (U5 m l)).length))∈Zb l n
 |[],_,m,h=>by cases h
 |x::l,n,m,h=>by
  unfold Zb U5;by_cases hx:x.mark=0
  ·rw[Y2 hx] at h;have D:=Rq l (n+1) m h;have I:=Lh l m
   have C:x.mark≠m:=by rintro rfl;unfold marks at h;obtain⟨y,hy,e⟩:=ai.1 h;have:=(aqa.1 hy).2;rw[hx] at e;simp[e] at this
   rw[aN (λh=>h hx),aN C,YD hx,aj];rw[show n+((Z6 l).length+1-(Z6 (U5 m l)).length)=n+1+((Z6 l).length-(Z6 (U5 m l)).length) from jO];exact D
  ·rw[aG hx,WZ hx];by_cases A:x.mark=m;·rw[aG A,alb,A];exact agf
   ·rw[aN A];rw[Zq hx] at h;rcases abf.1 h with e|h;·exact absurd e.symm A
    ·exact afd _ (Rq l n m h)
theorem vL{l:List Z9}{m:Int}(h:m∈marks l):(m,place l m)∈Zb l 0:=by
 have:=Rq l 0 m h;rwa [aca] at this
end Go.Proofs.YtclgigmgbebhgaaGreatDoor
