/- TopAsks: part 15: TopFormed TopChkP TopStepP. -/
import Derived.Test.YtclgigmgbebhgaaGreatDoorA14
set_option linter.unusedVariables false
set_option linter.unusedSimpArgs false
set_option maxRecDepth 100000
set_option maxHeartbeats 16000000
namespace Go.Proofs.YtclgigmgbebhgaaGreatDoor
open Tryz
open Go Go.Proofs Go.RowKit Go.Maps Go.WideMaps Go.ChangeMaps
variable {m:Int} {ms:List Int} {N:Nat} {ad:Option Addr} {W:World}
def JD(x:Z9):Prop:=(x.mark≠0->x=Zr x.mark/\0<x.mark/\x.mark<=1000000)/\(x.mark=0->codeOk x.code/\(x.t≠0->YW x.code=true\/x.code=0x05)/\(x.f≠0->YW x.code=true)/\(x.code=0x20->x.k%4=0/\x.k<64)/\x.k<4294967296)
def kJ(N:Nat)(W:World)(ad:Option Addr)(l:List Z9):Prop:=∀(i:Nat) (x:Z9),l[i]? =some x->∃g off,ad=some ⟨g,off,none⟩/\g<N/\W.cell? ⟨g,off+i*5,none⟩=some (.int .i64 x.mark)/\W.cell? ⟨g,off+i*5+1,none⟩=some (.int .u16 x.code)/\W.cell? ⟨g,off+i*5+2,none⟩=some (.int .u32 x.k)/\W.cell? ⟨g,off+i*5+3,none⟩=some (.int .i64 x.t)/\W.cell? ⟨g,off+i*5+4,none⟩=some (.int .i64 x.f)
theorem kJ.below{K:Nat}{W':World}(hb:Below K W W')(hN:N<=K) {l:List Z9}(h:kJ N W ad l):kJ N W' ad l:=λi x hx=>by
 obtain⟨g,off,e,hl,C,D,A,I,J⟩:=h i x hx;exact⟨g,off,e,hl,ZZ hb hN hl C,ZZ hb hN hl D,ZZ hb hN hl A,ZZ hb hN hl I,ZZ hb hN hl J⟩
theorem kI {B n c:Nat} {l:List Z9}(hn:l.length=n)(h:W.ownsRow B Wm 5 (.slice ad n c) n (XX l)):kJ W.heap.size W ad l:=λi x hx=>by
 obtain⟨g,e,_,hc⟩:=Ye zF 5 (λ_=>rfl) hn h hx;have A:=hc 0 jD;have D:=hc 1 jD;have C:=hc 2 jD;have I:=hc 3 jD;have J:=hc 4 jD;simp only[zF,aec,aL,aF] at A D C I J;refine⟨g,0,e,afg _ _ A,?_⟩;simp only[adf];exact⟨A,D,C,I,J⟩
def Ru(ms:List Int):List (Value×Value):=ms.reverse.map λm=>(.int .i64 m,.bool true)
theorem BJ(m:Int)(ms:List Int):Ru (m::ms)=Ru ms++[(.int .i64 m,.bool true)]:=by
 unfold Ru;rw[awe,adb];rfl
theorem Nh (h:∀m∈ms,0<m/\m<=1000000):∀p∈Ru ms,∃l,keyOf prog 3 p.1=some l:=λp hp=>by
 obtain⟨m,hm,rfl⟩:=ah.1 hp;have:=h m (aug.1 hm);exact Pg _ jO
theorem ah4:∀W,(zeroValue 4).run prog W=.ok (.bool false) W:=λ_=>jK
theorem KC {B:Nat}(h:ZB W B (Ru ms))(hk:∀m∈ms,0<m/\m<=1000000)(hn:ms.Nodup)(hm:m∈ms):(Instr.lookup 222 (.map (some B)) (.int .i64 m) false).run prog W=.ok (.bool true) W:=
 Xu underlying222 Wi h (Nh hk) (Pg _ (by have:=hk m hm;omega)) (ah.2 ⟨m,aug.2 hm,rfl⟩) (by unfold Ru;rw[afa];refine((List.reverse_perm ms).nodup_iff.2 hn).imp (λ{a b} A e=> ?_);injection e with _ e;exact A e)
theorem kH {B:Nat}(h:ZB W B (Ru ms))(hk:∀m∈ms,0<m/\m<=1000000)(hr:0<m/\m<=1000000)(hm:m∉ms):(Instr.lookup 222 (.map (some B)) (.int .i64 m) false).run prog W=.ok (.bool false) W:=
 Uf underlying222 Wi ah4 h (Nh hk) (Pg _ jO) (λp hp e=>by obtain⟨m',A,rfl⟩:=ah.1 hp;injection e with _ e;exact hm (e▸aug.1 A))
theorem rE {B:Nat}(h:ZB W B (Ru ms))(hk:∀m∈ms,0<m/\m<=1000000)(hr:0<m/\m<=1000000)(hm:m∉ms):∃W',(Instr.mapUpdate 222 (.map (some B)) (.int .i64 m) (.bool true)).run prog W=.ok () W'/\ZB W' B (Ru (m::ms))/\W.grownBy W' (some B):=by
 rw[BJ];refine Vq underlying222 Wi h (Nh hk) (Pg _ jO) (λp hp e=> ?_) _;obtain⟨m',A,rfl⟩:=ah.1 hp;injection e with _ e;exact hm (e▸aug.1 A)
theorem IP{l:List Z9}(h:∀x∈l,JD x):∀m∈marks l,0<m/\m<=1000000:=λm hm=>by
 unfold marks at hm;obtain⟨x,hx,rfl⟩:=ah.1 hm;obtain⟨hx,A⟩:=apg.1 hx;exact((h x hx).1 (by simpa using A)).2
theorem VB:∀{l:List Z9},ZT l->(marks l).Nodup
 |[],_=>List.Pairwise.nil
 |x::r,h=>by
  have A:=VB (ZT.tail [x] h);by_cases hx:x.mark=0;·rw[Y2 hx];exact A
  ·rw[Zq hx];refine ayd.2 ⟨λhm=> ?_,A⟩;have:=ZT.fresh [x] (s:=r) (m:=x.mark) h hm;apply this;rw[Zq hx];exact agd
theorem LH{c:Nat}(h:YW c=true):25<=Zz c:=by
 unfold YW at h;simp only[asg,ahc] at h;rcases h with((h|h)|h)|h<;>subst h<;>decide
theorem LG{c:Nat}(hc:codeOk c)(h:YW c=false):Zz c<25:=by
 rcases hc with rfl|rfl|rfl|rfl|rfl|rfl|rfl|rfl<;>first|decide|cases h
theorem BI (l q:List Z9)(y:Z9)(L c:Nat)(ad:Option Addr)(hL:l.length=L)(XA:L<=1000000)(hl:l=q++[y])(hy:y.mark=0)(D8:y.code=0x06)(hF:ZT l)(hO:∀x∈l,JD x)(w:World)(hm:kJ N w ad l)(hN:N<=w.heap.size):
 Calls prog 58 #[.slice ad L c] w λe w'=>e=.returned (.bool true)/\Below w.heap.size w w':=by
 have JO:= @apb prog;have hL1:1<=L:=by rw[<-hL,hl];simp
 have gi:l[L-1]? =some y:=by
  rw[hl];have:L-1=q.length:=by rw[<-hL,hl];simp
  rw[this,aae (aP _),alc];rfl
 have ah5:=aT gi;have HL:=aT hL;have HM:=aT hm;have HF:=aT hF;have HO:=aT hO;have HY:=aT (And.intro hy D8);have HMB:=aT (ZB.made w);have lY:=aT ((aG w.heap.size w).alloc (aP _) (.map #[] 0));obtain⟨P,hP⟩:=jX (L-1);have hPz:(L:Int)-1=(P:Int):=jO;have w0:IntKind.i64.wrap ((L:Int)-1)=(P:Int):=by rw[aJ _ jO];exact hPz
 rw[hP] at ah5;have HPZ:=aT hPz;clear hPz hP;clear gi hL hm hF hO hl hy D8;go_enter func58,ntmps58;go_upto_region 3 with fail;generalize w.alloc (.map #[] 0)=w1 at*;have hlB:w.heap.size<=w.heap.size:=aP _;go_loopg [4] (L+1) (λgg iv wr=>∃k:Nat,k<=L/\k<gg/\(∃z:Int,iv=.int .i64 z/\z=(k:Int)-1)/\Hid (ZB wr w.heap.size (Ru (marks (l.drop k))))/\Hid (Below w.heap.size w wr));case atStart=>exact⟨L,aP _,jO,⟨_,rfl,HPZ.out.symm⟩,by rw[anc (by rw[HL.out];exact aP _)];exact HMB,lY⟩
 case round=>
  obtain⟨k,hkL,VM,⟨z,rfl,hz⟩,HS,HB⟩:=hrel;clear HMB lY;by_cases hk:k=0
  ·subst hk;obtain rfl:z= -1:=jO;clear hz;have HBz:=HB;have hLz:((L:Int) == 0)=false:=by rw[af];omega
   have hP0:=jZ P;have hPL:(P:Int)<(L:Int):=by have:=HPZ.out;omega
   obtain⟨hy,D8⟩:=HY.out;obtain⟨ym,yc,yk,yt,yf⟩:=y;dsimp only at hy D8;subst hy D8;obtain⟨g,off,rfl,Va,c0,c1,c2,c3,c4⟩:=HM.out P _ ah5.out;have y0:=ZZ HB.out hN Va c0;have y1:=ZZ HB.out hN Va c1;dsimp only at y0 y1;have IM:Hid (Calls prog 109 #[.int .u16 6] wr λe w'=>e=.returned (.tuple #[.int .i64 14,.bool false,.bool true])/\Below wr.heap.size wr w'):=rR wr;clear c0 c1 c2 c3 c4 HS;go_wp2_with fail;refine IM.out.mono ?_;rintro e w2 ⟨rfl,C⟩;have X1:=aT (HB.out.trans (C.mono HB.out.size));clear C IM y0 y1;go_wp2_with fail;go_ret;exact⟨rfl,X1.out⟩
  ·obtain⟨j,rfl⟩:∃j,k=j+1:=⟨k-1,jO⟩;obtain rfl:z=(j:Int):=jO;clear hz;have gW:=jZ j;have hjL:(j:Int)<(L:Int):=jO;have jw:IntKind.i64.wrap ((j:Int)-1)=(j:Int)-1:=aJ _ jO;obtain⟨x,hx⟩:∃x,l[j]? =some x:=⟨_,aM (by rw[HL.out];omega)⟩;obtain⟨g,off,rfl,Va,c0,c1,c2,c3,c4⟩:=HM.out j x hx;have y0:=ZZ HB.out hN Va c0;have y1:=ZZ HB.out hN Va c1;have y2:=ZZ HB.out hN Va c2;have y3:=ZZ HB.out hN Va c3;have y4:=ZZ HB.out hN Va c4;have rD:l.drop j=x::l.drop (j+1):=drop_cons hx
   have hFj:ZT (x::l.drop (j+1)):=by rw[<-rD];refine ZT.tail (l.take j) ?_;rw[aoc];exact HF.out
   have kG:=HO.out x (ag hx);have hOr:∀x∈l.drop (j+1),JD x:=λx hx=>HO.out x (apc hx)
   have GF:=IP hOr;have hFr:ZT (l.drop (j+1)):=ZT.tail [x] hFj;have hnd:=VB hFr;have gh:=aT rD;clear c0 c1 c2 c3 c4 hx rD;obtain⟨xm,xc,xk,xt,xf⟩:=x;dsimp only at y0 y1 y2 y3 y4;by_cases mV:xm=0
   ·subst mV;obtain⟨hc,ht,hf,hld,as6⟩:=kG.2 rfl;obtain⟨Y,J⟩:=ZT.here [] hFj rfl;dsimp only at hc ht hf Y J;have HA:=aT (Z8.new wr Wm #[.int .i64 0,.int .u16 xc,.int .u32 xk,.int .i64 xt,.int .i64 xf]);have JM:=aT (HS.out.alloc (.cells #[.int .i64 0,.int .u16 xc,.int .u32 xk,.int .i64 xt,.int .i64 xf] Wm));have HBa:=aT (HB.out.alloc HB.out.size (.cells #[.int .i64 0,.int .u16 xc,.int .u32 xk,.int .i64 xt,.int .i64 xf] Wm));have L6:=aT (And.intro GF hnd);have HCF:=aT (And.intro (And.intro ht hf) (And.intro Y J));have IM:=aT (V8 hc (wr.alloc (.cells #[.int .i64 0,.int .u16 xc,.int .u32 xk,.int .i64 xt,.int .i64 xf] Wm)));have HKB:=aT (And.intro (λh:YW xc=true=>LH h) (λh:YW xc=false=>LG hc h));clear kG hFj hOr GF hFr hnd HS HB hc ht hf hld as6 Y J;go_upto_region 6 with fail;generalize wr.alloc (.cells #[.int .i64 0,.int .u16 xc,.int .u32 xk,.int .i64 xt,.int .i64 xf] Wm)=wa at*;generalize wr.heap.size=B1 at*;clear y0 y1 y2 y3 y4;obtain⟨z0,z1⟩:=HA.out.q2;go_wp2_with fail;refine IM.out.mono ?_;rintro e w2 ⟨rfl,C⟩;clear IM z0 z1;obtain⟨A,I⟩:=L6.out;have D:ZB w2 w.heap.size (Ru (marks (l.drop (j+1)))):=JM.out.below C JM.out.lt;have X1:=aT (HBa.out.trans (C.mono HBa.out.size));obtain⟨⟨ht,hf⟩,Y,J⟩:=HCF.out;obtain⟨hkb,lJ⟩:=HKB.out;obtain⟨K,hK⟩:=jX (Zz xc);rw[hK] at hkb lJ ⊢;have HK:=aT hK;clear hK HBa HCF HKB;by_cases gF:xt=0
    ·subst gF;by_cases U:xf=0
     ·subst U;clear hkb lJ ht hf Y J;obtain⟨z0,z1,z2,z3,z4⟩:=(HA.out.below C HA.out.lt).q5;have T:=aT D;clear D A I;clear C JM;go_wp2_with fail;go_roundg (j+1);case measure=>omega
      case rel=>exact⟨j,jO,jO,⟨_,rfl,rfl⟩,by rw[gh.out,Y2 rfl];exact T,X1⟩
     ·have lkf:=KC D A I (J U);have hk:=hkb (hf U);have ep:(25:Int)<=(K:Int):=jO;have wj:((xf:Int) != 0)=true:=by rw[azf];exact U
      have hf2:((xf:Int) == 0)=false:=by rw[af];exact U
      clear hkb lJ ht hf Y J hk;obtain⟨z0,z1,z2,z3,z4⟩:=(HA.out.below C HA.out.lt).q5;have T:=aT D;clear D A I;clear C JM;go_wp2_with fail;go_roundg (j+1);case measure=>omega
      case rel=>exact⟨j,jO,jO,⟨_,rfl,rfl⟩,by rw[gh.out,Y2 rfl];exact T,X1⟩
    ·have lkt:=KC D A I (Y gF);have ht1:((xt:Int) != 0)=true:=by rw[azf];exact gF
     have ht2:((xt:Int) == 0)=false:=by rw[af];exact gF
     by_cases U:xf=0
     ·subst U;rcases ht gF with hb|hb
      ·have hk:=hkb hb;have ep:(25:Int)<=(K:Int):=jO;clear hkb lJ ht hf Y J hk;obtain⟨z0,z1,z2,z3,z4⟩:=(HA.out.below C HA.out.lt).q5;have T:=aT D;clear D A I;clear C JM;go_wp2_with fail;go_roundg (j+1);case measure=>omega
       case rel=>exact⟨j,jO,jO,⟨_,rfl,rfl⟩,by rw[gh.out,Y2 rfl];exact T,X1⟩
      ·obtain rfl:K=13:=by
        rw[<-HK.out,hb];rfl
       clear hkb lJ ht hf Y J;obtain⟨z0,z1,z2,z3,z4⟩:=(HA.out.below C HA.out.lt).q5;have T:=aT D;clear D A I;clear C JM;go_wp2_with fail;go_roundg (j+1);case measure=>omega
       case rel=>exact⟨j,jO,jO,⟨_,rfl,rfl⟩,by rw[gh.out,Y2 rfl];exact T,X1⟩
     ·have lkf:=KC D A I (J U);have hk:=hkb (hf U);have ep:(25:Int)<=(K:Int):=jO;have wj:((xf:Int) != 0)=true:=by rw[azf];exact U
      have hf2:((xf:Int) == 0)=false:=by rw[af];exact U
      clear hkb lJ ht hf Y J hk;obtain⟨z0,z1,z2,z3,z4⟩:=(HA.out.below C HA.out.lt).q5;have T:=aT D;clear D A I;clear C JM;go_wp2_with fail;go_roundg (j+1);case measure=>omega
      case rel=>exact⟨j,jO,jO,⟨_,rfl,rfl⟩,by rw[gh.out,Y2 rfl];exact T,X1⟩
   ·obtain⟨he,CU,uj⟩:=kG.1 mV;unfold Zr at he;injection he with _ e1 e2 e3 e4;subst e1 e2 e3 e4
    have Z:xm∉marks (l.drop (j+1)):=by have h1:=VB hFj;rw[Zq (show(⟨xm,0,0,0,0⟩:Z9).mark≠0 from mV)] at h1;exact(ayd.1 h1).1
    have as7:((xm:Int) == 0)=false:=by rw[af];exact mV
    have as8:((xm:Int) != 0)=true:=by rw[azf];exact mV
    have hm3:¬xm<0:=jO;have HA:=aT (Z8.new wr Wm #[.int .i64 xm,.int .u16 0,.int .u32 0,.int .i64 0,.int .i64 0]);have fZ:=HS.out.alloc (.cells #[.int .i64 xm,.int .u16 0,.int .u32 0,.int .i64 0,.int .i64 0] Wm);have HBa:=aT (HB.out.alloc HB.out.size (.cells #[.int .i64 xm,.int .u16 0,.int .u32 0,.int .i64 0,.int .i64 0] Wm));have lk:=kH fZ GF ⟨CU,uj⟩ Z;obtain⟨w2,u2,m2,g2⟩:=rE fZ GF ⟨CU,uj⟩ Z;have X1:=aT (HBa.out.grown g2 HBa.out.size (λk e=>by have:=au e;omega));have T:=aT m2;clear kG hFj hOr GF hFr hnd HS HB fZ m2 g2 Z;go_upto_region 6 with fail;generalize wr.alloc (.cells #[.int .i64 xm,.int .u16 0,.int .u32 0,.int .i64 0,.int .i64 0] Wm)=wa at*;generalize wr.heap.size=B1 at*;clear y0 y1 y2 y3 y4;obtain⟨z0,z1,z2,z3,z4⟩:=HA.out.q5;go_wp2_with fail;go_roundg (j+1);case measure=>omega
    case rel=>exact⟨j,jO,jO,⟨_,rfl,rfl⟩,by rw[gh.out,Zq (show(⟨xm,0,0,0,0⟩:Z9).mark≠0 from mV)];exact T,X1⟩
end Go.Proofs.YtclgigmgbebhgaaGreatDoor
namespace Go.Proofs.YtclgigmgbebhgaaGreatDoor
open Tryz
open Go Go.Proofs
theorem UI{α:Type}{a b:List α}{x y:α}(h:a++[x]=b++[y]):x=y:=by
 have:=ax List.getLast? h;simpa using this
theorem KB{l p r:List Z9}{x y:Z9}(e:l=p++x::r){q:List Z9}(hl:l=q++[y])(hy:y.mark=0)(C:x≠y):Z6 r≠[]:=by
 cases r with
 |nil=>
  exact absurd (UI (a:=p) (b:=q) (e.symm.trans hl)) C
 |cons z A=>
  have e2:z::A=(z::A).dropLast++[(z::A).getLast jS]:=(apd jS).symm;have e3:l=(p++x::(z::A).dropLast)++[(z::A).getLast jS]:=by
   rw[e]
   conv=>lhs;rw[e2]
   simp
  have e4:(z::A).getLast jS=y:=UI (e3.symm.trans hl);rw[e2,e4,Yl,YC hy];simp
theorem Oj:∀(l:List Z9) (n:Nat) (x:Z9),(Z6 l)[n]? =some x->∃p r,l=p++x::r/\x.mark=0/\(Z6 p).length=n
 |[],n,x,h=>by simp[Z6] at h
 |y::l,n,x,h=>by
  by_cases hz:y.mark=0
  ·rw[YC hz] at h;cases n with
   |zero=>
    simp at h;subst h;exact⟨[],l,rfl,hz,rfl⟩
   |succ n=>
    obtain⟨p,r,C,A,D⟩:=Oj l n x (by simpa using h);exact⟨y::p,r,by rw[C];rfl,A,by rw[YC hz,aj,D]⟩
  ·rw[W9 hz] at h;obtain⟨p,r,C,A,D⟩:=Oj l n x h;exact⟨y::p,r,by rw[C];rfl,A,by rw[W9 hz,D]⟩
theorem U2.cw{l:List Z9}{out:List ZL}{at_:Nat->Nat}{ZV far:Nat->Bool}(h:U2 l out at_ ZV far){n:Nat}(hn:n<(Z6 l).length)(hu:ZV n=false):at_ n<at_ (Z6 l).length:=by
 obtain⟨x,hx⟩:∃x,(Z6 l)[n]? =some x:=⟨_,aM hn⟩;have D:=h.next _ _ hx;have C:1<=(encI x (ZV n) (far n) (at_ n) (at_ (target l n x.t)) (at_ (target l n x.f))).length:=by
  unfold encI;rw[hu,aN jD];split;·simp
  ·split;·simp
   ·split<;>simp
 obtain⟨d,hd⟩:∃d,(Z6 l).length=n+1+d:=⟨(Z6 l).length-(n+1),jO⟩;have A:=h.mono d (n+1) jO;rw[<-hd] at A;omega
theorem U2.size{l:List Z9}{out:List ZL}{at_:Nat->Nat}{ZV far:Nat->Bool}(h:U2 l out at_ ZV far)(I:at_ 0=0):at_ (Z6 l).length=out.length:=by
 have A:∀n,n<=(Z6 l).length->out.length=at_ n+(out.drop (at_ n)).length:=by
  intro n
  induction n with
  |zero=>intro _;rw[I];simp
  |succ n C=>
   intro hn;have C:=C jO;obtain⟨x,hx⟩:∃x,(Z6 l)[n]? =some x:=⟨_,aM jO⟩;have J:=h.next _ _ hx;have D:=h.write _ _ hx;rw[D,ay] at C;omega
 have:=A _ (aP _);rw[h.last] at this;simpa using this.symm
theorem yQ{l:List Z9}{out:List ZL}{at_:Nat->Nat}{ZV far:Nat->Bool}(hf:ZT l)(h:U2 l out at_ ZV far)(h0:at_ 0=0){q:List Z9}{y:Z9}(hl:l=q++[y])(hy:y.mark=0)(D8:y.code=0x06)(hld:∀x∈Z6 l,x.code=0x20->x.k%4=0/\x.k<64):
 ∀n,n<=(Z6 l).length->∀j i,j<at_ n->out[j]? =some i->rG i (out.length-1-j)
 |0,_,j,i,hj,_=>jO
 |n+1,hn,j,i,hj,hi=>by
  by_cases hlt:j<at_ n;·exact yQ hf h h0 hl hy D8 hld n jO j i hlt hi
  ·obtain⟨x,hx⟩:∃x,(Z6 l)[n]? =some x:=⟨_,aM jO⟩;have C:=h.next _ _ hx;have hwr:=h.write _ _ hx;have hsz:=h.size h0;have Y:=h.code x (ag hx);have hlx:=hld x (ag hx);obtain⟨p,r,e,hx0,rB⟩:=Oj l n x hx
   have A:(out.drop (at_ n))[j-at_ n]? =some i:=by rw[avf,show at_ n+(j-at_ n)=j from jO];exact hi
   have hlen:j-at_ n<(encI x (ZV n) (far n) (at_ n) (at_ (target l n x.t)) (at_ (target l n x.f))).length:=jO;rw[hwr,abc hlen] at A;obtain⟨ft,ff⟩:=ZT.here p (e▸hf) hx0;have T:∀m,(m≠0->m∈marks r)->x.code≠0x06->ZV (target l n m)=false->at_ (target l n m)<out.length/\at_ (n+1)<=at_ (target l n m):=by
    intro m hm h6 hu;have hb:Z6 r≠[]:=KB e hl hy (by rintro rfl;exact h6 D8);have Z:∀q' y',l=q'++[y']->y'.mark=0:=λq' y' hq'=>by have:=UI (hl.symm.trans hq');rw[<-this];exact hy
    have ht:=IU hf e hx0 hm hb Z;rw[rB] at ht;have hp:=h.cw ht hu;obtain⟨_,_,_,eF,_⟩:=Vv (p:=p) (x:=x) (r:=r) (e▸hf) hx0 hm;rw[<-e,rB] at eF;obtain⟨d,hd⟩:∃d,target l n m=n+1+d:=⟨_,(Nat.add_sub_cancel' eF).symm⟩;have cu:=h.mono d (n+1) jO;rw[<-hd] at cu;exact⟨jO,cu⟩
   cases hu:ZV n with
   |true=>
    unfold encI at A;rw[hu,aH rfl] at A;simp at A
   |false=>
    unfold encI at A C;rw[hu,aN jD] at A C;have I:∀k rest,k<rest->rG ⟨0x05,0,0,k⟩ rest:=λk rest hk=>⟨.inr (.inr (.inl rfl)),λe=>absurd (show(5:Nat)=32 from e) jD,λ_=>hk,λe=>absurd (show false=true from e) jD⟩
    by_cases J:far n=true
    ·have D:=h.branch _ _ hx J;have hc:=Ps D;obtain⟨y1,y2⟩:=T x.t ft hc.2.2.2 (h.yes _ _ hx hu hc.2.2.2);obtain⟨z1,z2⟩:=T x.f ff hc.2.2.2 (h.no _ _ hx hu D);rw[aH J] at A C;simp only[aj,acg] at C;obtain⟨m,hm⟩:∃m,j=at_ n+m:=⟨j-at_ n,jO⟩;rw[hm,Nat.add_sub_cancel_left] at A;rw[hm] at hj ⊢
     match m,A with
     |0,A=>
      obtain rfl:=au A;exact⟨.inr (.inr (.inr (.inr D))),λe=>absurd e hc.1,λe=>absurd e hc.2.2.1,λ_=>⟨by show 0<_;omega,by show 1<_;omega⟩⟩
     |1,A=>
      obtain rfl:=au A;exact I _ _ jO
     |2,A=>
      obtain rfl:=au A;exact I _ _ jO
     |m+3,A=>simp at A
    ·rw[aN J] at A C;by_cases U:x.code=0x05;·obtain⟨y1,y2⟩:=T x.t ft jO (h.yes _ _ hx hu jO);rw[aH U] at A C;simp only[aj,acg] at C;obtain rfl:j=at_ n:=jO;rw[alc] at A;obtain rfl:=au A;rw[U];exact I _ _ jO
     ·rw[aN U] at A C;by_cases D:YW x.code=true;·have hc:=Ps D;obtain⟨y1,y2⟩:=T x.t ft hc.2.2.2 (h.yes _ _ hx hu hc.2.2.2);obtain⟨z1,z2⟩:=T x.f ff hc.2.2.2 (h.no _ _ hx hu D);rw[aH D] at A C;simp only[aj,acg] at C;obtain rfl:j=at_ n:=jO;rw[alc] at A;obtain rfl:=au A;exact⟨.inr (.inr (.inr (.inr D))),λe=>absurd e hc.1,λe=>absurd e hc.2.2.1,λ_=>⟨by show at_ (target l n x.t)-at_ n-1<_;omega,by show at_ (target l n x.f)-at_ n-1<_;omega⟩⟩
      ·rw[aN D] at A C;simp only[aj,acg] at C;obtain rfl:j=at_ n:=jO;rw[alc] at A;obtain rfl:=au A;exact⟨Y,hlx,λe=>absurd e U,λe=>absurd e D⟩
end Go.Proofs.YtclgigmgbebhgaaGreatDoor
namespace Go.Proofs.YtclgigmgbebhgaaGreatDoor
open Tryz
open Go Go.Proofs Go.RowKit
theorem D7{α β:Type}(f:α->List β)(k:Nat)(hk:∀x,(f x).length=k):∀(l:List α) (i:Nat) (x A:α) (j:Nat) (u:β),l[i]? =some x->j<k->f A=(f x).set j u->(l.flatMap f).set (i*k+j) u=(l.set i A).flatMap f
 |[],i,x,A,j,u,h,_,_=>by simp at h
 |y::l,0,x,A,j,u,h,hj,hf=>by rw[aL] at h;cases h;rw[acb,aQ,acb,Nat.zero_mul,adf,List.set_append_left _ _ (by rw[hk];exact hj),hf]
 |y::l,i+1,x,A,j,u,h,hj,hf=>by rw[aF] at h;have C:=D7 f k hk l i x A j u h hj hf;rw[acb,aR,acb,List.set_append_right _ _ (by rw[hk,arb];omega),hk,show(i+1)*k+j-k=i*k+j by rw[arb];omega,C]
theorem Vw{α:Type}{f:α->List Value}{k:Nat}(hk:∀x,(f x).length=k){W:World}{LO e c n g:Nat}{l:List α}(h:W.ownsRow LO e k (.slice (some ⟨g,0,none⟩) n c) n (l.flatMap f)){i j:Nat}{x x':α}{u:Value}(hx:l[i]? =some x)(D:j<k)(hf:f x'=(f x).set j u):
 (W.setCell ⟨g,i*k+j,none⟩ u).ownsRow LO e k (.slice (some ⟨g,0,none⟩) n c) n ((l.set i x').flatMap f)/\W.grownBy (W.setCell ⟨g,i*k+j,none⟩ u) (some g):=by
 obtain⟨A,C⟩:=h.stored (i*k+j) u;rw[D7 f k hk l i x x' j u hx D hf] at A;exact⟨A,C⟩
structure Sx where
 i:Z9
 kind:Nat
 (yes no:Int)
 far:Bool
 at_:Nat
 ZV:Bool
abbrev Tr:Nat:=164
def Y5(s:Sx):List Value:=[.int .i64 s.i.mark,.int .u16 s.i.code,.int .u32 s.i.k,.int .i64 s.i.t,.int .i64 s.i.f,.int .i64 s.kind,.int .i64 s.yes,.int .i64 s.no,.bool s.far,.int .i64 s.at_,.bool s.ZV]
theorem ct:(prog.info? Tr).map (λi=>(i.zero,i.size,i.bytes))=some (some (.agg #[.int .i64 0,.int .u16 0,.int .u32 0,.int .i64 0,.int .i64 0,.int .i64 0,.int .i64 0,.int .i64 0,.bool false,.int .i64 0,.bool false]),11,80):=jK
def Oi(l:List Z9)(n:Nat)(x:Z9):Int:=if x.code=0x06 then -1 else(target l n x.t:Int)
def BH(l:List Z9)(n:Nat)(x:Z9):Int:=if YW x.code=true then(target l n x.f:Int) else -1
def Zp(l:List Z9)(d:Nat)(ZV far:Nat->Bool)(at_:Nat->Nat)(m:Nat)(x:Z9):Sx:=⟨x,Zz x.code,if m<d then Oi l m x else 0,if m<d then BH l m x else 0,far m,at_ m,ZV m⟩
def Yu(l:List Z9)(d:Nat)(ZV far:Nat->Bool)(at_:Nat->Nat):List Sx:=(Z6 l).mapIdx (Zp l d ZV far at_)
theorem V7(l:List Z9)(d:Nat)(ZV far:Nat->Bool)(at_:Nat->Nat):(Yu l d ZV far at_).length=(Z6 l).length:=List.length_mapIdx
theorem Xw(l:List Z9)(d:Nat)(ZV far:Nat->Bool)(at_:Nat->Nat)(m:Nat):(Yu l d ZV far at_)[m]? =((Z6 l)[m]?).map (Zp l d ZV far at_ m):=List.getElem?_mapIdx
theorem V6{l:List Z9}{d:Nat}{ZV far:Nat->Bool}{at_:Nat->Nat}{m:Nat}{x:Z9}(h:(Z6 l)[m]? =some x):(Yu l d ZV far at_)[m]? =some (Zp l d ZV far at_ m x):=by rw[Xw,h];rfl
theorem Tq{l:List Z9}{d d':Nat}{ZV far BG KA:Nat->Bool}{at_ at':Nat->Nat}{m:Nat}{x:Z9}(h:(Z6 l)[m]? =some x)(A:∀n x,n≠m->Zp l d' BG KA at' n x=Zp l d ZV far at_ n x):Yu l d' BG KA at'=(Yu l d ZV far at_).set m (Zp l d' BG KA at' m x):=by
 apply agb;intro n;rw[List.getElem?_set,Xw,Xw,V7];by_cases hn:m=n;·subst hn;rw[aH rfl,aH (aq.1 h).1,h];rfl
 ·rw[aN hn];cases (Z6 l)[n]? with
  |none=>rfl
  |some y=>show some _=some _;rw[A n y (ana hn)]
def upd{β:Type}(f:Nat->β)(n:Nat)(v:β):Nat->β:=λm=>if m=n then v else f m
theorem upd_same{β:Type}(f:Nat->β)(n:Nat)(v:β):upd f n v n=v:=aH rfl
theorem TV{β:Type}(f:Nat->β){n m:Nat}(v:β)(h:m≠n):upd f n v m=f m:=aN h
def Zb:List Z9->Nat->List (Int×Nat)
 |[],_=>[]
 |x::r,n=>if x.mark≠0 then(x.mark,n)::Zb r n else Zb r (n+1)
theorem Rt{x:Z9}(h:x.mark=0)(r:List Z9)(n:Nat):Zb (x::r) n=Zb r (n+1):=by
 show(if x.mark≠0 then _ else _)=_;rw[aN (λe=>e h)]
theorem Tp{x:Z9}(h:x.mark≠0)(r:List Z9)(n:Nat):Zb (x::r) n=(x.mark,n)::Zb r n:=by
 show(if x.mark≠0 then _ else _)=_;rw[aH h]
theorem Rs:∀(a b:List Z9) (n:Nat),Zb (a++b) n=Zb a n++Zb b (n+(Z6 a).length)
 |[],b,n=>rfl
 |x::a,b,n=>by
  have A:=λm=>Rs a b m
  rw[ahb];by_cases hx:x.mark=0;·rw[Rt hx,Rt hx,A,YC hx,aj,show n+1+(Z6 a).length=n+((Z6 a).length+1) from jO]
  ·rw[Tp hx,Tp hx,A,W9 hx,ahb]
theorem WC:∀(l:List Z9) (n:Nat),(Zb l n).map (·.1)=marks l
 |[],_=>rfl
 |x::l,n=>by
  unfold Zb;by_cases hx:x.mark=0;·rw[aN (λh=>h hx),WC l,Y2 hx]
  ·rw[aH hx,aed,WC l,Zq hx]
theorem Rq:∀(l:List Z9) (n:Nat) (m:Int),m∈marks l->(m,n+((Z6 l).length-(Z6 (U9 m l)).length))∈Zb l n
 |[],_,m,h=>by cases h
 |x::l,n,m,h=>by
  unfold Zb U9;by_cases hx:x.mark=0
  ·rw[Y2 hx] at h;have I:=Rq l (n+1) m h;have D:=Lz l m
   have C:x.mark≠m:=by rintro rfl;unfold marks at h;obtain⟨y,hy,e⟩:=ah.1 h;have:=(apg.1 hy).2;rw[hx] at e;simp[e] at this
   rw[aN (λh=>h hx),aN C,YC hx,aj];rw[show n+((Z6 l).length+1-(Z6 (U9 m l)).length)=n+1+((Z6 l).length-(Z6 (U9 m l)).length) from jO];exact I
  ·rw[aH hx,W9 hx];by_cases A:x.mark=m;·rw[aH A,alc,A];exact agd
   ·rw[aN A];rw[Zq hx] at h;rcases abf.1 h with e|h;·exact absurd e.symm A
    ·exact aff _ (Rq l n m h)
theorem wh{l:List Z9}{m:Int}(h:m∈marks l):(m,place l m)∈Zb l 0:=by
 have:=Rq l 0 m h;rwa [adf] at this
end Go.Proofs.YtclgigmgbebhgaaGreatDoor
