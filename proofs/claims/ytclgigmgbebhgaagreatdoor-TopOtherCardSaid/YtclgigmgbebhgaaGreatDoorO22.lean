/- TopOther: part 22: TopMedU TopBrkU. -/
import Derived.Test.YtclgigmgbebhgaaGreatDoorO18
import Derived.Test.YtclgigmgbebhgaaGreatDoorO19
set_option linter.unusedVariables false
set_option linter.unusedSimpArgs false
set_option maxRecDepth 100000
set_option maxHeartbeats 16000000
namespace Go.Proofs.YtclgigmgbebhgaaGreatDoor
open Tryz
open Go Go.Proofs Go.RowKit
variable {d0:Array Nat} {g cap a:Nat} {w w0:World}
theorem LA{α:Type}(f:α->α)(X os:Array α){B:Nat}(h:X.size<=B):(X++os).modify B f=X++os.modify (B-X.size) f:=by
 apply Array.ext_getElem?;intro i;rw[ake,Array.getElem?_append,Array.getElem?_append,ake];by_cases hi:i<X.size;·rw[aG hi,aG hi,aN jO]
 ·rw[aN hi,aN hi];by_cases e:B=i;·subst e;rw[aG rfl,aG rfl]
  ·rw[aN e,aN jO]
theorem X0.qw{W:World}{n B j:Nat}{d d':Array Nat}(h:X0 w g n d W d')(U:w.heap.size<=B)(v:Value):X0 w g n d (W.setCell ⟨B,j,none⟩ v) d':=by
 obtain⟨⟨I,k,os,rfl⟩,D,hs,hp,J⟩:=h;refine⟨⟨I,k,os.modify (B-w.heap.size) (Go.Sort.onCells (λcs=>cs.setIfInBounds j v)),?_⟩,D,hs,hp,?_⟩
 ·have hz:(Sort.putRow ZK (Sort.ahead w k) g 0 d').heap.size=w.heap.size:=size_putRow k
  have e:∀(X:World) (f:Obj->Obj),X.heap.size<=B->({Sort.grow X os with heap:=(Sort.grow X os).heap.modify B f}:World)=Sort.grow X (os.modify (B-X.heap.size) f):=λX f h=>by show({X with heap:=(X.heap++os).modify B f}:World)={X with heap:=X.heap++os.modify (B-X.heap.size) f};rw[LA f X.heap os h]
  have A:=e (Sort.putRow ZK (Sort.ahead w k) g 0 d') (Go.Sort.onCells (λcs=>cs.setIfInBounds j v)) (by rw[hz];exact U);rw[hz] at A;rw[Sort.setCell_eq];exact A
 ·intro t ht;obtain⟨A,T⟩:=J t ht;have C:g≠B:=jO;exact⟨(by rw[ahb _ _ _ _ (by simp[C])];exact A),(by rw[World.frozen?_setCell];exact T)⟩
def fg(w:World)(g n:Nat)(d:Array Nat)(B:Nat)(W:World)(d':Array Nat):Prop:=X0 w g n d W d'/\w.heap.size<=B/\∃s:Int,Z7 W B 3 #[.int .i64 s]
theorem J8 {n B b:Nat}{d:Array Nat}(w:World)(hS:fg w0 g n d B w d0)(ha:a<n)(hb:b<n)(hn:n<=1000000):Calls prog 349 #[.slice (some ⟨g,0,none⟩) n cap,.int .i64 a,.int .i64 b,.pointer (some ⟨B,0,none⟩)] w λe w'=>∃x y:Nat,e=.returned (.tuple #[.int .i64 x,.int .i64 y])/\((x=a/\y=b)\/(x=b/\y=a))/\fg w0 g n d B w' d0:=by
 obtain⟨I,J,s,hs⟩:=hS;obtain⟨G,hG,C⟩:=I.cells;clear hG;have Z:=(C a ha).1;have Y:=(C b hb).1;have n0:=jZ a;have x0:(a:Int)<(n:Int):=jO;have n1:=jZ b;have x1:(b:Int)<(n:Int):=jO;have T:=aT I;have U:=aT hs;clear C I hs;go_enter func349,ntmps349;go_upto_region 1 with fail;go_quiet (first|(go_at_call 253;refine Calls.quiet_of_same (Yz _ _ _)));have D:=aT (T.drew nq);have A:Hid (Z7 (w.drewN nq) B 3 #[.int .i64 s]):=U;by_cases hl:(G b:Int)<(G a:Int)
 ·go_upto_region 2 with fail;clear Z Y T U;generalize w.drewN nq=wq at*;have y0:=A.cell 0;have f0:=A.frozen 0;simp only[ak,aL] at y0;go_wp2_with fail;go_ret2;exact⟨b,a,rfl,.inr ⟨rfl,rfl⟩,D.qw J _,J,_,A.set 0 _⟩
 ·go_wp2_with fail;go_ret2;exact⟨a,b,rfl,.inl ⟨rfl,rfl⟩,D,J,_,A⟩
theorem yw {n B b c lo hi:Nat}{d:Array Nat}(w:World)(hS:fg w0 g n d B w d0)(ha:lo<=a/\a<hi)(hb:lo<=b/\b<hi)(hc:lo<=c/\c<hi)(hh:hi<=n)(hn:n<=1000000):Calls prog 325 #[.slice (some ⟨g,0,none⟩) n cap,.int .i64 a,.int .i64 b,.int .i64 c,.pointer (some ⟨B,0,none⟩)] w λe w'=>∃x:Nat,e=.returned (.int .i64 x)/\(lo<=x/\x<hi)/\fg w0 g n d B w' d0:=by
 have HS:=aT hS;clear hS;go_enter func325,ntmps325;go_wp2_with fail;refine(J8 (cap:=cap) w HS (show a<n from jO) (show b<n from jO) hn).mono ?_;rintro e w1 ⟨a1,Y,rfl,C,A⟩;have I:=aT A;have ha1:lo<=a1/\a1<hi:=jO;have hb1:lo<=Y/\Y<hi:=jO;clear C A HS;go_wp2_with fail;refine(J8 (cap:=cap) w1 I (show Y<n from jO) (show c<n from jO) hn).mono ?_;rintro e w2 ⟨J,c2,rfl,C,A⟩;have D:=aT A;have hb2:lo<=J/\J<hi:=jO;clear C A I;go_wp2_with fail;refine(J8 (cap:=cap) w2 D (show a1<n from jO) (show J<n from jO) hn).mono ?_;rintro e w3 ⟨a3,Z,rfl,C,A⟩;have T:=aT A;have U:lo<=Z/\Z<hi:=jO;clear C A D;go_wp2_with fail;go_ret;exact⟨Z,rfl,U,T⟩
theorem J7 {n B lo hi:Nat}{d:Array Nat}(w:World)(hS:fg w0 g n d B w d0)(ha:lo<a/\a+1<hi)(J:hi<=n)(hn:n<=1000000):Calls prog 324 #[.slice (some ⟨g,0,none⟩) n cap,.int .i64 a,.pointer (some ⟨B,0,none⟩)] w λe w'=>∃x:Nat,e=.returned (.int .i64 x)/\(lo<=x/\x<hi)/\fg w0 g n d B w' d0:=by
 obtain⟨p,hp⟩:=jX (a-1);obtain⟨q,I⟩:=jX (a+1);have U:IntKind.i64.wrap ((a:Int)-1)=(p:Int):=by rw[aJ _ jO];omega
 have D:IntKind.i64.wrap ((a:Int)+1)=(q:Int):=by rw[aJ _ jO];omega
 have C:=aT (yw (cap:=cap) (lo:=lo) (hi:=hi) w hS (show lo<=p/\p<hi from jO) (show lo<=a/\a<hi from jO) (show lo<=q/\q<hi from jO) J hn);clear hS hp I;go_enter func324,ntmps324;go_wp2_with fail;refine C.mono ?_;rintro e Y ⟨x,rfl,hx,A⟩;have T:=aT A;clear A C;go_wp2_with fail;go_ret;exact⟨x,rfl,hx,T⟩
theorem qq {n b:Nat}{d:Array Nat}(hH:Sort.Holds ZK w g 0 d)(hd:d.size=n)(hab:12<b-a)(hb:b<=n)(hn:n<=1000000):Calls prog 250 #[.slice (some ⟨g,0,none⟩) n cap,.int .i64 a,.int .i64 b] w (mG w g n d (λv=>∃(p:Nat) (h:Int),v=.tuple #[.int .i64 p,.int .i64 h]/\a<=p/\p<b)):=by
 have A:Hid (fg w g n d w.heap.size (w.alloc (.cells #[.int .i64 0] 3)) d):=⟨(X0.start hH hd jO).grow _,aR _,0,Z7.new w _ _⟩;obtain⟨l,hl⟩:=jX (b-a);obtain⟨s,hs⟩:=jX (l/4);obtain⟨i,hi⟩:=jX (a+s);obtain⟨j,hj⟩:=jX (a+s*2);obtain⟨k,hk⟩:=jX (a+s*3);have iwl:IntKind.i64.wrap ((b:Int)-(a:Int))=(l:Int):=by rw[aJ _ jO];omega
 have iws:IntKind.i64.wrap ((l:Int)/4)=(s:Int):=by rw[aJ _ jO];omega
 have ay4:IntKind.i64.wrap ((l:Int).tdiv 4)=(s:Int):=by rw[aqe jO,aJ _ jO];omega
 have iw1:IntKind.i64.wrap ((s:Int)*1)=(s:Int):=by rw[aJ _ jO];omega
 have aJ6:IntKind.i64.wrap (s:Int)=(s:Int):=aJ _ jO;have iw2:IntKind.i64.wrap ((s:Int)*2)=(s:Int)*2:=aJ _ jO;have iw3:IntKind.i64.wrap ((s:Int)*3)=(s:Int)*3:=aJ _ jO;have Jz:IntKind.i64.wrap ((a:Int)+(s:Int))=(i:Int):=by rw[aJ _ jO];omega
 have mF:IntKind.i64.wrap ((a:Int)+(s:Int)*2)=(j:Int):=by rw[aJ _ jO];omega
 have iwk:IntKind.i64.wrap ((a:Int)+(s:Int)*3)=(k:Int):=by rw[aJ _ jO];omega
 have J:a<i/\i+1<b:=jO;have I:a<j/\j+1<b:=jO;have T:a<k/\k+1<b:=jO;have h8:(8:Int)<=(l:Int):=jO;clear hH hd hl hs hi hj hk;go_enter func250,ntmps250;go_upto_region 3 with fail;generalize w.alloc (.cells #[.int .i64 0] 3)=w1 at*;generalize w.heap.size=B at*;go_upto_if 34 with fail
 go_cut [10,11,12] from 13 to 48 (λs1 s2 s3 wx=>∃x y z:Nat,s1=.int .i64 (x:Int)/\s2=.int .i64 (y:Int)/\s3=.int .i64 (z:Int)/\(a<=x/\x<b)/\(a<=y/\y<b)/\(a<=z/\z<b)/\Hid (fg w g n d B wx d))
 case first=>
  by_cases h50:(50:Int)<=(l:Int);·go_wp2_with fail;refine(J7 (cap:=cap) (lo:=a) (hi:=b) w1 A J hb hn).mono ?_;rintro e w2 ⟨x,rfl,hx,h2⟩;have H2:=aT h2;clear h2;go_wp2_with fail;refine(J7 (cap:=cap) (lo:=a) (hi:=b) w2 H2 I hb hn).mono ?_;rintro e w3 ⟨y,rfl,hy,Z⟩;have H3:=aT Z;clear Z;go_wp2_with fail;refine(J7 (cap:=cap) (lo:=a) (hi:=b) w3 H3 T hb hn).mono ?_;rintro e w4 ⟨z,rfl,hz,h4⟩;have D:=aT h4;clear h4;go_wp2_with fail;go_meet;exact⟨x,y,z,rfl,rfl,rfl,hx,hy,hz,D⟩
  ·go_wp2_with fail;go_meet;exact⟨i,j,k,rfl,rfl,rfl,jO,jO,jO,A⟩
 case rest=>
  obtain⟨x,y,z,rfl,rfl,rfl,hx,hy,hz,D⟩:=hcut;go_wp2_with fail;refine(yw (cap:=cap) (lo:=a) (hi:=b) _ D hx hy hz hb hn).mono ?_;rintro e w5 ⟨p,rfl,hp,Y⟩;have C:=aT Y;obtain⟨_,_,q,hq⟩:=Y;have y0:=hq.e0;clear hq;by_cases U:q=0;·subst U;go_wp2_with fail;go_ret2;exact⟨_,d,rfl,⟨p,_,rfl,hp.1,hp.2⟩,C.1⟩
  ·have h0':(q == 0)=false:=by rw[ae];exact U
   by_cases h1:q=12;·subst h1;go_wp2_with fail;go_ret2;exact⟨_,d,rfl,⟨p,_,rfl,hp.1,hp.2⟩,C.1⟩
   ·have h1':(q == 12)=false:=by rw[ae];exact h1
    go_wp2_with fail;go_ret2;exact⟨_,d,rfl,⟨p,_,rfl,hp.1,hp.2⟩,C.1⟩
end Go.Proofs.YtclgigmgbebhgaaGreatDoor
namespace Go.Proofs.YtclgigmgbebhgaaGreatDoor
open Tryz
open Go Go.Proofs Go.RowKit Go.Shelf
theorem qp(n:Nat)(C:0<n)(A:n<=1000000)(w:World):Calls prog 226 #[.int .i64 n] w λe w'=>∃M:Nat,e=.returned (.int .u64 M)/\n<M/\M<=2*n/\w'=w:=by
 have h:Calls prog 226 #[.int .i64 n] w λe w'=>e=.returned (.int .u64 ((1 <<< Go.Sort.bitsLen n:Nat):Int))/\w'=w:=calls_of_every_depth λD=>AnySM.nextPowerOfTwoIn {Tryz.sortInt with} D n jO w
 refine h.mono ?_;rintro e w' ⟨rfl,rfl⟩;have e1:1 <<< Go.Sort.bitsLen n=2 ^ Go.Sort.bitsLen n:=by rw[Nat.shiftLeft_eq,Nat.one_mul]
 rw[e1];refine⟨_,rfl,(Go.Sort.bitsLen_le_iff n _).1 (aR _),?_,rfl⟩;cases I:Go.Sort.bitsLen n with
 |zero=>rw[Nat.pow_zero];omega
 |succ L=>
  have J:¬n<2 ^ L:=λh=>by have:=(Go.Sort.bitsLen_le_iff n L).2 h;omega
  rw[Nat.pow_succ];omega
theorem qo{B X:Nat}(w:World)(hX:X<18446744073709551616)(h:Z7 w B 334 #[.int .u64 X]):Calls prog 227 #[.pointer (some ⟨B,0,none⟩)] w λe w'=>∃R:Nat,R<18446744073709551616/\e=.returned (.int .u64 R)/\w'=(w.setCell ⟨B,0,none⟩ (.int .u64 R)).drewN 3:=by
 have h:=calls_of_every_depth λD=>AnySM.xorshift_NextIn {Tryz.sortInt with} D B 0 X hX w (by have:=h.cell 0;simpa using this) (h.frozen 0)
 refine h.mono ?_;rintro e w' ⟨rfl,rfl⟩;refine⟨_,?_,rfl,rfl⟩;unfold Go.Sort.xorNextN;have A:∀x:Nat,x<18446744073709551616->x<2 ^ 64:=λx h=>h
 have hA:X ^^^ X*8192%18446744073709551616<18446744073709551616:=Nat.xor_lt_two_pow (n:=64) (A _ hX) (A _ jO);have C:(X ^^^ X*8192%18446744073709551616) ^^^ (X ^^^ X*8192%18446744073709551616)/128<18446744073709551616:=Nat.xor_lt_two_pow (n:=64) (A _ hA) (A _ jO);exact Nat.xor_lt_two_pow (n:=64) (A _ C) (A _ (awa _ jD))
theorem AH{w:World}{g n cap a b:Nat}{d:Array Nat}(hH:Sort.Holds ZK w g 0 d)(hd:d.size=n)(hab:12<b-a)(hb:b<=n)(hn:n<=1000000):Calls prog 249 #[.slice (some ⟨g,0,none⟩) n cap,.int .i64 a,.int .i64 b] w (mG w g n d (λv=>v=.tuple #[])):=by
 obtain⟨l,hl⟩:=jX (b-a);obtain⟨s,hs⟩:=jX (l/4);obtain⟨E,hE⟩:=jX (a+s*2+1);obtain⟨E0,hE0⟩:∃E,a+s*2-1=E:=⟨_,rfl⟩;have iwl:IntKind.i64.wrap ((b:Int)-(a:Int))=(l:Int):=by rw[aJ _ jO];omega
 have iwu:IntKind.u64.wrap (l:Int)=(l:Int):=ava _ jO;have iws:IntKind.i64.wrap ((l:Int)/4)=(s:Int):=by rw[aJ _ jO];omega
 have ay4:IntKind.i64.wrap ((l:Int).tdiv 4)=(s:Int):=by rw[aqe jO,aJ _ jO];omega
 have iw2:IntKind.i64.wrap ((s:Int)*2)=(s:Int)*2:=aJ _ jO;have mF:IntKind.i64.wrap ((a:Int)+(s:Int)*2)=(a:Int)+(s:Int)*2:=aJ _ jO;have iwE:IntKind.i64.wrap ((a:Int)+(s:Int)*2+1)=(E:Int):=by rw[aJ _ jO];omega
 have aJ7:IntKind.i64.wrap ((a:Int)+(s:Int)*2-1)=(E0:Int):=by rw[aJ _ jO];omega
 have hEn:E<n:=jO;have aJ8:E0<=E:=jO;have hal:a+l<=n:=jO;have h8:(8:Int)<=(l:Int):=jO;have hl0:0<l/\l<=1000000:=jO;have Uj:=aT ((X0.start hH hd jO).grow (.cells #[.int .u64 l] 334));have Z:=aT (Z7.new w 334 #[.int .u64 l]);clear hH hd hl hs hE hE0 hab;go_enter func249,ntmps249;go_upto_region 3 with fail;generalize w.alloc (.cells #[.int .u64 l] 334)=w1 at*;obtain⟨B,hB⟩:=jX w.heap.size;have HBw:=aT hB;rw[hB] at Z ⊢;clear hB;go_wp2_with fail;refine(qp l hl0.1 hl0.2 w1).mono ?_;rintro e w2 ⟨M,rfl,lX,hM2,rfl⟩;have iwM:IntKind.u64.wrap ((M:Int)-1)=((M-1:Nat):Int):=by rw[ava _ jO];omega
 obtain⟨M1,hM3⟩:=jX (M-1);rw[hM3] at iwM;have hM4:l<=M1/\M1<2*l:=jO;clear hM3 lX hM2;go_upto_region 5 with fail;go_loopg [9] (E+2) (λgg vi wr=>∃(i X:Nat) (J:Array Nat),i<=E+1/\E+1-i<gg/\vi=.int .i64 (i:Int)/\X<18446744073709551616/\Hid (Z7 wr B 334 #[.int .u64 X])/\Hid (X0 w g n d wr J));case atStart=>exact⟨E0,l,d,jO,jO,by first|rfl|go_num,jO,Z,Uj⟩
 case round=>
  obtain⟨i,X,J,hi,VP,rfl,hX,HX,HK⟩:=hrel;clear Z Uj;by_cases hiE:i<=E
  ·have hiz:(i:Int)<=(E:Int):=by omega
   have Jz:=jW i;go_wp2_with fail;refine(qo wr hX HX).mono ?_;rintro e w3 ⟨R,hR,rfl,rfl⟩;have U:Hid (X0 w g n d ((wr.setCell ⟨B,0,none⟩ (.int .u64 R)).drewN 3) J):=(HK.qw (by rw[HBw.out];exact aR _) _).drew 3;have yz:Hid (Z7 ((wr.setCell ⟨B,0,none⟩ (.int .u64 R)).drewN 3) B 334 #[.int .u64 R]):=HX.set 0 _;clear HK HX;generalize (wr.setCell ⟨B,0,none⟩ (.int .u64 R)).drewN 3=w4 at*;have hb1:=bits_and_u64_nat R M1 hR jO;obtain⟨o,ho⟩:=jX (R &&& M1);have ho1:o<=M1:=by rw[<-ho];exact Nat.and_le_right
   rw[ho] at hb1;have iwo:IntKind.i64.wrap (o:Int)=(o:Int):=aJ _ jO;clear ho;go_upto_if 43 with fail
   go_cut [10] from 26 to 64 (λs wx=>∃t:Nat,s=.int .i64 (t:Int)/\t<l/\wx=w4)
   case first=>
    by_cases hol:l<=o
    ·have ay5:(l:Int)<=(o:Int):=by omega
     have iwt:IntKind.i64.wrap ((o:Int)-(l:Int))=((o-l:Nat):Int):=by rw[aJ _ jO];omega
     go_wp2_with fail;go_meet;exact⟨o-l,by first|rfl|go_num,jO,rfl⟩
    ·have ay5:¬(l:Int)<=(o:Int):=by omega
     go_wp2_with fail;go_meet;exact⟨o,rfl,jO,rfl⟩
   case rest=>
    obtain⟨t,rfl,ht,rfl⟩:=hcut;obtain⟨q,hq⟩:=jX (a+t);have kF:IntKind.i64.wrap ((a:Int)+(t:Int))=(q:Int):=by rw[aJ _ jO];omega
    have I:i<n:=jO;have Y:q<n:=jO;have n0:=jZ i;have x0:(i:Int)<(n:Int):=jO;have n1:=jZ q;have x1:(q:Int)<(n:Int):=jO;clear hq hb1 iwo;go_upto_region 10 with fail;obtain⟨G,hG,A⟩:=U.cells;have HG:=aT hG;have T:g≠B:=by have:=U.1.1;have:=HBw.out;omega
    by_cases hqi:i=q
    ·subst hqi;have k1:=(A i I).1;have f1:=(A i I).2;have C:=aT ((U.drew 1).swap I I);have D:=aT ((yz.other (ana T) i (ZK J[i]!)).other (ana T) i (ZK J[i]!));clear hG A;go_region;go_wp2_with fail;go_roundg (E+1-i);case measure=>omega
     case rel=>
      unfold ZK at C D;simp only[<-HG.out] at C D;exact⟨i+1,R,Sort.swp J i i,jO,jO,by go_num,hR,D,C⟩
    ·have k1:=(A i I).1;have k0:=(A q Y).1;have f1:=(A i I).2;have f0:=(A q Y).2;have C:=aT ((U.drew 1).swap I Y);have D:=aT ((yz.other (ana T) i (ZK J[q]!)).other (ana T) q (ZK J[i]!));clear hG A;go_region;go_wp2_with fail;go_roundg (E+1-i);case measure=>omega
     case rel=>
      unfold ZK at C D;simp only[<-HG.out] at C D;exact⟨i+1,R,Sort.swp J i q,jO,jO,by go_num,hR,D,C⟩
  ·have hiz:¬(i:Int)<=(E:Int):=by omega
   go_wp2_with fail;go_end0;exact⟨_,J,rfl,rfl,HK⟩
end Go.Proofs.YtclgigmgbebhgaaGreatDoor
