/- TopFirst: part 22: TopMedU TopBrkU. -/
import Derived.Test.YtclgigmgbebhgaaGreatDoorF18
import Derived.Test.YtclgigmgbebhgaaGreatDoorF19
set_option linter.unusedVariables false
set_option linter.unusedSimpArgs false
set_option maxRecDepth 100000
set_option maxHeartbeats 16000000
namespace Go.Proofs.YtclgigmgbebhgaaGreatDoor
open Tryz
open Go Go.Proofs Go.RowKit
variable {d0:Array Nat} {g cap a:Nat} {w w0:World}
theorem Lq{α:Type}(f:α->α)(X os:Array α){B:Nat}(h:X.size<=B):(X++os).modify B f=X++os.modify (B-X.size) f:=by
 apply Array.ext_getElem?;intro i;rw[ala,Array.getElem?_append,Array.getElem?_append,ala];by_cases hi:i<X.size;·rw[aF hi,aF hi,aN jO]
 ·rw[aN hi,aN hi];by_cases e:B=i;·subst e;rw[aF rfl,aF rfl]
  ·rw[aN e,aN jO]
theorem XV.qb{W:World}{n B j:Nat}{d d':Array Nat}(h:XV w g n d W d')(J:w.heap.size<=B)(v:Value):XV w g n d (W.setCell ⟨B,j,none⟩ v) d':=by
 obtain⟨⟨U,k,os,rfl⟩,Y,hs,hp,I⟩:=h;refine⟨⟨U,k,os.modify (B-w.heap.size) (Go.Sort.onCells (λcs=>cs.setIfInBounds j v)),?_⟩,Y,hs,hp,?_⟩
 ·have hz:(Sort.putRow ZK (Sort.ahead w k) g 0 d').heap.size=w.heap.size:=size_putRow k
  have e:∀(X:World) (f:Obj->Obj),X.heap.size<=B->({Sort.grow X os with heap:=(Sort.grow X os).heap.modify B f}:World)=Sort.grow X (os.modify (B-X.heap.size) f):=λX f h=>by show({X with heap:=(X.heap++os).modify B f}:World)={X with heap:=X.heap++os.modify (B-X.heap.size) f};rw[Lq f X.heap os h]
  have C:=e (Sort.putRow ZK (Sort.ahead w k) g 0 d') (Go.Sort.onCells (λcs=>cs.setIfInBounds j v)) (by rw[hz];exact J);rw[hz] at C;rw[Sort.setCell_eq];exact C
 ·intro t ht;obtain⟨C,T⟩:=I t ht;have D:g≠B:=jO;exact⟨(by rw[agf _ _ _ _ (by simp[D])];exact C),(by rw[World.frozen?_setCell];exact T)⟩
def fH(w:World)(g n:Nat)(d:Array Nat)(B:Nat)(W:World)(d':Array Nat):Prop:=XV w g n d W d'/\w.heap.size<=B/\∃s:Int,Z7 W B 3 #[.int .i64 s]
theorem JZ {n B b:Nat}{d:Array Nat}(w:World)(hS:fH w0 g n d B w d0)(ha:a<n)(hb:b<n)(hn:n<=1000000):Calls prog 349 #[.slice (some ⟨g,0,none⟩) n cap,.int .i64 a,.int .i64 b,.pointer (some ⟨B,0,none⟩)] w λe w'=>∃x y:Nat,e=.returned (.tuple #[.int .i64 x,.int .i64 y])/\((x=a/\y=b)\/(x=b/\y=a))/\fH w0 g n d B w' d0:=by
 obtain⟨T,J,s,hs⟩:=hS;obtain⟨G,Z,D⟩:=T.cells;clear Z;have k0:=(D a ha).1;have k1:=(D b hb).1;have n0:=jZ a;have x0:(a:Int)<(n:Int):=jO;have n1:=jZ b;have x1:(b:Int)<(n:Int):=jO;have U:=aT T;have Y:=aT hs;clear D T hs;go_enter func349,ntmps349;go_upto_region 1 with fail;go_quiet (first|(go_at_call 253;refine Calls.quiet_of_same (Ys _ _ _)));have I:=aT (U.drew nq);have C:Hid (Z7 (w.drewN nq) B 3 #[.int .i64 s]):=Y;by_cases hl:(G b:Int)<(G a:Int)
 ·go_upto_region 2 with fail;clear k0 k1 U Y;generalize w.drewN nq=wq at*;have y0:=C.cell 0;have f0:=C.frozen 0;simp only[au,aM] at y0;go_wp2_with fail;go_ret2;exact⟨b,a,rfl,.inr ⟨rfl,rfl⟩,I.qb J _,J,_,C.set 0 _⟩
 ·go_wp2_with fail;go_ret2;exact⟨a,b,rfl,.inl ⟨rfl,rfl⟩,I,J,_,C⟩
theorem yy {n B b c lo hi:Nat}{d:Array Nat}(w:World)(hS:fH w0 g n d B w d0)(ha:lo<=a/\a<hi)(hb:lo<=b/\b<hi)(hc:lo<=c/\c<hi)(hh:hi<=n)(hn:n<=1000000):Calls prog 325 #[.slice (some ⟨g,0,none⟩) n cap,.int .i64 a,.int .i64 b,.int .i64 c,.pointer (some ⟨B,0,none⟩)] w λe w'=>∃x:Nat,e=.returned (.int .i64 x)/\(lo<=x/\x<hi)/\fH w0 g n d B w' d0:=by
 have HS:=aT hS;clear hS;go_enter func325,ntmps325;go_wp2_with fail;refine(JZ (cap:=cap) w HS (show a<n from jO) (show b<n from jO) hn).mono ?_;rintro e w1 ⟨a1,Y,rfl,I,C⟩;have J:=aT C;have ha1:lo<=a1/\a1<hi:=jO;have hb1:lo<=Y/\Y<hi:=jO;clear I C HS;go_wp2_with fail;refine(JZ (cap:=cap) w1 J (show Y<n from jO) (show c<n from jO) hn).mono ?_;rintro e w2 ⟨U,c2,rfl,I,C⟩;have D:=aT C;have hb2:lo<=U/\U<hi:=jO;clear I C J;go_wp2_with fail;refine(JZ (cap:=cap) w2 D (show a1<n from jO) (show U<n from jO) hn).mono ?_;rintro e w3 ⟨a3,Z,rfl,I,C⟩;have T:=aT C;have hb3:lo<=Z/\Z<hi:=jO;clear I C D;go_wp2_with fail;go_ret;exact⟨Z,rfl,hb3,T⟩
theorem JY {n B lo hi:Nat}{d:Array Nat}(w:World)(hS:fH w0 g n d B w d0)(ha:lo<a/\a+1<hi)(J:hi<=n)(hn:n<=1000000):Calls prog 324 #[.slice (some ⟨g,0,none⟩) n cap,.int .i64 a,.pointer (some ⟨B,0,none⟩)] w λe w'=>∃x:Nat,e=.returned (.int .i64 x)/\(lo<=x/\x<hi)/\fH w0 g n d B w' d0:=by
 obtain⟨p,hp⟩:=jX (a-1);obtain⟨q,Y⟩:=jX (a+1);have U:IntKind.i64.wrap ((a:Int)-1)=(p:Int):=by rw[aJ _ jO];omega
 have I:IntKind.i64.wrap ((a:Int)+1)=(q:Int):=by rw[aJ _ jO];omega
 have D:=aT (yy (cap:=cap) (lo:=lo) (hi:=hi) w hS (show lo<=p/\p<hi from jO) (show lo<=a/\a<hi from jO) (show lo<=q/\q<hi from jO) J hn);clear hS hp Y;go_enter func324,ntmps324;go_wp2_with fail;refine D.mono ?_;rintro e Z ⟨x,rfl,hx,C⟩;have T:=aT C;clear C D;go_wp2_with fail;go_ret;exact⟨x,rfl,hx,T⟩
theorem p9 {n b:Nat}{d:Array Nat}(hH:Sort.Holds ZK w g 0 d)(hd:d.size=n)(hab:12<b-a)(hb:b<=n)(hn:n<=1000000):Calls prog 250 #[.slice (some ⟨g,0,none⟩) n cap,.int .i64 a,.int .i64 b] w (mQ w g n d (λv=>∃(p:Nat) (h:Int),v=.tuple #[.int .i64 p,.int .i64 h]/\a<=p/\p<b)):=by
 have C:Hid (fH w g n d w.heap.size (w.alloc (.cells #[.int .i64 0] 3)) d):=⟨(XV.start hH hd jO).grow _,aR _,0,Z7.new w _ _⟩;obtain⟨l,hl⟩:=jX (b-a);obtain⟨s,hs⟩:=jX (l/4);obtain⟨i,hi⟩:=jX (a+s);obtain⟨j,hj⟩:=jX (a+s*2);obtain⟨k,hk⟩:=jX (a+s*3);have iwl:IntKind.i64.wrap ((b:Int)-(a:Int))=(l:Int):=by rw[aJ _ jO];omega
 have iws:IntKind.i64.wrap ((l:Int)/4)=(s:Int):=by rw[aJ _ jO];omega
 have ay4:IntKind.i64.wrap ((l:Int).tdiv 4)=(s:Int):=by rw[aqc jO,aJ _ jO];omega
 have iw1:IntKind.i64.wrap ((s:Int)*1)=(s:Int):=by rw[aJ _ jO];omega
 have Y:IntKind.i64.wrap (s:Int)=(s:Int):=aJ _ jO;have iw2:IntKind.i64.wrap ((s:Int)*2)=(s:Int)*2:=aJ _ jO;have iw3:IntKind.i64.wrap ((s:Int)*3)=(s:Int)*3:=aJ _ jO;have Jc:IntKind.i64.wrap ((a:Int)+(s:Int))=(i:Int):=by rw[aJ _ jO];omega
 have mP:IntKind.i64.wrap ((a:Int)+(s:Int)*2)=(j:Int):=by rw[aJ _ jO];omega
 have iwk:IntKind.i64.wrap ((a:Int)+(s:Int)*3)=(k:Int):=by rw[aJ _ jO];omega
 have U:a<i/\i+1<b:=jO;have D:a<j/\j+1<b:=jO;have T:a<k/\k+1<b:=jO;have h8:(8:Int)<=(l:Int):=jO;clear hH hd hl hs hi hj hk;go_enter func250,ntmps250;go_upto_region 3 with fail;generalize w.alloc (.cells #[.int .i64 0] 3)=w1 at*;generalize w.heap.size=B at*;go_upto_if 34 with fail
 go_cut [10,11,12] from 13 to 48 (λs1 s2 s3 wx=>∃x y z:Nat,s1=.int .i64 (x:Int)/\s2=.int .i64 (y:Int)/\s3=.int .i64 (z:Int)/\(a<=x/\x<b)/\(a<=y/\y<b)/\(a<=z/\z<b)/\Hid (fH w g n d B wx d))
 case first=>
  by_cases h50:(50:Int)<=(l:Int);·go_wp2_with fail;refine(JY (cap:=cap) (lo:=a) (hi:=b) w1 C U hb hn).mono ?_;rintro e w2 ⟨x,rfl,hx,h2⟩;have H2:=aT h2;clear h2;go_wp2_with fail;refine(JY (cap:=cap) (lo:=a) (hi:=b) w2 H2 D hb hn).mono ?_;rintro e w3 ⟨y,rfl,hy,h3⟩;have H3:=aT h3;clear h3;go_wp2_with fail;refine(JY (cap:=cap) (lo:=a) (hi:=b) w3 H3 T hb hn).mono ?_;rintro e w4 ⟨z,rfl,hz,h4⟩;have J:=aT h4;clear h4;go_wp2_with fail;go_meet;exact⟨x,y,z,rfl,rfl,rfl,hx,hy,hz,J⟩
  ·go_wp2_with fail;go_meet;exact⟨i,j,k,rfl,rfl,rfl,jO,jO,jO,C⟩
 case rest=>
  obtain⟨x,y,z,rfl,rfl,rfl,hx,hy,hz,J⟩:=hcut;go_wp2_with fail;refine(yy (cap:=cap) (lo:=a) (hi:=b) _ J hx hy hz hb hn).mono ?_;rintro e w5 ⟨p,rfl,hp,Z⟩;have I:=aT Z;obtain⟨_,_,q,hq⟩:=Z;have y0:=hq.e0;clear hq;by_cases h0:q=0;·subst h0;go_wp2_with fail;go_ret2;exact⟨_,d,rfl,⟨p,_,rfl,hp.1,hp.2⟩,I.1⟩
  ·have h0':(q == 0)=false:=by rw[af];exact h0
   by_cases h1:q=12;·subst h1;go_wp2_with fail;go_ret2;exact⟨_,d,rfl,⟨p,_,rfl,hp.1,hp.2⟩,I.1⟩
   ·have h1':(q == 12)=false:=by rw[af];exact h1
    go_wp2_with fail;go_ret2;exact⟨_,d,rfl,⟨p,_,rfl,hp.1,hp.2⟩,I.1⟩
end Go.Proofs.YtclgigmgbebhgaaGreatDoor
namespace Go.Proofs.YtclgigmgbebhgaaGreatDoor
open Tryz
open Go Go.Proofs Go.RowKit Go.Shelf
theorem p8(n:Nat)(T:0<n)(J:n<=1000000)(w:World):Calls prog 226 #[.int .i64 n] w λe w'=>∃M:Nat,e=.returned (.int .u64 M)/\n<M/\M<=2*n/\w'=w:=by
 have h:Calls prog 226 #[.int .i64 n] w λe w'=>e=.returned (.int .u64 ((1 <<< Go.Sort.bitsLen n:Nat):Int))/\w'=w:=calls_of_every_depth λD=>AnySM.nextPowerOfTwoIn {Tryz.sortInt with} D n jO w
 refine h.mono ?_;rintro e w' ⟨rfl,rfl⟩;have e1:1 <<< Go.Sort.bitsLen n=2 ^ Go.Sort.bitsLen n:=by rw[Nat.shiftLeft_eq,Nat.one_mul]
 rw[e1];refine⟨_,rfl,(Go.Sort.bitsLen_le_iff n _).1 (aR _),?_,rfl⟩;cases I:Go.Sort.bitsLen n with
 |zero=>rw[Nat.pow_zero];omega
 |succ L=>
  have C:¬n<2 ^ L:=λh=>by have:=(Go.Sort.bitsLen_le_iff n L).2 h;omega
  rw[Nat.pow_succ];omega
theorem p5{B X:Nat}(w:World)(hX:X<18446744073709551616)(h:Z7 w B 334 #[.int .u64 X]):Calls prog 227 #[.pointer (some ⟨B,0,none⟩)] w λe w'=>∃R:Nat,R<18446744073709551616/\e=.returned (.int .u64 R)/\w'=(w.setCell ⟨B,0,none⟩ (.int .u64 R)).drewN 3:=by
 have h:=calls_of_every_depth λD=>AnySM.xorshift_NextIn {Tryz.sortInt with} D B 0 X hX w (by have:=h.cell 0;simpa using this) (h.frozen 0)
 refine h.mono ?_;rintro e w' ⟨rfl,rfl⟩;refine⟨_,?_,rfl,rfl⟩;unfold Go.Sort.xorNextN;have C:∀x:Nat,x<18446744073709551616->x<2 ^ 64:=λx h=>h
 have hA:X ^^^ X*8192%18446744073709551616<18446744073709551616:=Nat.xor_lt_two_pow (n:=64) (C _ hX) (C _ jO);have I:(X ^^^ X*8192%18446744073709551616) ^^^ (X ^^^ X*8192%18446744073709551616)/128<18446744073709551616:=Nat.xor_lt_two_pow (n:=64) (C _ hA) (C _ jO);exact Nat.xor_lt_two_pow (n:=64) (C _ I) (C _ (avf _ jD))
theorem AK{w:World}{g n cap a b:Nat}{d:Array Nat}(hH:Sort.Holds ZK w g 0 d)(hd:d.size=n)(hab:12<b-a)(hb:b<=n)(hn:n<=1000000):Calls prog 249 #[.slice (some ⟨g,0,none⟩) n cap,.int .i64 a,.int .i64 b] w (mQ w g n d (λv=>v=.tuple #[])):=by
 obtain⟨l,hl⟩:=jX (b-a);obtain⟨s,hs⟩:=jX (l/4);obtain⟨E,hE⟩:=jX (a+s*2+1);obtain⟨E0,hE0⟩:∃E,a+s*2-1=E:=⟨_,rfl⟩;have iwl:IntKind.i64.wrap ((b:Int)-(a:Int))=(l:Int):=by rw[aJ _ jO];omega
 have iwu:IntKind.u64.wrap (l:Int)=(l:Int):=aug _ jO;have iws:IntKind.i64.wrap ((l:Int)/4)=(s:Int):=by rw[aJ _ jO];omega
 have ay4:IntKind.i64.wrap ((l:Int).tdiv 4)=(s:Int):=by rw[aqc jO,aJ _ jO];omega
 have iw2:IntKind.i64.wrap ((s:Int)*2)=(s:Int)*2:=aJ _ jO;have mP:IntKind.i64.wrap ((a:Int)+(s:Int)*2)=(a:Int)+(s:Int)*2:=aJ _ jO;have iwE:IntKind.i64.wrap ((a:Int)+(s:Int)*2+1)=(E:Int):=by rw[aJ _ jO];omega
 have aJ9:IntKind.i64.wrap ((a:Int)+(s:Int)*2-1)=(E0:Int):=by rw[aJ _ jO];omega
 have hEn:E<n:=jO;have aK0:E0<=E:=jO;have hal:a+l<=n:=jO;have h8:(8:Int)<=(l:Int):=jO;have hl0:0<l/\l<=1000000:=jO;have UB:=aT ((XV.start hH hd jO).grow (.cells #[.int .u64 l] 334));have Z:=aT (Z7.new w 334 #[.int .u64 l]);clear hH hd hl hs hE hE0 hab;go_enter func249,ntmps249;go_upto_region 3 with fail;generalize w.alloc (.cells #[.int .u64 l] 334)=w1 at*;obtain⟨B,hB⟩:=jX w.heap.size;have HBw:=aT hB;rw[hB] at Z ⊢;clear hB;go_wp2_with fail;refine(p8 l hl0.1 hl0.2 w1).mono ?_;rintro e w2 ⟨M,rfl,hM1,hM2,rfl⟩;have iwM:IntKind.u64.wrap ((M:Int)-1)=((M-1:Nat):Int):=by rw[aug _ jO];omega
 obtain⟨M1,hM3⟩:=jX (M-1);rw[hM3] at iwM;have hM4:l<=M1/\M1<2*l:=jO;clear hM3 hM1 hM2;go_upto_region 5 with fail;go_loopg [9] (E+2) (λgg vi wr=>∃(i X:Nat) (T:Array Nat),i<=E+1/\E+1-i<gg/\vi=.int .i64 (i:Int)/\X<18446744073709551616/\Hid (Z7 wr B 334 #[.int .u64 X])/\Hid (XV w g n d wr T));case atStart=>exact⟨E0,l,d,jO,jO,by first|rfl|go_num,jO,Z,UB⟩
 case round=>
  obtain⟨i,X,T,hi,Vs,rfl,hX,HX,HK⟩:=hrel;clear Z UB;by_cases hiE:i<=E
  ·have hiz:(i:Int)<=(E:Int):=by omega
   have Jc:=jW i;go_wp2_with fail;refine(p5 wr hX HX).mono ?_;rintro e w3 ⟨R,hR,rfl,rfl⟩;have Y:Hid (XV w g n d ((wr.setCell ⟨B,0,none⟩ (.int .u64 R)).drewN 3) T):=(HK.qb (by rw[HBw.out];exact aR _) _).drew 3;have bE:Hid (Z7 ((wr.setCell ⟨B,0,none⟩ (.int .u64 R)).drewN 3) B 334 #[.int .u64 R]):=HX.set 0 _;clear HK HX;generalize (wr.setCell ⟨B,0,none⟩ (.int .u64 R)).drewN 3=w4 at*;have hb1:=bits_and_u64_nat R M1 hR jO;obtain⟨o,ho⟩:=jX (R &&& M1);have ho1:o<=M1:=by rw[<-ho];exact Nat.and_le_right
   rw[ho] at hb1;have iwo:IntKind.i64.wrap (o:Int)=(o:Int):=aJ _ jO;clear ho;go_upto_if 43 with fail
   go_cut [10] from 26 to 64 (λs wx=>∃t:Nat,s=.int .i64 (t:Int)/\t<l/\wx=w4)
   case first=>
    by_cases hol:l<=o
    ·have ay5:(l:Int)<=(o:Int):=by omega
     have iwt:IntKind.i64.wrap ((o:Int)-(l:Int))=((o-l:Nat):Int):=by rw[aJ _ jO];omega
     go_wp2_with fail;go_meet;exact⟨o-l,by first|rfl|go_num,jO,rfl⟩
    ·have ay5:¬(l:Int)<=(o:Int):=by omega
     go_wp2_with fail;go_meet;exact⟨o,rfl,jO,rfl⟩
   case rest=>
    obtain⟨t,rfl,ht,rfl⟩:=hcut;obtain⟨q,hq⟩:=jX (a+t);have kR:IntKind.i64.wrap ((a:Int)+(t:Int))=(q:Int):=by rw[aJ _ jO];omega
    have D:i<n:=jO;have tT:q<n:=jO;have n0:=jZ i;have x0:(i:Int)<(n:Int):=jO;have n1:=jZ q;have x1:(q:Int)<(n:Int):=jO;clear hq hb1 iwo;go_upto_region 10 with fail;obtain⟨G,hG,C⟩:=Y.cells;have HG:=aT hG;have U:g≠B:=by have:=Y.1.1;have:=HBw.out;omega
    by_cases hqi:i=q
    ·subst hqi;have k1:=(C i D).1;have f1:=(C i D).2;have I:=aT ((Y.drew 1).swap D D);have J:=aT ((bE.other (ame U) i (ZK T[i]!)).other (ame U) i (ZK T[i]!));clear hG C;go_region;go_wp2_with fail;go_roundg (E+1-i);case measure=>omega
     case rel=>
      unfold ZK at I J;simp only[<-HG.out] at I J;exact⟨i+1,R,Sort.swp T i i,jO,jO,by go_num,hR,J,I⟩
    ·have k1:=(C i D).1;have k0:=(C q tT).1;have f1:=(C i D).2;have f0:=(C q tT).2;have I:=aT ((Y.drew 1).swap D tT);have J:=aT ((bE.other (ame U) i (ZK T[q]!)).other (ame U) q (ZK T[i]!));clear hG C;go_region;go_wp2_with fail;go_roundg (E+1-i);case measure=>omega
     case rel=>
      unfold ZK at I J;simp only[<-HG.out] at I J;exact⟨i+1,R,Sort.swp T i q,jO,jO,by go_num,hR,J,I⟩
  ·have hiz:¬(i:Int)<=(E:Int):=by omega
   go_wp2_with fail;go_end0;exact⟨_,T,rfl,rfl,HK⟩
end Go.Proofs.YtclgigmgbebhgaaGreatDoor
