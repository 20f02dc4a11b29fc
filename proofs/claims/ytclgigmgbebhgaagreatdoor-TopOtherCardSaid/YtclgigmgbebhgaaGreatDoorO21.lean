/- TopOther: part 21: TopPInsU TopHeapU. -/
import Derived.Test.YtclgigmgbebhgaaGreatDoorO19
set_option linter.unusedVariables false
set_option linter.unusedSimpArgs false
set_option maxRecDepth 100000
set_option maxHeartbeats 16000000
namespace Go.Proofs.YtclgigmgbebhgaaGreatDoor
open Tryz
open Go Go.Proofs Go.RowKit
variable {g cap a:Nat} {w:World}
theorem Ga {n b:Nat}{d:Array Nat}(hH:Sort.Holds ZK w g 0 d)(hd:d.size=n)(hab:12<b-a)(hb:b<=n)(hn:n<=1000000):Calls prog 252 #[.slice (some ⟨g,0,none⟩) n cap,.int .i64 a,.int .i64 b] w (mG w g n d (λv=>∃r:Bool,v=.bool r)):=by
 have Uj:=aT (X0.start hH hd jO);have iwa:IntKind.i64.wrap ((a:Int)+1)=((a+1:Nat):Int):=by rw[aJ _ jO];omega
 have aI8:IntKind.i64.wrap ((b:Int)-(a:Int))=(b:Int)-(a:Int):=aJ _ jO;clear hH hd;go_enter func252,ntmps252;go_upto_region 3 with fail;go_loopg [7,8] 6 (λgg vi vc wr=>∃(i c:Nat) (dk:Array Nat),a+1<=i/\i<=b/\c<=5/\5-c<gg/\vi=.int .i64 (i:Int)/\vc=.int .i64 (c:Int)/\Hid (X0 w g n d wr dk));case atStart=>exact⟨a+1,0,d,jO,jO,jO,jO,by go_num,rfl,Uj⟩
 case round=>
  clear iwa;obtain⟨i9,c,I,aI9,aJ0,fw,aJ1,rfl,rfl,HO⟩:=hrel;by_cases hc:c<5
  ·have hcz:(c:Int)<5:=by omega
   go_upto_region 5 with fail;go_loopg [7] (b+1) (λgg v wr=>∃i:Nat,a+1<=i/\i<=b/\b-i<gg/\v=.int .i64 (i:Int)/\Hid (X0 w g n d wr I));case atStart=>exact⟨i9,jO,jO,jO,rfl,HO⟩
   case round=>
    obtain⟨i,sX,hi2,VP,rfl,HI⟩:=hrel;obtain⟨e,he⟩:∃e,i=e+1:=⟨i-1,jO⟩;have he1:e<i:=jO;have fZ:i<=e+1:=jO;have ct:IntKind.i64.wrap ((i:Int)-1)=(e:Int):=by rw[aJ _ jO];omega
    clear he;go_upto_region 5 with fail;go_cut [32] from 17 to 32 (λs Z=>∃r:Bool,s=.bool r/\(r=true->i<b)/\Hid (X0 w g n d Z I))
    case first=>
     by_cases hg:i<b
     ·have AJ:decide ((i:Int)<(b:Int))=true:=by simp;omega
      have Jy:(i:Int)<(b:Int):=jO;obtain⟨G,D,A⟩:=HI.cells;clear D;have k0:=(A i jO).1;have n0:=jZ i;have x0:(i:Int)<(n:Int):=jO;have k1:=(A e jO).1;have n1:=jZ e;have x1:(e:Int)<(n:Int):=jO;clear A;go_quiet (first|(go_at_call 253;refine Calls.quiet_of_same (Yz _ _ _)));go_wp2_with fail;go_meet;exact⟨_,rfl,λ_=>hg,aT (HI.drew _)⟩
     ·have AJ:decide ((i:Int)<(b:Int))=false:=by simp;omega
      have Jy:¬(i:Int)<(b:Int):=jO;go_quiet (fail);go_wp2_with fail;go_meet;exact⟨_,rfl,(λh=>absurd h jD),aT (HI.drew _)⟩
    case rest=>
     obtain⟨r,rfl,hr,C⟩:=hcut;clear HI;cases r with
     |true=>
      have Jz:IntKind.i64.wrap ((i:Int)+1)=((i+1:Nat):Int):=by rw[aJ _ jO];omega
      have bU:=hr rfl;go_wp2_with fail;go_roundg (b-i);case measure=>omega
      case rel=>exact⟨i+1,jO,jO,jO,by go_num,C⟩
     |false=>
      clear hr;by_cases hib:i=b
      ·have ak7:(i:Int)=(b:Int):=by omega
       subst hib;go_wp2_with fail;go_ret
       first|exact⟨_,I,rfl,⟨_,rfl⟩,C⟩|exact⟨_,I,rfl,.inr rfl,C⟩|exact⟨_,I,rfl,.inl rfl,C⟩
      ·have ak7:((i:Int) == (b:Int))=false:=by rw[ae];omega
       have aJ2:i<b:=jO;by_cases h50:(b:Int)-(a:Int)<50
       ·go_wp2_with fail;go_ret
        first|exact⟨_,I,rfl,⟨_,rfl⟩,C⟩|exact⟨_,I,rfl,.inr rfl,C⟩|exact⟨_,I,rfl,.inl rfl,C⟩
       ·skip
        go_upto_region 11 with fail;go_cut [1] from 42 to 57 (λs Z=>s=.int .i64 (a:Int)/\∃d2:Array Nat,Hid (X0 w g n d Z d2))
        case first=>
         by_cases bU:i=e;·exfalso;omega
         ·skip
          obtain⟨G,D,A⟩:=C.cells;have HG:=aT D;have k1:=(A i jO).1;have k0:=(A e jO).1;have f1:=(A i jO).2;have f0:=(A e jO).2;have U:i<n:=jO;have T:e<n:=jO;have b1:=jZ i;have b2:(i:Int)<(n:Int):=jO;have b3:=jZ e;have b4:(e:Int)<(n:Int):=jO;have J:=aT ((C.drew 1).swap U T);clear D A;go_region;go_wp2_with fail;go_meet;refine⟨rfl,Sort.swp I i e,?_⟩;have h:=J.out;unfold ZK at h;simp only[<-HG.out] at h;exact h
        case rest=>
         obtain⟨rfl,d5,K5⟩:=hcut;clear C;have Jz:IntKind.i64.wrap ((i:Int)+1)=((i+1:Nat):Int):=by rw[aJ _ jO];omega
         have iwd:IntKind.i64.wrap ((i:Int)-(a:Int))=(i:Int)-(a:Int):=aJ _ jO;have iwf:IntKind.i64.wrap ((b:Int)-(i:Int))=(b:Int)-(i:Int):=aJ _ jO;clear hib ak7;go_upto_if 61 with fail
         go_cut [9] from 58 to 94 (λ_ Z=>∃d2:Array Nat,Hid (X0 w g n d Z d2))
         case first=>
          by_cases hg2:(2:Int)<=(i:Int)-(a:Int)
          ·go_upto_region 14 with fail;go_loopg [9] (i+1) (λgg v wr=>∃(j:Nat) (dk:Array Nat),j<i/\j<gg/\v=.int .i64 (j:Int)/\Hid (X0 w g n d wr dk));case atStart=>exact⟨e,d5,jO,jO,by first|rfl|go_num,K5⟩
           case round=>
            obtain⟨j,d6,hj1,jI,rfl,K6⟩:=hrel;by_cases hjb:1<=j
            ·have Y:(1:Int)<=(j:Int):=by omega
             obtain⟨f,hf⟩:∃e,j=e+1:=⟨j-1,jO⟩;have vM:f<j:=jO;have hf2:j<=f+1:=jO;have iwf:IntKind.i64.wrap ((j:Int)-1)=(f:Int):=by rw[aJ _ jO];omega
             clear hf;go_upto_region 16 with fail;go_cut [78] from 68 to 78 (λs Z=>∃r:Bool,s=.bool r/\Hid (X0 w g n d Z d6))
             case first=>
              obtain⟨G,D,A⟩:=K6.cells;clear D;have k0:=(A j jO).1;have n0:=jZ j;have x0:(j:Int)<(n:Int):=jO;have k1:=(A f jO).1;have n1:=jZ f;have x1:(f:Int)<(n:Int):=jO;clear A;go_quiet (first|(go_at_call 253;refine Calls.quiet_of_same (Yz _ _ _)));go_wp2_with fail;go_meet;exact⟨_,rfl,aT (K6.drew _)⟩
             case rest=>
              obtain⟨r,rfl,K6r⟩:=hcut;clear K6;cases r with
              |true=>
               go_wp2_with fail;go_meet;exact⟨d6,K6r⟩
              |false=>
               obtain⟨G,D,A⟩:=K6r.cells;have HG:=aT D;have k1:=(A j jO).1;have k0:=(A f jO).1;have f1:=(A j jO).2;have f0:=(A f jO).2;have U:j<n:=jO;have T:f<n:=jO;have b1:=jZ j;have b2:(j:Int)<(n:Int):=jO;have b3:=jZ f;have b4:(f:Int)<(n:Int):=jO;have hne:f≠j:=jO;have J:=aT ((K6r.drew 1).swap U T);clear D A;go_upto_region 17 with fail;go_region;go_wp2_with fail;go_roundg j;case measure=>omega
               case rel=>
                refine⟨f,Sort.swp d6 j f,jO,jO,rfl,?_⟩;have h:=J.out;unfold ZK at h;simp only[<-HG.out] at h;exact h
            ·have Y:¬(1:Int)<=(j:Int):=by omega
             go_wp2_with fail;go_meet;exact⟨d6,K6⟩
          ·go_wp2_with fail;go_meet;exact⟨d5,K5⟩
         case rest=>
          obtain⟨d7,K7⟩:=hcut;clear K5 ct;have iwc:IntKind.i64.wrap ((c:Int)+1)=((c+1:Nat):Int):=by rw[aJ _ jO];omega
          by_cases hg2:(2:Int)<=(b:Int)-(i:Int)
          ·go_upto_region 20 with fail;go_loopg [10] (b+1) (λgg v wr=>∃(j:Nat) (dk:Array Nat),a+1<=j/\j<=b/\b-j<gg/\v=.int .i64 (j:Int)/\Hid (X0 w g n d wr dk));case atStart=>exact⟨i+1,d7,jO,jO,jO,by first|rfl|go_num,K7⟩
           case round=>
            obtain⟨j,d8,hj1,cO,jI,rfl,K8⟩:=hrel;by_cases hjb:j<b
            ·have Y:(j:Int)<(b:Int):=by omega
             have iwn:IntKind.i64.wrap ((j:Int)+1)=((j+1:Nat):Int):=by rw[aJ _ jO];omega
             obtain⟨f,hf⟩:∃e,j=e+1:=⟨j-1,jO⟩;have vM:f<j:=jO;have hf2:j<=f+1:=jO;have iwf:IntKind.i64.wrap ((j:Int)-1)=(f:Int):=by rw[aJ _ jO];omega
             clear hf;go_upto_region 22 with fail;go_cut [116] from 106 to 116 (λs Z=>∃r:Bool,s=.bool r/\Hid (X0 w g n d Z d8))
             case first=>
              obtain⟨G,D,A⟩:=K8.cells;clear D;have k0:=(A j jO).1;have n0:=jZ j;have x0:(j:Int)<(n:Int):=jO;have k1:=(A f jO).1;have n1:=jZ f;have x1:(f:Int)<(n:Int):=jO;clear A;go_quiet (first|(go_at_call 253;refine Calls.quiet_of_same (Yz _ _ _)));go_wp2_with fail;go_meet;exact⟨_,rfl,aT (K8.drew _)⟩
             case rest=>
              obtain⟨r,rfl,K8r⟩:=hcut;clear K8;cases r with
              |true=>
               go_wp2_with fail;go_roundg (5-c);case measure=>omega
               case rel=>exact⟨i,c+1,d8,sX,hi2,jO,jO,rfl,by go_num,K8r⟩
              |false=>
               obtain⟨G,D,A⟩:=K8r.cells;have HG:=aT D;have k1:=(A j jO).1;have k0:=(A f jO).1;have f1:=(A j jO).2;have f0:=(A f jO).2;have U:j<n:=jO;have T:f<n:=jO;have b1:=jZ j;have b2:(j:Int)<(n:Int):=jO;have b3:=jZ f;have b4:(f:Int)<(n:Int):=jO;have hne:f≠j:=jO;have J:=aT ((K8r.drew 1).swap U T);clear D A;go_upto_region 23 with fail;go_region;go_wp2_with fail;go_roundg (b-j);case measure=>omega
               case rel=>
                refine⟨j+1,Sort.swp d8 j f,jO,jO,jO,by go_num,?_⟩;have h:=J.out;unfold ZK at h;simp only[<-HG.out] at h;exact h
            ·have Y:¬(j:Int)<(b:Int):=by omega
             go_wp2_with fail;go_roundg (5-c);case measure=>omega
             case rel=>exact⟨i,c+1,d8,sX,hi2,jO,jO,rfl,by go_num,K8⟩
          ·skip
           go_wp2_with fail;go_roundg (5-c);case measure=>omega
           case rel=>exact⟨i,c+1,d7,sX,hi2,jO,jO,rfl,by go_num,K7⟩
  ·have hcz:¬(c:Int)<5:=by omega
   go_wp2_with fail;go_ret
   first|exact⟨_,I,rfl,⟨_,rfl⟩,HO⟩|exact⟨_,I,rfl,.inr rfl,HO⟩|exact⟨_,I,rfl,.inl rfl,HO⟩
theorem Hw{w0:World}{n lo hi:Nat}{d d0:Array Nat}(w:World)(hS:X0 w0 g n d w d0)(hl:lo<=n)(hb:a+hi<=n)(hn:n<=1000000):Calls prog 323 #[.slice (some ⟨g,0,none⟩) n cap,.int .i64 lo,.int .i64 hi,.int .i64 a] w λe w'=>e=.returned (.tuple #[])/\∃d',X0 w0 g n d w' d':=by
 have Uj:=aT hS;clear hS;go_enter func323,ntmps323;go_upto_region 1 with fail;go_loopg [8] (n+2) (λgg vr wr=>∃(r:Nat) (J:Array Nat),r<=n/\n+1-r<gg/\vr=.int .i64 (r:Int)/\Hid (X0 w0 g n d wr J));case atStart=>exact⟨lo,d0,hl,jO,rfl,Uj⟩
 case round=>
  obtain⟨r,J,hr,VP,rfl,HK⟩:=hrel;obtain⟨c,hc⟩:=jX (2*r+1);have iw1:IntKind.i64.wrap (2*(r:Int))=2*(r:Int):=aJ _ jO;have iw2:IntKind.i64.wrap (2*(r:Int)+1)=(c:Int):=by rw[aJ _ jO];omega
  have cH:r<c:=jO;have hc3:c<=2*n+1:=jO;clear hc;by_cases h1:hi<=c
  ·have h1z:(hi:Int)<=(c:Int):=by omega
   go_wp2_with fail;go_end0;exact⟨rfl,J,HK⟩
  ·have h1z:¬(hi:Int)<=(c:Int):=by omega
   have iw3:=jW c;obtain⟨p,hp⟩:=jX (a+r);have I:p<n:=jO;have iwp:IntKind.i64.wrap ((a:Int)+(r:Int))=(p:Int):=by rw[aJ _ jO];omega
   obtain⟨q,hq⟩:=jX (a+c);have hqn:q<n:=jO;have kF:IntKind.i64.wrap ((a:Int)+(c:Int))=(q:Int):=by rw[aJ _ jO];omega
   have hpq:p<q:=jO;have HPQ:=aT (And.intro hp hq);clear hp hq;go_upto_region 3 with fail;go_cut [36] from 11 to 75 (λs wx=>∃x:Bool,s=.bool x/\(x=true->c+1<hi)/\Hid (X0 w0 g n d wx J))
   case first=>
    by_cases h2:c+1<hi
    ·have h2z:decide ((c:Int)+1<(hi:Int))=true:=by simp;omega
     have aJ3:(c:Int)+1<(hi:Int):=jO;obtain⟨u,hu⟩:=jX (q+1);have hun:u<n:=by have:=HPQ.2;omega
     have iwu:IntKind.i64.wrap ((q:Int)+1)=(u:Int):=by rw[aJ _ jO];omega
     obtain⟨G,hG,C⟩:=HK.cells;clear hG;have k0:=(C q hqn).1;have k1:=(C u hun).1;have n0:=jZ q;have x0:(q:Int)<(n:Int):=jO;have n1:=jZ u;have x1:(u:Int)<(n:Int):=jO;clear C hu;go_quiet (first|(go_at_call 253;refine Calls.quiet_of_same (Yz _ _ _)));go_wp2_with fail;go_meet;exact⟨_,rfl,λ_=>h2,aT (HK.drew _)⟩
    ·have h2z:decide ((c:Int)+1<(hi:Int))=false:=by simp;omega
     go_quiet (fail);go_wp2_with fail;go_meet;exact⟨_,rfl,λe=>(by cases e),aT (HK.drew _)⟩
   case rest=>
    obtain⟨x,rfl,hx,U⟩:=hcut;clear HK;go_upto_if 36 with fail
    go_cut [9] from 11 to 75 (λs wx=>∃t:Nat,s=.int .i64 (t:Int)/\c<=t/\t<hi/\Hid (X0 w0 g n d wx J))
    case first=>
     cases x with
     |true=>
      have:=hx rfl;go_wp2_with fail;go_meet;exact⟨c+1,by go_num,jO,jO,U⟩
     |false=>
      go_wp2_with fail;go_meet;exact⟨c,rfl,jO,jO,U⟩
    case rest=>
     obtain⟨t,rfl,ht1,ht2,T⟩:=hcut;obtain⟨z,hz⟩:=jX (a+t);have D:z<n:=jO;have iwz:IntKind.i64.wrap ((a:Int)+(t:Int))=(z:Int):=by rw[aJ _ jO];omega
     have hpz:p≠z:=by have:=HPQ.1;omega
     have ht3:r<t/\t<=n:=jO;obtain⟨G,hG,C⟩:=T.cells;clear hG;have k0:=(C p I).1;have k1:=(C z D).1;have n0:=jZ p;have x0:(p:Int)<(n:Int):=jO;have n1:=jZ z;have x1:(z:Int)<(n:Int):=jO;clear C hz U hx kF;go_upto_region 5 with fail;go_quiet (first|(go_at_call 253;refine Calls.quiet_of_same (Yz _ _ _)));have Y:=aT (T.drew nq);generalize decide (G p<G z)=x51;cases x51 with
     |true=>
      go_upto_region 6 with fail;clear k0 k1 T;generalize wc.drewN nq=wq at*;obtain⟨G2,Z,A⟩:=Y.cells;have HG:=aT Z;have k1:=(A p I).1;have k0:=(A z D).1;have f1:=(A p I).2;have f0:=(A z D).2;have HSW:=aT ((Y.drew 1).swap I D);clear Z A;go_region;go_wp2_with fail;go_roundg (n+1-r);case measure=>omega
      case rel=>
       refine⟨t,Sort.swp J p z,ht3.2,jO,rfl,?_⟩;have h:=HSW.out;unfold ZK at h;simp only[<-HG.out] at h;exact h
     |false=>
      go_wp2_with fail;refine aag (aog rfl _ _ _) rfl ?_;exact⟨rfl,J,Y⟩
theorem vD {n b:Nat}{d:Array Nat}(hH:Sort.Holds ZK w g 0 d)(hd:d.size=n)(hab:a<b)(hb:b<=n)(hn:n<=1000000):Calls prog 248 #[.slice (some ⟨g,0,none⟩) n cap,.int .i64 a,.int .i64 b] w (mG w g n d (λv=>v=.tuple #[])):=by
 have Uj:=aT (X0.start hH hd jO);obtain⟨h,hh⟩:=jX (b-a);obtain⟨m,hm⟩:=jX (h-1);have iwh:IntKind.i64.wrap ((b:Int)-(a:Int))=(h:Int):=by rw[aJ _ jO];omega
 have iwm:IntKind.i64.wrap ((h:Int)-1)=(m:Int):=by rw[aJ _ jO];omega
 have kF:IntKind.i64.wrap (((m/2:Nat):Int))=((m/2:Nat):Int):=aJ _ jO;have aJ4:IntKind.i64.wrap ((m:Int)/2)=((m/2:Nat):Int):=by rw[aJ _ jO];omega
 have aJ5:IntKind.i64.wrap ((m:Int).tdiv 2)=((m/2:Nat):Int):=by rw[aqe jO,aJ _ jO];omega
 have hbh:a+h<=n:=jO;have hmh:m<h:=jO;clear hH hd hh hm;go_enter func248,ntmps248;go_upto_region 4 with fail;go_loopg [9] (h+2) (λgg vi wr=>∃(z:Int) (C:Array Nat),-1<=z/\z<h/\(z+1).toNat<gg/\vi=.int .i64 z/\Hid (X0 w g n d wr C));case atStart=>exact⟨((m/2:Nat):Int),d,jO,jO,jO,by first|rfl|go_num,Uj⟩
 case round=>
  obtain⟨z,C,hz1,hz2,VP,rfl,D⟩:=hrel;by_cases hz:0<=z
  ·obtain⟨i,rfl⟩:=Int.eq_ofNat_of_zero_le hz;have Jz:IntKind.i64.wrap ((i:Int)-1)=(i:Int)-1:=aJ _ jO;have Y:=aT (Hw (cap:=cap) (lo:=i) (hi:=h) (a:=a) wr D jO hbh hn);go_wp2_with fail;refine Y.mono ?_;rintro e w1 ⟨rfl,d1,U⟩;have J:=aT U;clear U Y;go_wp2_with fail;go_roundg ((i:Int)+1).toNat;case measure=>omega
   case rel=>exact⟨(i:Int)-1,d1,jO,jO,jO,by first|rfl|go_num,J⟩
  ·have hzz:¬(0:Int)<=z:=hz;go_upto_region 8 with fail;go_loopg [10] (h+2) (λgg vi wr=>∃(z:Int) (C:Array Nat),-1<=z/\z<h/\(z+1).toNat<gg/\vi=.int .i64 z/\Hid (X0 w g n d wr C));case atStart=>exact⟨(m:Int),C,jO,jO,jO,by first|rfl|go_num,D⟩
   case round=>
    obtain⟨z,C,hz1,hz2,VP,rfl,D⟩:=hrel;by_cases hz:0<=z
    ·obtain⟨i,rfl⟩:=Int.eq_ofNat_of_zero_le hz;have Jz:IntKind.i64.wrap ((i:Int)-1)=(i:Int)-1:=aJ _ jO;obtain⟨q,hq⟩:=jX (a+i);have kF:IntKind.i64.wrap ((a:Int)+(i:Int))=(q:Int):=by rw[aJ _ jO];omega
     have T:a<n:=jO;have hqn:q<n:=jO;have n0:=jZ a;have x0:(a:Int)<(n:Int):=jO;have n1:=jZ q;have x1:(q:Int)<(n:Int):=jO;go_upto_region 10 with fail;go_cut [10] from 29 to 55 (λs wx=>s=.int .i64 (i:Int)/\∃d2:Array Nat,Hid (X0 w g n d wx d2))
     case first=>
      obtain⟨G,hG,A⟩:=D.cells;have HG:=aT hG;by_cases hqa:a=q;·subst hqa;have k1:=(A a jO).1;have f1:=(A a jO).2;have I:=aT ((D.drew 1).swap T T);clear hG A;go_region;go_wp2_with fail;go_meet;refine⟨rfl,Sort.swp C a a,?_⟩;have h:=I.out;unfold ZK at h;simp only[<-HG.out] at h;exact h
      ·have k1:=(A a jO).1;have k0:=(A q jO).1;have f1:=(A a jO).2;have f0:=(A q jO).2;have I:=aT ((D.drew 1).swap T hqn);clear hG A hq;go_region;go_wp2_with fail;go_meet;refine⟨rfl,Sort.swp C a q,?_⟩;have h:=I.out;unfold ZK at h;simp only[<-HG.out] at h;exact h
     case rest=>
      obtain⟨rfl,d2,Z⟩:=hcut;clear D;have Y:=aT (Hw (cap:=cap) (lo:=0) (hi:=i) (a:=a) _ Z jO jO hn);have sX:i<h:=jO;clear hq;go_wp2_with fail;refine Y.mono ?_;rintro e w1 ⟨rfl,d1,U⟩;have J:=aT U;clear U Y;go_wp2_with fail;go_roundg ((i:Int)+1).toNat;case measure=>omega
      case rel=>exact⟨(i:Int)-1,d1,jO,jO,jO,by first|rfl|go_num,J⟩
    ·have hzz:¬(0:Int)<=z:=hz;go_wp2_with fail;go_end0;exact⟨_,C,rfl,rfl,D⟩
end Go.Proofs.YtclgigmgbebhgaaGreatDoor
