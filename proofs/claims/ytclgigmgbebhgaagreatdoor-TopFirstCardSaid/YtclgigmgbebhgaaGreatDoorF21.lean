/- TopFirst: part 21: TopPInsU TopHeapU. -/
import Derived.Test.YtclgigmgbebhgaaGreatDoorF19
set_option linter.unusedVariables false
set_option linter.unusedSimpArgs false
set_option maxRecDepth 100000
set_option maxHeartbeats 16000000
namespace Go.Proofs.YtclgigmgbebhgaaGreatDoor
open Tryz
open Go Go.Proofs Go.RowKit
variable {g cap a:Nat} {w:World}
theorem F5 {n b:Nat}{d:Array Nat}(hH:Sort.Holds ZK w g 0 d)(hd:d.size=n)(hab:12<b-a)(hb:b<=n)(hn:n<=1000000):Calls prog 252 #[.slice (some ⟨g,0,none⟩) n cap,.int .i64 a,.int .i64 b] w (mQ w g n d (λv=>∃r:Bool,v=.bool r)):=by
 have UB:=aT (XV.start hH hd jO);have iwa:IntKind.i64.wrap ((a:Int)+1)=((a+1:Nat):Int):=by rw[aJ _ jO];omega
 have aJ1:IntKind.i64.wrap ((b:Int)-(a:Int))=(b:Int)-(a:Int):=aJ _ jO;clear hH hd;go_enter func252,ntmps252;go_upto_region 3 with fail;go_loopg [7,8] 6 (λgg vi vc wr=>∃(i c:Nat) (dk:Array Nat),a+1<=i/\i<=b/\c<=5/\5-c<gg/\vi=.int .i64 (i:Int)/\vc=.int .i64 (c:Int)/\Hid (XV w g n d wr dk));case atStart=>exact⟨a+1,0,d,jO,jO,jO,jO,by go_num,rfl,UB⟩
 case round=>
  clear iwa;obtain⟨i9,c,J,aJ2,aJ3,hc5,aJ4,rfl,rfl,HO⟩:=hrel;by_cases hc:c<5
  ·have hcz:(c:Int)<5:=by omega
   go_upto_region 5 with fail;go_loopg [7] (b+1) (λgg v wr=>∃i:Nat,a+1<=i/\i<=b/\b-i<gg/\v=.int .i64 (i:Int)/\Hid (XV w g n d wr J));case atStart=>exact⟨i9,jO,jO,jO,rfl,HO⟩
   case round=>
    obtain⟨i,sM,aW,Vs,rfl,HI⟩:=hrel;obtain⟨e,he⟩:∃e,i=e+1:=⟨i-1,jO⟩;have he1:e<i:=jO;have gL:i<=e+1:=jO;have cN:IntKind.i64.wrap ((i:Int)-1)=(e:Int):=by rw[aJ _ jO];omega
    clear he;go_upto_region 5 with fail;go_cut [32] from 17 to 32 (λs wx=>∃r:Bool,s=.bool r/\(r=true->i<b)/\Hid (XV w g n d wx J))
    case first=>
     by_cases hg:i<b
     ·have AL:decide ((i:Int)<(b:Int))=true:=by simp;omega
      have Jk:(i:Int)<(b:Int):=jO;obtain⟨G,I,C⟩:=HI.cells;clear I;have k0:=(C i jO).1;have n0:=jZ i;have x0:(i:Int)<(n:Int):=jO;have k1:=(C e jO).1;have n1:=jZ e;have x1:(e:Int)<(n:Int):=jO;clear C;go_quiet (first|(go_at_call 253;refine Calls.quiet_of_same (Ys _ _ _)));go_wp2_with fail;go_meet;exact⟨_,rfl,λ_=>hg,aT (HI.drew _)⟩
     ·have AL:decide ((i:Int)<(b:Int))=false:=by simp;omega
      have Jk:¬(i:Int)<(b:Int):=jO;go_quiet (fail);go_wp2_with fail;go_meet;exact⟨_,rfl,(λh=>absurd h jD),aT (HI.drew _)⟩
    case rest=>
     obtain⟨r,rfl,hr,D⟩:=hcut;clear HI;cases r with
     |true=>
      have Jc:IntKind.i64.wrap ((i:Int)+1)=((i+1:Nat):Int):=by rw[aJ _ jO];omega
      have cA:=hr rfl;go_wp2_with fail;go_roundg (b-i);case measure=>omega
      case rel=>exact⟨i+1,jO,jO,jO,by go_num,D⟩
     |false=>
      clear hr;by_cases hib:i=b
      ·have ak6:(i:Int)=(b:Int):=by omega
       subst hib;go_wp2_with fail;go_ret
       first|exact⟨_,J,rfl,⟨_,rfl⟩,D⟩|exact⟨_,J,rfl,.inr rfl,D⟩|exact⟨_,J,rfl,.inl rfl,D⟩
      ·have ak6:((i:Int) == (b:Int))=false:=by rw[af];omega
       have aJ5:i<b:=jO;by_cases h50:(b:Int)-(a:Int)<50
       ·go_wp2_with fail;go_ret
        first|exact⟨_,J,rfl,⟨_,rfl⟩,D⟩|exact⟨_,J,rfl,.inr rfl,D⟩|exact⟨_,J,rfl,.inl rfl,D⟩
       ·skip
        go_upto_region 11 with fail;go_cut [1] from 42 to 57 (λs wx=>s=.int .i64 (a:Int)/\∃d2:Array Nat,Hid (XV w g n d wx d2))
        case first=>
         by_cases cA:i=e;·exfalso;omega
         ·skip
          obtain⟨G,I,C⟩:=D.cells;have HG:=aT I;have k1:=(C i jO).1;have k0:=(C e jO).1;have f1:=(C i jO).2;have f0:=(C e jO).2;have U:i<n:=jO;have T:e<n:=jO;have b1:=jZ i;have b2:(i:Int)<(n:Int):=jO;have b3:=jZ e;have b4:(e:Int)<(n:Int):=jO;have Z:=aT ((D.drew 1).swap U T);clear I C;go_region;go_wp2_with fail;go_meet;refine⟨rfl,Sort.swp J i e,?_⟩;have h:=Z.out;unfold ZK at h;simp only[<-HG.out] at h;exact h
        case rest=>
         obtain⟨rfl,d5,K5⟩:=hcut;clear D;have Jc:IntKind.i64.wrap ((i:Int)+1)=((i+1:Nat):Int):=by rw[aJ _ jO];omega
         have iwd:IntKind.i64.wrap ((i:Int)-(a:Int))=(i:Int)-(a:Int):=aJ _ jO;have iwf:IntKind.i64.wrap ((b:Int)-(i:Int))=(b:Int)-(i:Int):=aJ _ jO;clear hib ak6;go_upto_if 61 with fail
         go_cut [9] from 58 to 94 (λ_ wx=>∃d2:Array Nat,Hid (XV w g n d wx d2))
         case first=>
          by_cases hg2:(2:Int)<=(i:Int)-(a:Int)
          ·go_upto_region 14 with fail;go_loopg [9] (i+1) (λgg v wr=>∃(j:Nat) (dk:Array Nat),j<i/\j<gg/\v=.int .i64 (j:Int)/\Hid (XV w g n d wr dk));case atStart=>exact⟨e,d5,jO,jO,by first|rfl|go_num,K5⟩
           case round=>
            obtain⟨j,d6,hj1,j8,rfl,K6⟩:=hrel;by_cases hjb:1<=j
            ·have Y:(1:Int)<=(j:Int):=by omega
             obtain⟨f,hf⟩:∃e,j=e+1:=⟨j-1,jO⟩;have vE:f<j:=jO;have hf2:j<=f+1:=jO;have iwf:IntKind.i64.wrap ((j:Int)-1)=(f:Int):=by rw[aJ _ jO];omega
             clear hf;go_upto_region 16 with fail;go_cut [78] from 68 to 78 (λs wx=>∃r:Bool,s=.bool r/\Hid (XV w g n d wx d6))
             case first=>
              obtain⟨G,I,C⟩:=K6.cells;clear I;have k0:=(C j jO).1;have n0:=jZ j;have x0:(j:Int)<(n:Int):=jO;have k1:=(C f jO).1;have n1:=jZ f;have x1:(f:Int)<(n:Int):=jO;clear C;go_quiet (first|(go_at_call 253;refine Calls.quiet_of_same (Ys _ _ _)));go_wp2_with fail;go_meet;exact⟨_,rfl,aT (K6.drew _)⟩
             case rest=>
              obtain⟨r,rfl,K6r⟩:=hcut;clear K6;cases r with
              |true=>
               go_wp2_with fail;go_meet;exact⟨d6,K6r⟩
              |false=>
               obtain⟨G,I,C⟩:=K6r.cells;have HG:=aT I;have k1:=(C j jO).1;have k0:=(C f jO).1;have f1:=(C j jO).2;have f0:=(C f jO).2;have U:j<n:=jO;have T:f<n:=jO;have b1:=jZ j;have b2:(j:Int)<(n:Int):=jO;have b3:=jZ f;have b4:(f:Int)<(n:Int):=jO;have hne:f≠j:=jO;have Z:=aT ((K6r.drew 1).swap U T);clear I C;go_upto_region 17 with fail;go_region;go_wp2_with fail;go_roundg j;case measure=>omega
               case rel=>
                refine⟨f,Sort.swp d6 j f,jO,jO,rfl,?_⟩;have h:=Z.out;unfold ZK at h;simp only[<-HG.out] at h;exact h
            ·have Y:¬(1:Int)<=(j:Int):=by omega
             go_wp2_with fail;go_meet;exact⟨d6,K6⟩
          ·go_wp2_with fail;go_meet;exact⟨d5,K5⟩
         case rest=>
          obtain⟨d7,K7⟩:=hcut;clear K5 cN;have iwc:IntKind.i64.wrap ((c:Int)+1)=((c+1:Nat):Int):=by rw[aJ _ jO];omega
          by_cases hg2:(2:Int)<=(b:Int)-(i:Int)
          ·go_upto_region 20 with fail;go_loopg [10] (b+1) (λgg v wr=>∃(j:Nat) (dk:Array Nat),a+1<=j/\j<=b/\b-j<gg/\v=.int .i64 (j:Int)/\Hid (XV w g n d wr dk));case atStart=>exact⟨i+1,d7,jO,jO,jO,by first|rfl|go_num,K7⟩
           case round=>
            obtain⟨j,d8,hj1,dh,j8,rfl,K8⟩:=hrel;by_cases hjb:j<b
            ·have Y:(j:Int)<(b:Int):=by omega
             have iwn:IntKind.i64.wrap ((j:Int)+1)=((j+1:Nat):Int):=by rw[aJ _ jO];omega
             obtain⟨f,hf⟩:∃e,j=e+1:=⟨j-1,jO⟩;have vE:f<j:=jO;have hf2:j<=f+1:=jO;have iwf:IntKind.i64.wrap ((j:Int)-1)=(f:Int):=by rw[aJ _ jO];omega
             clear hf;go_upto_region 22 with fail;go_cut [116] from 106 to 116 (λs wx=>∃r:Bool,s=.bool r/\Hid (XV w g n d wx d8))
             case first=>
              obtain⟨G,I,C⟩:=K8.cells;clear I;have k0:=(C j jO).1;have n0:=jZ j;have x0:(j:Int)<(n:Int):=jO;have k1:=(C f jO).1;have n1:=jZ f;have x1:(f:Int)<(n:Int):=jO;clear C;go_quiet (first|(go_at_call 253;refine Calls.quiet_of_same (Ys _ _ _)));go_wp2_with fail;go_meet;exact⟨_,rfl,aT (K8.drew _)⟩
             case rest=>
              obtain⟨r,rfl,K8r⟩:=hcut;clear K8;cases r with
              |true=>
               go_wp2_with fail;go_roundg (5-c);case measure=>omega
               case rel=>exact⟨i,c+1,d8,sM,aW,jO,jO,rfl,by go_num,K8r⟩
              |false=>
               obtain⟨G,I,C⟩:=K8r.cells;have HG:=aT I;have k1:=(C j jO).1;have k0:=(C f jO).1;have f1:=(C j jO).2;have f0:=(C f jO).2;have U:j<n:=jO;have T:f<n:=jO;have b1:=jZ j;have b2:(j:Int)<(n:Int):=jO;have b3:=jZ f;have b4:(f:Int)<(n:Int):=jO;have hne:f≠j:=jO;have Z:=aT ((K8r.drew 1).swap U T);clear I C;go_upto_region 23 with fail;go_region;go_wp2_with fail;go_roundg (b-j);case measure=>omega
               case rel=>
                refine⟨j+1,Sort.swp d8 j f,jO,jO,jO,by go_num,?_⟩;have h:=Z.out;unfold ZK at h;simp only[<-HG.out] at h;exact h
            ·have Y:¬(j:Int)<(b:Int):=by omega
             go_wp2_with fail;go_roundg (5-c);case measure=>omega
             case rel=>exact⟨i,c+1,d8,sM,aW,jO,jO,rfl,by go_num,K8⟩
          ·skip
           go_wp2_with fail;go_roundg (5-c);case measure=>omega
           case rel=>exact⟨i,c+1,d7,sM,aW,jO,jO,rfl,by go_num,K7⟩
  ·have hcz:¬(c:Int)<5:=by omega
   go_wp2_with fail;go_ret
   first|exact⟨_,J,rfl,⟨_,rfl⟩,HO⟩|exact⟨_,J,rfl,.inr rfl,HO⟩|exact⟨_,J,rfl,.inl rfl,HO⟩
theorem Hi{w0:World}{n lo hi:Nat}{d d0:Array Nat}(w:World)(hS:XV w0 g n d w d0)(hl:lo<=n)(hb:a+hi<=n)(hn:n<=1000000):Calls prog 323 #[.slice (some ⟨g,0,none⟩) n cap,.int .i64 lo,.int .i64 hi,.int .i64 a] w λe w'=>e=.returned (.tuple #[])/\∃d',XV w0 g n d w' d':=by
 have UB:=aT hS;clear hS;go_enter func323,ntmps323;go_upto_region 1 with fail;go_loopg [8] (n+2) (λgg vr wr=>∃(r:Nat) (U:Array Nat),r<=n/\n+1-r<gg/\vr=.int .i64 (r:Int)/\Hid (XV w0 g n d wr U));case atStart=>exact⟨lo,d0,hl,jO,rfl,UB⟩
 case round=>
  obtain⟨r,U,hr,Vs,rfl,HK⟩:=hrel;obtain⟨c,hc⟩:=jX (2*r+1);have iw1:IntKind.i64.wrap (2*(r:Int))=2*(r:Int):=aJ _ jO;have iw2:IntKind.i64.wrap (2*(r:Int)+1)=(c:Int):=by rw[aJ _ jO];omega
  have cX:r<c:=jO;have hc3:c<=2*n+1:=jO;clear hc;by_cases h1:hi<=c
  ·have h1z:(hi:Int)<=(c:Int):=by omega
   go_wp2_with fail;go_end0;exact⟨rfl,U,HK⟩
  ·have h1z:¬(hi:Int)<=(c:Int):=by omega
   have iw3:=jW c;obtain⟨p,hp⟩:=jX (a+r);have J:p<n:=jO;have iwp:IntKind.i64.wrap ((a:Int)+(r:Int))=(p:Int):=by rw[aJ _ jO];omega
   obtain⟨q,hq⟩:=jX (a+c);have tT:q<n:=jO;have kR:IntKind.i64.wrap ((a:Int)+(c:Int))=(q:Int):=by rw[aJ _ jO];omega
   have hpq:p<q:=jO;have HPQ:=aT (And.intro hp hq);clear hp hq;go_upto_region 3 with fail;go_cut [36] from 11 to 75 (λs wx=>∃x:Bool,s=.bool x/\(x=true->c+1<hi)/\Hid (XV w0 g n d wx U))
   case first=>
    by_cases h2:c+1<hi
    ·have h2z:decide ((c:Int)+1<(hi:Int))=true:=by simp;omega
     have aJ6:(c:Int)+1<(hi:Int):=jO;obtain⟨u,hu⟩:=jX (q+1);have hun:u<n:=by have:=HPQ.2;omega
     have iwu:IntKind.i64.wrap ((q:Int)+1)=(u:Int):=by rw[aJ _ jO];omega
     obtain⟨G,hG,D⟩:=HK.cells;clear hG;have k0:=(D q tT).1;have k1:=(D u hun).1;have n0:=jZ q;have x0:(q:Int)<(n:Int):=jO;have n1:=jZ u;have x1:(u:Int)<(n:Int):=jO;clear D hu;go_quiet (first|(go_at_call 253;refine Calls.quiet_of_same (Ys _ _ _)));go_wp2_with fail;go_meet;exact⟨_,rfl,λ_=>h2,aT (HK.drew _)⟩
    ·have h2z:decide ((c:Int)+1<(hi:Int))=false:=by simp;omega
     go_quiet (fail);go_wp2_with fail;go_meet;exact⟨_,rfl,λe=>(by cases e),aT (HK.drew _)⟩
   case rest=>
    obtain⟨x,rfl,hx,Z⟩:=hcut;clear HK;go_upto_if 36 with fail
    go_cut [9] from 11 to 75 (λs wx=>∃t:Nat,s=.int .i64 (t:Int)/\c<=t/\t<hi/\Hid (XV w0 g n d wx U))
    case first=>
     cases x with
     |true=>
      have:=hx rfl;go_wp2_with fail;go_meet;exact⟨c+1,by go_num,jO,jO,Z⟩
     |false=>
      go_wp2_with fail;go_meet;exact⟨c,rfl,jO,jO,Z⟩
    case rest=>
     obtain⟨t,rfl,ht1,ht2,T⟩:=hcut;obtain⟨z,hz⟩:=jX (a+t);have I:z<n:=jO;have iwz:IntKind.i64.wrap ((a:Int)+(t:Int))=(z:Int):=by rw[aJ _ jO];omega
     have hpz:p≠z:=by have:=HPQ.1;omega
     have ht3:r<t/\t<=n:=jO;obtain⟨G,hG,D⟩:=T.cells;clear hG;have k0:=(D p J).1;have k1:=(D z I).1;have n0:=jZ p;have x0:(p:Int)<(n:Int):=jO;have n1:=jZ z;have x1:(z:Int)<(n:Int):=jO;clear D hz Z hx kR;go_upto_region 5 with fail;go_quiet (first|(go_at_call 253;refine Calls.quiet_of_same (Ys _ _ _)));have Y:=aT (T.drew nq);generalize decide (G p<G z)=x51;cases x51 with
     |true=>
      go_upto_region 6 with fail;clear k0 k1 T;generalize wc.drewN nq=wq at*;obtain⟨G2,hG2,C⟩:=Y.cells;have HG:=aT hG2;have k1:=(C p J).1;have k0:=(C z I).1;have f1:=(C p J).2;have f0:=(C z I).2;have HSW:=aT ((Y.drew 1).swap J I);clear hG2 C;go_region;go_wp2_with fail;go_roundg (n+1-r);case measure=>omega
      case rel=>
       refine⟨t,Sort.swp U p z,ht3.2,jO,rfl,?_⟩;have h:=HSW.out;unfold ZK at h;simp only[<-HG.out] at h;exact h
     |false=>
      go_wp2_with fail;refine aaf (aof rfl _ _ _) rfl ?_;exact⟨rfl,U,Y⟩
theorem vu {n b:Nat}{d:Array Nat}(hH:Sort.Holds ZK w g 0 d)(hd:d.size=n)(hab:a<b)(hb:b<=n)(hn:n<=1000000):Calls prog 248 #[.slice (some ⟨g,0,none⟩) n cap,.int .i64 a,.int .i64 b] w (mQ w g n d (λv=>v=.tuple #[])):=by
 have UB:=aT (XV.start hH hd jO);obtain⟨h,hh⟩:=jX (b-a);obtain⟨m,hm⟩:=jX (h-1);have iwh:IntKind.i64.wrap ((b:Int)-(a:Int))=(h:Int):=by rw[aJ _ jO];omega
 have iwm:IntKind.i64.wrap ((h:Int)-1)=(m:Int):=by rw[aJ _ jO];omega
 have kR:IntKind.i64.wrap (((m/2:Nat):Int))=((m/2:Nat):Int):=aJ _ jO;have aJ7:IntKind.i64.wrap ((m:Int)/2)=((m/2:Nat):Int):=by rw[aJ _ jO];omega
 have aJ8:IntKind.i64.wrap ((m:Int).tdiv 2)=((m/2:Nat):Int):=by rw[aqc jO,aJ _ jO];omega
 have hbh:a+h<=n:=jO;have hmh:m<h:=jO;clear hH hd hh hm;go_enter func248,ntmps248;go_upto_region 4 with fail;go_loopg [9] (h+2) (λgg vi wr=>∃(z:Int) (D:Array Nat),-1<=z/\z<h/\(z+1).toNat<gg/\vi=.int .i64 z/\Hid (XV w g n d wr D));case atStart=>exact⟨((m/2:Nat):Int),d,jO,jO,jO,by first|rfl|go_num,UB⟩
 case round=>
  obtain⟨z,D,hz1,hz2,Vs,rfl,I⟩:=hrel;by_cases hz:0<=z
  ·obtain⟨i,rfl⟩:=Int.eq_ofNat_of_zero_le hz;have Jc:IntKind.i64.wrap ((i:Int)-1)=(i:Int)-1:=aJ _ jO;have Y:=aT (Hi (cap:=cap) (lo:=i) (hi:=h) (a:=a) wr I jO hbh hn);go_wp2_with fail;refine Y.mono ?_;rintro e w1 ⟨rfl,d1,Z⟩;have U:=aT Z;clear Z Y;go_wp2_with fail;go_roundg ((i:Int)+1).toNat;case measure=>omega
   case rel=>exact⟨(i:Int)-1,d1,jO,jO,jO,by first|rfl|go_num,U⟩
  ·have hzz:¬(0:Int)<=z:=hz;go_upto_region 8 with fail;go_loopg [10] (h+2) (λgg vi wr=>∃(z:Int) (D:Array Nat),-1<=z/\z<h/\(z+1).toNat<gg/\vi=.int .i64 z/\Hid (XV w g n d wr D));case atStart=>exact⟨(m:Int),D,jO,jO,jO,by first|rfl|go_num,I⟩
   case round=>
    obtain⟨z,D,hz1,hz2,Vs,rfl,I⟩:=hrel;by_cases hz:0<=z
    ·obtain⟨i,rfl⟩:=Int.eq_ofNat_of_zero_le hz;have Jc:IntKind.i64.wrap ((i:Int)-1)=(i:Int)-1:=aJ _ jO;obtain⟨q,hq⟩:=jX (a+i);have kR:IntKind.i64.wrap ((a:Int)+(i:Int))=(q:Int):=by rw[aJ _ jO];omega
     have J:a<n:=jO;have tT:q<n:=jO;have n0:=jZ a;have x0:(a:Int)<(n:Int):=jO;have n1:=jZ q;have x1:(q:Int)<(n:Int):=jO;go_upto_region 10 with fail;go_cut [10] from 29 to 55 (λs wx=>s=.int .i64 (i:Int)/\∃d2:Array Nat,Hid (XV w g n d wx d2))
     case first=>
      obtain⟨G,hG,C⟩:=I.cells;have HG:=aT hG;by_cases hqa:a=q;·subst hqa;have k1:=(C a jO).1;have f1:=(C a jO).2;have T:=aT ((I.drew 1).swap J J);clear hG C;go_region;go_wp2_with fail;go_meet;refine⟨rfl,Sort.swp D a a,?_⟩;have h:=T.out;unfold ZK at h;simp only[<-HG.out] at h;exact h
      ·have k1:=(C a jO).1;have k0:=(C q jO).1;have f1:=(C a jO).2;have f0:=(C q jO).2;have T:=aT ((I.drew 1).swap J tT);clear hG C hq;go_region;go_wp2_with fail;go_meet;refine⟨rfl,Sort.swp D a q,?_⟩;have h:=T.out;unfold ZK at h;simp only[<-HG.out] at h;exact h
     case rest=>
      obtain⟨rfl,d2,kI⟩:=hcut;clear I;have Y:=aT (Hi (cap:=cap) (lo:=0) (hi:=i) (a:=a) _ kI jO jO hn);have sM:i<h:=jO;clear hq;go_wp2_with fail;refine Y.mono ?_;rintro e w1 ⟨rfl,d1,Z⟩;have U:=aT Z;clear Z Y;go_wp2_with fail;go_roundg ((i:Int)+1).toNat;case measure=>omega
      case rel=>exact⟨(i:Int)-1,d1,jO,jO,jO,by first|rfl|go_num,U⟩
    ·have hzz:¬(0:Int)<=z:=hz;go_wp2_with fail;go_end0;exact⟨_,D,rfl,rfl,I⟩
end Go.Proofs.YtclgigmgbebhgaaGreatDoor
