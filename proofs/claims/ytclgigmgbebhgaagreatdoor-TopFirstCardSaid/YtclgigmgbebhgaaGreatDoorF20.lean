/- TopFirst: part 20: TopPartU. -/
import Derived.Test.YtclgigmgbebhgaaGreatDoorF19
set_option linter.unusedVariables false
set_option linter.unusedSimpArgs false
set_option maxRecDepth 100000
set_option maxHeartbeats 16000000
namespace Go.Proofs.YtclgigmgbebhgaaGreatDoor
open Tryz
open Go Go.Proofs Go.RowKit
theorem vw{w:World}{g n cap a b p:Nat}{d:Array Nat}(hH:Sort.Holds ZK w g 0 d)(hd:d.size=n)(hab:12<b-a)(hp:a<=p/\p<b)(hb:b<=n)(hn:n<=1000000):Calls prog 255 #[.slice (some ⟨g,0,none⟩) n cap,.int .i64 a,.int .i64 b,.int .i64 p] w (mQ w g n d (λv=>∃(m:Nat) (r:Bool),v=.tuple #[.int .i64 m,.bool r]/\a<=m/\m<b)):=by
 have UB:=aT (XV.start hH hd jO);obtain⟨j0,gI⟩:∃c,b=c+1:=⟨b-1,jO⟩;have iwb:IntKind.i64.wrap ((b:Int)-1)=(j0:Int):=by rw[aJ _ jO];omega
 obtain⟨i0,sL⟩:∃c,c=a+1:=⟨a+1,rfl⟩;have iwa:IntKind.i64.wrap ((a:Int)+1)=(i0:Int):=by rw[aJ _ jO];omega
 obtain⟨mS,tI⟩:=hp;have hj1:j0<b:=jO;have dh:b<=j0+1:=jO;have ax7:a<i0:=jO;have ax8:i0<=a+1:=jO;clear hH hd gI sL;go_enter func255,ntmps255;go_upto_region 1 with fail;go_cut [8] from 12 to 25 (λs wx=>s=.int .i64 0/\∃d2:Array Nat,Hid (XV w g n d wx d2))
 case first=>
  by_cases Z:a=p;·subst Z;obtain⟨G,U,C⟩:=UB.cells;have HG:=aT U;have k1:=(C a jO).1;have k0:=(C a jO).1;have f1:=(C a jO).2;have f0:=(C a jO).2;have J:a<n:=jO;have I:a<n:=jO;have b1:=jZ a;have b2:(a:Int)<(n:Int):=jO;have b3:=jZ a;have b4:(a:Int)<(n:Int):=jO;have T:=aT ((UB.drew 1).swap J I);clear U C;go_region;go_wp2_with fail;go_meet;refine⟨rfl,Sort.swp d a a,?_⟩;have h:=T.out;unfold ZK at h;simp only[<-HG.out] at h;exact h
  ·skip
   obtain⟨G,U,C⟩:=UB.cells;have HG:=aT U;have k1:=(C a jO).1;have k0:=(C p jO).1;have f1:=(C a jO).2;have f0:=(C p jO).2;have J:a<n:=jO;have I:p<n:=jO;have b1:=jZ a;have b2:(a:Int)<(n:Int):=jO;have b3:=jZ p;have b4:(p:Int)<(n:Int):=jO;have T:=aT ((UB.drew 1).swap J I);clear U C;go_region;go_wp2_with fail;go_meet;refine⟨rfl,Sort.swp d a p,?_⟩;have h:=T.out;unfold ZK at h;simp only[<-HG.out] at h;exact h
 case rest=>
  obtain⟨rfl,dS,S⟩:=hcut;clear UB;go_upto_region 3 with fail;go_loopg [10] (b+1) (λgg v wr=>∃i:Nat,a+1<=i/\i<=b/\b-i<gg/\v=.int .i64 (i:Int)/\Hid (XV w g n d wr dS));case atStart=>exact⟨i0,jO,jO,jO,by first|rfl|go_num,S⟩
  case round=>
   obtain⟨i,sM,aW,Vs,rfl,HI⟩:=hrel;go_upto_region 3 with fail;go_cut [43] from 30 to 43 (λs wx=>∃r:Bool,s=.bool r/\(r=true->i<=j0)/\Hid (XV w g n d wx dS))
   case first=>
    by_cases hg:i<=j0
    ·have AL:decide ((i:Int)<=(j0:Int))=true:=by simp;omega
     have Jk:(i:Int)<=(j0:Int):=jO;obtain⟨G,U,C⟩:=HI.cells;clear U;have k0:=(C i jO).1;have n0:=jZ i;have x0:(i:Int)<(n:Int):=jO;have k1:=(C a jO).1;have n1:=jZ a;have x1:(a:Int)<(n:Int):=jO;clear C;go_quiet (first|(go_at_call 253;refine Calls.quiet_of_same (Ys _ _ _)));go_wp2_with fail;go_meet;exact⟨_,rfl,λ_=>hg,aT (HI.drew _)⟩
    ·have AL:decide ((i:Int)<=(j0:Int))=false:=by simp;omega
     have Jk:¬(i:Int)<=(j0:Int):=jO;go_quiet (fail);go_wp2_with fail;go_meet;exact⟨_,rfl,(λh=>absurd h jD),aT (HI.drew _)⟩
   case rest=>
    obtain⟨r,rfl,hr,fI⟩:=hcut;clear HI;cases r with
    |true=>
     have Jc:IntKind.i64.wrap ((i:Int)+1)=((i+1:Nat):Int):=by rw[aJ _ jO];omega
     have Z:=hr rfl;go_wp2_with fail;go_roundg (b-i);case measure=>omega
     case rel=>exact⟨i+1,jO,jO,jO,by go_num,fI⟩
    |false=>
     clear hr;go_upto_region 5 with fail;go_loopg [11] (j0+1) (λgg v wr=>∃j:Nat,a<=j/\j<=j0/\j<gg/\v=.int .i64 (j:Int)/\Hid (XV w g n d wr dS));case atStart=>exact⟨j0,jO,jO,jO,rfl,fI⟩
     case round=>
      obtain⟨j,hj1,dh,j8,rfl,HJ⟩:=hrel;go_upto_region 5 with fail;go_cut [60] from 46 to 60 (λs wx=>∃r:Bool,s=.bool r/\(r=true->i<=j)/\Hid (XV w g n d wx dS))
      case first=>
       by_cases hg:i<=j
       ·have AL:decide ((i:Int)<=(j:Int))=true:=by simp;omega
        have Jk:(i:Int)<=(j:Int):=jO;obtain⟨G,U,C⟩:=HJ.cells;clear U;have k0:=(C j jO).1;have n0:=jZ j;have x0:(j:Int)<(n:Int):=jO;have k1:=(C a jO).1;have n1:=jZ a;have x1:(a:Int)<(n:Int):=jO;clear C;go_quiet (first|(go_at_call 253;refine Calls.quiet_of_same (Ys _ _ _)));go_wp2_with fail;go_meet;exact⟨_,rfl,λ_=>hg,aT (HJ.drew _)⟩
       ·have AL:decide ((i:Int)<=(j:Int))=false:=by simp;omega
        have Jk:¬(i:Int)<=(j:Int):=jO;go_quiet (fail);go_wp2_with fail;go_meet;exact⟨_,rfl,(λh=>absurd h jD),aT (HJ.drew _)⟩
      case rest=>
       obtain⟨r,rfl,hr,D⟩:=hcut;clear HJ;cases r with
       |true=>
        have Z:=hr rfl;obtain⟨e,he⟩:∃e,j=e+1:=⟨j-1,jO⟩;have he1:e<j:=jO;have gL:j<=e+1:=jO;have mP:IntKind.i64.wrap ((j:Int)-1)=(e:Int):=by rw[aJ _ jO];omega
        clear he;go_wp2_with fail;go_roundg j;case measure=>omega
        case rel=>exact⟨e,jO,jO,jO,rfl,D⟩
       |false=>
        clear hr;by_cases hgt:(j:Int)<(i:Int)
        ·skip
         go_upto_region 8 with fail;go_cut [8] from 66 to 79 (λs wx=>s=.int .i64 0/\∃d2:Array Nat,Hid (XV w g n d wx d2))
         case first=>
          by_cases Z:j=a;·subst Z;obtain⟨G,U,C⟩:=D.cells;have HG:=aT U;have k1:=(C j jO).1;have k0:=(C j jO).1;have f1:=(C j jO).2;have f0:=(C j jO).2;have J:j<n:=jO;have I:j<n:=jO;have b1:=jZ j;have b2:(j:Int)<(n:Int):=jO;have b3:=jZ j;have b4:(j:Int)<(n:Int):=jO;have T:=aT ((D.drew 1).swap J I);clear U C;go_region;go_wp2_with fail;go_meet;refine⟨rfl,Sort.swp dS j j,?_⟩;have h:=T.out;unfold ZK at h;simp only[<-HG.out] at h;exact h
          ·skip
           obtain⟨G,U,C⟩:=D.cells;have HG:=aT U;have k1:=(C j jO).1;have k0:=(C a jO).1;have f1:=(C j jO).2;have f0:=(C a jO).2;have J:j<n:=jO;have I:a<n:=jO;have b1:=jZ j;have b2:(j:Int)<(n:Int):=jO;have b3:=jZ a;have b4:(a:Int)<(n:Int):=jO;have T:=aT ((D.drew 1).swap J I);clear U C;go_region;go_wp2_with fail;go_meet;refine⟨rfl,Sort.swp dS j a,?_⟩;have h:=T.out;unfold ZK at h;simp only[<-HG.out] at h;exact h
         case rest=>
          obtain⟨rfl,dX,X⟩:=hcut;clear D;go_wp2_with fail;go_ret2;exact⟨_,_,rfl,⟨j,true,rfl,jO,jO⟩,X⟩
        ·skip
         go_upto_region 10 with fail;go_cut [8] from 81 to 94 (λs wx=>s=.int .i64 0/\∃d2:Array Nat,Hid (XV w g n d wx d2))
         case first=>
          by_cases Z:i=j;·subst Z;obtain⟨G,U,C⟩:=D.cells;have HG:=aT U;have k1:=(C i jO).1;have k0:=(C i jO).1;have f1:=(C i jO).2;have f0:=(C i jO).2;have J:i<n:=jO;have I:i<n:=jO;have b1:=jZ i;have b2:(i:Int)<(n:Int):=jO;have b3:=jZ i;have b4:(i:Int)<(n:Int):=jO;have T:=aT ((D.drew 1).swap J I);clear U C;go_region;go_wp2_with fail;go_meet;refine⟨rfl,Sort.swp dS i i,?_⟩;have h:=T.out;unfold ZK at h;simp only[<-HG.out] at h;exact h
          ·skip
           obtain⟨G,U,C⟩:=D.cells;have HG:=aT U;have k1:=(C i jO).1;have k0:=(C j jO).1;have f1:=(C i jO).2;have f0:=(C j jO).2;have J:i<n:=jO;have I:j<n:=jO;have b1:=jZ i;have b2:(i:Int)<(n:Int):=jO;have b3:=jZ j;have b4:(j:Int)<(n:Int):=jO;have T:=aT ((D.drew 1).swap J I);clear U C;go_region;go_wp2_with fail;go_meet;refine⟨rfl,Sort.swp dS i j,?_⟩;have h:=T.out;unfold ZK at h;simp only[<-HG.out] at h;exact h
         case rest=>
          obtain⟨rfl,dY,Y⟩:=hcut;clear D;have Jc:IntKind.i64.wrap ((i:Int)+1)=((i+1:Nat):Int):=by rw[aJ _ jO];omega
          obtain⟨e,he⟩:∃e,j=e+1:=⟨j-1,jO⟩;have he1:e<j:=jO;have gL:j<=e+1:=jO;have mP:IntKind.i64.wrap ((j:Int)-1)=(e:Int):=by rw[aJ _ jO];omega
          clear he;go_upto_region 13 with fail;go_loopg [10,11] (j+1) (λgg vi vj wr=>∃(i j:Nat) (dk:Array Nat),a+1<=i/\i<=b/\a<=j/\j<b/\j<gg/\vi=.int .i64 (i:Int)/\vj=.int .i64 (j:Int)/\Hid (XV w g n d wr dk));case atStart=>exact⟨i+1,e,dY,jO,jO,jO,jO,jO,by first|rfl|go_num,by first|rfl|go_num,Y⟩
          case round=>
           clear Jc mP;obtain⟨wC,jo,dO,ax9,ay0,ay1,ay2,ay3,rfl,rfl,HO⟩:=hrel;go_upto_region 13 with fail;go_loopg [10] (b+1) (λgg v wr=>∃i:Nat,a+1<=i/\i<=b/\b-i<gg/\v=.int .i64 (i:Int)/\Hid (XV w g n d wr dO));case atStart=>exact⟨wC,jO,jO,jO,by first|rfl|go_num,HO⟩
           case round=>
            obtain⟨i,sM,aW,Vs,rfl,HI⟩:=hrel;go_upto_region 13 with fail;go_cut [112] from 99 to 112 (λs wx=>∃r:Bool,s=.bool r/\(r=true->i<=jo)/\Hid (XV w g n d wx dO))
            case first=>
             by_cases hg:i<=jo
             ·have AL:decide ((i:Int)<=(jo:Int))=true:=by simp;omega
              have Jk:(i:Int)<=(jo:Int):=jO;obtain⟨G,U,C⟩:=HI.cells;clear U;have k0:=(C i jO).1;have n0:=jZ i;have x0:(i:Int)<(n:Int):=jO;have k1:=(C a jO).1;have n1:=jZ a;have x1:(a:Int)<(n:Int):=jO;clear C;go_quiet (first|(go_at_call 253;refine Calls.quiet_of_same (Ys _ _ _)));go_wp2_with fail;go_meet;exact⟨_,rfl,λ_=>hg,aT (HI.drew _)⟩
             ·have AL:decide ((i:Int)<=(jo:Int))=false:=by simp;omega
              have Jk:¬(i:Int)<=(jo:Int):=jO;go_quiet (fail);go_wp2_with fail;go_meet;exact⟨_,rfl,(λh=>absurd h jD),aT (HI.drew _)⟩
            case rest=>
             obtain⟨r,rfl,hr,fI⟩:=hcut;clear HI;cases r with
             |true=>
              have Jc:IntKind.i64.wrap ((i:Int)+1)=((i+1:Nat):Int):=by rw[aJ _ jO];omega
              have Z:=hr rfl;go_wp2_with fail;go_roundg (b-i);case measure=>omega
              case rel=>exact⟨i+1,jO,jO,jO,by go_num,fI⟩
             |false=>
              clear hr;go_upto_region 15 with fail;go_loopg [11] (jo+1) (λgg v wr=>∃j:Nat,a<=j/\j<=jo/\j<gg/\v=.int .i64 (j:Int)/\Hid (XV w g n d wr dO));case atStart=>exact⟨jo,jO,jO,jO,rfl,fI⟩
              case round=>
               obtain⟨j,hj1,dh,j8,rfl,HJ⟩:=hrel;go_upto_region 15 with fail;go_cut [129] from 115 to 129 (λs wx=>∃r:Bool,s=.bool r/\(r=true->i<=j)/\Hid (XV w g n d wx dO))
               case first=>
                by_cases hg:i<=j
                ·have AL:decide ((i:Int)<=(j:Int))=true:=by simp;omega
                 have Jk:(i:Int)<=(j:Int):=jO;obtain⟨G,U,C⟩:=HJ.cells;clear U;have k0:=(C j jO).1;have n0:=jZ j;have x0:(j:Int)<(n:Int):=jO;have k1:=(C a jO).1;have n1:=jZ a;have x1:(a:Int)<(n:Int):=jO;clear C;go_quiet (first|(go_at_call 253;refine Calls.quiet_of_same (Ys _ _ _)));go_wp2_with fail;go_meet;exact⟨_,rfl,λ_=>hg,aT (HJ.drew _)⟩
                ·have AL:decide ((i:Int)<=(j:Int))=false:=by simp;omega
                 have Jk:¬(i:Int)<=(j:Int):=jO;go_quiet (fail);go_wp2_with fail;go_meet;exact⟨_,rfl,(λh=>absurd h jD),aT (HJ.drew _)⟩
               case rest=>
                obtain⟨r,rfl,hr,D⟩:=hcut;clear HJ;cases r with
                |true=>
                 have Z:=hr rfl;obtain⟨e,he⟩:∃e,j=e+1:=⟨j-1,jO⟩;have he1:e<j:=jO;have gL:j<=e+1:=jO;have mP:IntKind.i64.wrap ((j:Int)-1)=(e:Int):=by rw[aJ _ jO];omega
                 clear he;go_wp2_with fail;go_roundg j;case measure=>omega
                 case rel=>exact⟨e,jO,jO,jO,rfl,D⟩
                |false=>
                 clear hr;by_cases hgt:(j:Int)<(i:Int)
                 ·skip
                  go_upto_region 21 with fail;go_cut [8] from 153 to 166 (λs wx=>s=.int .i64 0/\∃d2:Array Nat,Hid (XV w g n d wx d2))
                  case first=>
                   by_cases Z:j=a;·subst Z;obtain⟨G,U,C⟩:=D.cells;have HG:=aT U;have k1:=(C j jO).1;have k0:=(C j jO).1;have f1:=(C j jO).2;have f0:=(C j jO).2;have J:j<n:=jO;have I:j<n:=jO;have b1:=jZ j;have b2:(j:Int)<(n:Int):=jO;have b3:=jZ j;have b4:(j:Int)<(n:Int):=jO;have T:=aT ((D.drew 1).swap J I);clear U C;go_region;go_wp2_with fail;go_meet;refine⟨rfl,Sort.swp dO j j,?_⟩;have h:=T.out;unfold ZK at h;simp only[<-HG.out] at h;exact h
                   ·skip
                    obtain⟨G,U,C⟩:=D.cells;have HG:=aT U;have k1:=(C j jO).1;have k0:=(C a jO).1;have f1:=(C j jO).2;have f0:=(C a jO).2;have J:j<n:=jO;have I:a<n:=jO;have b1:=jZ j;have b2:(j:Int)<(n:Int):=jO;have b3:=jZ a;have b4:(a:Int)<(n:Int):=jO;have T:=aT ((D.drew 1).swap J I);clear U C;go_region;go_wp2_with fail;go_meet;refine⟨rfl,Sort.swp dO j a,?_⟩;have h:=T.out;unfold ZK at h;simp only[<-HG.out] at h;exact h
                  case rest=>
                   obtain⟨rfl,dX,X⟩:=hcut;clear D;go_wp2_with fail;go_ret2;exact⟨_,_,rfl,⟨j,false,rfl,jO,jO⟩,X⟩
                 ·skip
                  go_upto_region 18 with fail;go_cut [8] from 135 to 148 (λs wx=>s=.int .i64 0/\∃d2:Array Nat,Hid (XV w g n d wx d2))
                  case first=>
                   by_cases Z:i=j;·subst Z;obtain⟨G,U,C⟩:=D.cells;have HG:=aT U;have k1:=(C i jO).1;have k0:=(C i jO).1;have f1:=(C i jO).2;have f0:=(C i jO).2;have J:i<n:=jO;have I:i<n:=jO;have b1:=jZ i;have b2:(i:Int)<(n:Int):=jO;have b3:=jZ i;have b4:(i:Int)<(n:Int):=jO;have T:=aT ((D.drew 1).swap J I);clear U C;go_region;go_wp2_with fail;go_meet;refine⟨rfl,Sort.swp dO i i,?_⟩;have h:=T.out;unfold ZK at h;simp only[<-HG.out] at h;exact h
                   ·skip
                    obtain⟨G,U,C⟩:=D.cells;have HG:=aT U;have k1:=(C i jO).1;have k0:=(C j jO).1;have f1:=(C i jO).2;have f0:=(C j jO).2;have J:i<n:=jO;have I:j<n:=jO;have b1:=jZ i;have b2:(i:Int)<(n:Int):=jO;have b3:=jZ j;have b4:(j:Int)<(n:Int):=jO;have T:=aT ((D.drew 1).swap J I);clear U C;go_region;go_wp2_with fail;go_meet;refine⟨rfl,Sort.swp dO i j,?_⟩;have h:=T.out;unfold ZK at h;simp only[<-HG.out] at h;exact h
                  case rest=>
                   obtain⟨rfl,dX,X⟩:=hcut;clear D;have Jc:IntKind.i64.wrap ((i:Int)+1)=((i+1:Nat):Int):=by rw[aJ _ jO];omega
                   obtain⟨e,he⟩:∃e,j=e+1:=⟨j-1,jO⟩;have he1:e<j:=jO;have gL:j<=e+1:=jO;have mP:IntKind.i64.wrap ((j:Int)-1)=(e:Int):=by rw[aJ _ jO];omega
                   clear he;go_wp2_with fail;go_roundg jo;case measure=>omega
                   case rel=>exact⟨i+1,e,dX,jO,jO,jO,jO,jO,by go_num,rfl,X⟩
end Go.Proofs.YtclgigmgbebhgaaGreatDoor
