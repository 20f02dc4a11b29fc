/- TopOther: part 20: TopPartU. -/
import Derived.Test.YtclgigmgbebhgaaGreatDoorO19
set_option linter.unusedVariables false
set_option linter.unusedSimpArgs false
set_option maxRecDepth 100000
set_option maxHeartbeats 16000000
namespace Go.Proofs.YtclgigmgbebhgaaGreatDoor
open Tryz
open Go Go.Proofs Go.RowKit
theorem vE{w:World}{g n cap a b p:Nat}{d:Array Nat}(hH:Sort.Holds ZK w g 0 d)(hd:d.size=n)(hab:12<b-a)(hp:a<=p/\p<b)(hb:b<=n)(hn:n<=1000000):Calls prog 255 #[.slice (some ⟨g,0,none⟩) n cap,.int .i64 a,.int .i64 b,.int .i64 p] w (mG w g n d (λv=>∃(m:Nat) (r:Bool),v=.tuple #[.int .i64 m,.bool r]/\a<=m/\m<b)):=by
 have Uj:=aT (X0.start hH hd jO);obtain⟨j0,mV⟩:∃c,b=c+1:=⟨b-1,jO⟩;have iwb:IntKind.i64.wrap ((b:Int)-1)=(j0:Int):=by rw[aJ _ jO];omega
 obtain⟨i0,sW⟩:∃c,c=a+1:=⟨a+1,rfl⟩;have iwa:IntKind.i64.wrap ((a:Int)+1)=(i0:Int):=by rw[aJ _ jO];omega
 obtain⟨mI,tP⟩:=hp;have hj1:j0<b:=jO;have cO:b<=j0+1:=jO;have ax7:a<i0:=jO;have ax8:i0<=a+1:=jO;clear hH hd mV sW;go_enter func255,ntmps255;go_upto_region 1 with fail;go_cut [8] from 12 to 25 (λs wx=>s=.int .i64 0/\∃d2:Array Nat,Hid (X0 w g n d wx d2))
 case first=>
  by_cases U:a=p;·subst U;obtain⟨G,T,A⟩:=Uj.cells;have Z:=aT T;have k1:=(A a jO).1;have k0:=(A a jO).1;have f1:=(A a jO).2;have f0:=(A a jO).2;have J:a<n:=jO;have I:a<n:=jO;have b1:=jZ a;have b2:(a:Int)<(n:Int):=jO;have b3:=jZ a;have b4:(a:Int)<(n:Int):=jO;have D:=aT ((Uj.drew 1).swap J I);clear T A;go_region;go_wp2_with fail;go_meet;refine⟨rfl,Sort.swp d a a,?_⟩;have h:=D.out;unfold ZK at h;simp only[<-Z.out] at h;exact h
  ·skip
   obtain⟨G,T,A⟩:=Uj.cells;have Z:=aT T;have k1:=(A a jO).1;have k0:=(A p jO).1;have f1:=(A a jO).2;have f0:=(A p jO).2;have J:a<n:=jO;have I:p<n:=jO;have b1:=jZ a;have b2:(a:Int)<(n:Int):=jO;have b3:=jZ p;have b4:(p:Int)<(n:Int):=jO;have D:=aT ((Uj.drew 1).swap J I);clear T A;go_region;go_wp2_with fail;go_meet;refine⟨rfl,Sort.swp d a p,?_⟩;have h:=D.out;unfold ZK at h;simp only[<-Z.out] at h;exact h
 case rest=>
  obtain⟨rfl,dS,S⟩:=hcut;clear Uj;go_upto_region 3 with fail;go_loopg [10] (b+1) (λgg v wr=>∃i:Nat,a+1<=i/\i<=b/\b-i<gg/\v=.int .i64 (i:Int)/\Hid (X0 w g n d wr dS));case atStart=>exact⟨i0,jO,jO,jO,by first|rfl|go_num,S⟩
  case round=>
   obtain⟨i,sX,hi2,VP,rfl,HI⟩:=hrel;go_upto_region 3 with fail;go_cut [43] from 30 to 43 (λs wx=>∃r:Bool,s=.bool r/\(r=true->i<=j0)/\Hid (X0 w g n d wx dS))
   case first=>
    by_cases hg:i<=j0
    ·have AJ:decide ((i:Int)<=(j0:Int))=true:=by simp;omega
     have Jy:(i:Int)<=(j0:Int):=jO;obtain⟨G,T,A⟩:=HI.cells;clear T;have k0:=(A i jO).1;have n0:=jZ i;have x0:(i:Int)<(n:Int):=jO;have k1:=(A a jO).1;have n1:=jZ a;have x1:(a:Int)<(n:Int):=jO;clear A;go_quiet (first|(go_at_call 253;refine Calls.quiet_of_same (Yz _ _ _)));go_wp2_with fail;go_meet;exact⟨_,rfl,λ_=>hg,aT (HI.drew _)⟩
    ·have AJ:decide ((i:Int)<=(j0:Int))=false:=by simp;omega
     have Jy:¬(i:Int)<=(j0:Int):=jO;go_quiet (fail);go_wp2_with fail;go_meet;exact⟨_,rfl,(λh=>absurd h jD),aT (HI.drew _)⟩
   case rest=>
    obtain⟨r,rfl,hr,fh⟩:=hcut;clear HI;cases r with
    |true=>
     have Jz:IntKind.i64.wrap ((i:Int)+1)=((i+1:Nat):Int):=by rw[aJ _ jO];omega
     have U:=hr rfl;go_wp2_with fail;go_roundg (b-i);case measure=>omega
     case rel=>exact⟨i+1,jO,jO,jO,by go_num,fh⟩
    |false=>
     clear hr;go_upto_region 5 with fail;go_loopg [11] (j0+1) (λgg v wr=>∃j:Nat,a<=j/\j<=j0/\j<gg/\v=.int .i64 (j:Int)/\Hid (X0 w g n d wr dS));case atStart=>exact⟨j0,jO,jO,jO,rfl,fh⟩
     case round=>
      obtain⟨j,hj1,cO,jI,rfl,HJ⟩:=hrel;go_upto_region 5 with fail;go_cut [60] from 46 to 60 (λs wx=>∃r:Bool,s=.bool r/\(r=true->i<=j)/\Hid (X0 w g n d wx dS))
      case first=>
       by_cases hg:i<=j
       ·have AJ:decide ((i:Int)<=(j:Int))=true:=by simp;omega
        have Jy:(i:Int)<=(j:Int):=jO;obtain⟨G,T,A⟩:=HJ.cells;clear T;have k0:=(A j jO).1;have n0:=jZ j;have x0:(j:Int)<(n:Int):=jO;have k1:=(A a jO).1;have n1:=jZ a;have x1:(a:Int)<(n:Int):=jO;clear A;go_quiet (first|(go_at_call 253;refine Calls.quiet_of_same (Yz _ _ _)));go_wp2_with fail;go_meet;exact⟨_,rfl,λ_=>hg,aT (HJ.drew _)⟩
       ·have AJ:decide ((i:Int)<=(j:Int))=false:=by simp;omega
        have Jy:¬(i:Int)<=(j:Int):=jO;go_quiet (fail);go_wp2_with fail;go_meet;exact⟨_,rfl,(λh=>absurd h jD),aT (HJ.drew _)⟩
      case rest=>
       obtain⟨r,rfl,hr,C⟩:=hcut;clear HJ;cases r with
       |true=>
        have U:=hr rfl;obtain⟨e,he⟩:∃e,j=e+1:=⟨j-1,jO⟩;have he1:e<j:=jO;have fZ:j<=e+1:=jO;have mF:IntKind.i64.wrap ((j:Int)-1)=(e:Int):=by rw[aJ _ jO];omega
        clear he;go_wp2_with fail;go_roundg j;case measure=>omega
        case rel=>exact⟨e,jO,jO,jO,rfl,C⟩
       |false=>
        clear hr;by_cases hgt:(j:Int)<(i:Int)
        ·skip
         go_upto_region 8 with fail;go_cut [8] from 66 to 79 (λs wx=>s=.int .i64 0/\∃d2:Array Nat,Hid (X0 w g n d wx d2))
         case first=>
          by_cases U:j=a;·subst U;obtain⟨G,T,A⟩:=C.cells;have Z:=aT T;have k1:=(A j jO).1;have k0:=(A j jO).1;have f1:=(A j jO).2;have f0:=(A j jO).2;have J:j<n:=jO;have I:j<n:=jO;have b1:=jZ j;have b2:(j:Int)<(n:Int):=jO;have b3:=jZ j;have b4:(j:Int)<(n:Int):=jO;have D:=aT ((C.drew 1).swap J I);clear T A;go_region;go_wp2_with fail;go_meet;refine⟨rfl,Sort.swp dS j j,?_⟩;have h:=D.out;unfold ZK at h;simp only[<-Z.out] at h;exact h
          ·skip
           obtain⟨G,T,A⟩:=C.cells;have Z:=aT T;have k1:=(A j jO).1;have k0:=(A a jO).1;have f1:=(A j jO).2;have f0:=(A a jO).2;have J:j<n:=jO;have I:a<n:=jO;have b1:=jZ j;have b2:(j:Int)<(n:Int):=jO;have b3:=jZ a;have b4:(a:Int)<(n:Int):=jO;have D:=aT ((C.drew 1).swap J I);clear T A;go_region;go_wp2_with fail;go_meet;refine⟨rfl,Sort.swp dS j a,?_⟩;have h:=D.out;unfold ZK at h;simp only[<-Z.out] at h;exact h
         case rest=>
          obtain⟨rfl,dX,X⟩:=hcut;clear C;go_wp2_with fail;go_ret2;exact⟨_,_,rfl,⟨j,true,rfl,jO,jO⟩,X⟩
        ·skip
         go_upto_region 10 with fail;go_cut [8] from 81 to 94 (λs wx=>s=.int .i64 0/\∃d2:Array Nat,Hid (X0 w g n d wx d2))
         case first=>
          by_cases U:i=j;·subst U;obtain⟨G,T,A⟩:=C.cells;have Z:=aT T;have k1:=(A i jO).1;have k0:=(A i jO).1;have f1:=(A i jO).2;have f0:=(A i jO).2;have J:i<n:=jO;have I:i<n:=jO;have b1:=jZ i;have b2:(i:Int)<(n:Int):=jO;have b3:=jZ i;have b4:(i:Int)<(n:Int):=jO;have D:=aT ((C.drew 1).swap J I);clear T A;go_region;go_wp2_with fail;go_meet;refine⟨rfl,Sort.swp dS i i,?_⟩;have h:=D.out;unfold ZK at h;simp only[<-Z.out] at h;exact h
          ·skip
           obtain⟨G,T,A⟩:=C.cells;have Z:=aT T;have k1:=(A i jO).1;have k0:=(A j jO).1;have f1:=(A i jO).2;have f0:=(A j jO).2;have J:i<n:=jO;have I:j<n:=jO;have b1:=jZ i;have b2:(i:Int)<(n:Int):=jO;have b3:=jZ j;have b4:(j:Int)<(n:Int):=jO;have D:=aT ((C.drew 1).swap J I);clear T A;go_region;go_wp2_with fail;go_meet;refine⟨rfl,Sort.swp dS i j,?_⟩;have h:=D.out;unfold ZK at h;simp only[<-Z.out] at h;exact h
         case rest=>
          obtain⟨rfl,dY,Y⟩:=hcut;clear C;have Jz:IntKind.i64.wrap ((i:Int)+1)=((i+1:Nat):Int):=by rw[aJ _ jO];omega
          obtain⟨e,he⟩:∃e,j=e+1:=⟨j-1,jO⟩;have he1:e<j:=jO;have fZ:j<=e+1:=jO;have mF:IntKind.i64.wrap ((j:Int)-1)=(e:Int):=by rw[aJ _ jO];omega
          clear he;go_upto_region 13 with fail;go_loopg [10,11] (j+1) (λgg vi vj wr=>∃(i j:Nat) (dk:Array Nat),a+1<=i/\i<=b/\a<=j/\j<b/\j<gg/\vi=.int .i64 (i:Int)/\vj=.int .i64 (j:Int)/\Hid (X0 w g n d wr dk));case atStart=>exact⟨i+1,e,dY,jO,jO,jO,jO,jO,by first|rfl|go_num,by first|rfl|go_num,Y⟩
          case round=>
           clear Jz mF;obtain⟨yU,jo,dO,ax9,ay0,ay1,ay2,ay3,rfl,rfl,HO⟩:=hrel;go_upto_region 13 with fail;go_loopg [10] (b+1) (λgg v wr=>∃i:Nat,a+1<=i/\i<=b/\b-i<gg/\v=.int .i64 (i:Int)/\Hid (X0 w g n d wr dO));case atStart=>exact⟨yU,jO,jO,jO,by first|rfl|go_num,HO⟩
           case round=>
            obtain⟨i,sX,hi2,VP,rfl,HI⟩:=hrel;go_upto_region 13 with fail;go_cut [112] from 99 to 112 (λs wx=>∃r:Bool,s=.bool r/\(r=true->i<=jo)/\Hid (X0 w g n d wx dO))
            case first=>
             by_cases hg:i<=jo
             ·have AJ:decide ((i:Int)<=(jo:Int))=true:=by simp;omega
              have Jy:(i:Int)<=(jo:Int):=jO;obtain⟨G,T,A⟩:=HI.cells;clear T;have k0:=(A i jO).1;have n0:=jZ i;have x0:(i:Int)<(n:Int):=jO;have k1:=(A a jO).1;have n1:=jZ a;have x1:(a:Int)<(n:Int):=jO;clear A;go_quiet (first|(go_at_call 253;refine Calls.quiet_of_same (Yz _ _ _)));go_wp2_with fail;go_meet;exact⟨_,rfl,λ_=>hg,aT (HI.drew _)⟩
             ·have AJ:decide ((i:Int)<=(jo:Int))=false:=by simp;omega
              have Jy:¬(i:Int)<=(jo:Int):=jO;go_quiet (fail);go_wp2_with fail;go_meet;exact⟨_,rfl,(λh=>absurd h jD),aT (HI.drew _)⟩
            case rest=>
             obtain⟨r,rfl,hr,fh⟩:=hcut;clear HI;cases r with
             |true=>
              have Jz:IntKind.i64.wrap ((i:Int)+1)=((i+1:Nat):Int):=by rw[aJ _ jO];omega
              have U:=hr rfl;go_wp2_with fail;go_roundg (b-i);case measure=>omega
              case rel=>exact⟨i+1,jO,jO,jO,by go_num,fh⟩
             |false=>
              clear hr;go_upto_region 15 with fail;go_loopg [11] (jo+1) (λgg v wr=>∃j:Nat,a<=j/\j<=jo/\j<gg/\v=.int .i64 (j:Int)/\Hid (X0 w g n d wr dO));case atStart=>exact⟨jo,jO,jO,jO,rfl,fh⟩
              case round=>
               obtain⟨j,hj1,cO,jI,rfl,HJ⟩:=hrel;go_upto_region 15 with fail;go_cut [129] from 115 to 129 (λs wx=>∃r:Bool,s=.bool r/\(r=true->i<=j)/\Hid (X0 w g n d wx dO))
               case first=>
                by_cases hg:i<=j
                ·have AJ:decide ((i:Int)<=(j:Int))=true:=by simp;omega
                 have Jy:(i:Int)<=(j:Int):=jO;obtain⟨G,T,A⟩:=HJ.cells;clear T;have k0:=(A j jO).1;have n0:=jZ j;have x0:(j:Int)<(n:Int):=jO;have k1:=(A a jO).1;have n1:=jZ a;have x1:(a:Int)<(n:Int):=jO;clear A;go_quiet (first|(go_at_call 253;refine Calls.quiet_of_same (Yz _ _ _)));go_wp2_with fail;go_meet;exact⟨_,rfl,λ_=>hg,aT (HJ.drew _)⟩
                ·have AJ:decide ((i:Int)<=(j:Int))=false:=by simp;omega
                 have Jy:¬(i:Int)<=(j:Int):=jO;go_quiet (fail);go_wp2_with fail;go_meet;exact⟨_,rfl,(λh=>absurd h jD),aT (HJ.drew _)⟩
               case rest=>
                obtain⟨r,rfl,hr,C⟩:=hcut;clear HJ;cases r with
                |true=>
                 have U:=hr rfl;obtain⟨e,he⟩:∃e,j=e+1:=⟨j-1,jO⟩;have he1:e<j:=jO;have fZ:j<=e+1:=jO;have mF:IntKind.i64.wrap ((j:Int)-1)=(e:Int):=by rw[aJ _ jO];omega
                 clear he;go_wp2_with fail;go_roundg j;case measure=>omega
                 case rel=>exact⟨e,jO,jO,jO,rfl,C⟩
                |false=>
                 clear hr;by_cases hgt:(j:Int)<(i:Int)
                 ·skip
                  go_upto_region 21 with fail;go_cut [8] from 153 to 166 (λs wx=>s=.int .i64 0/\∃d2:Array Nat,Hid (X0 w g n d wx d2))
                  case first=>
                   by_cases U:j=a;·subst U;obtain⟨G,T,A⟩:=C.cells;have Z:=aT T;have k1:=(A j jO).1;have k0:=(A j jO).1;have f1:=(A j jO).2;have f0:=(A j jO).2;have J:j<n:=jO;have I:j<n:=jO;have b1:=jZ j;have b2:(j:Int)<(n:Int):=jO;have b3:=jZ j;have b4:(j:Int)<(n:Int):=jO;have D:=aT ((C.drew 1).swap J I);clear T A;go_region;go_wp2_with fail;go_meet;refine⟨rfl,Sort.swp dO j j,?_⟩;have h:=D.out;unfold ZK at h;simp only[<-Z.out] at h;exact h
                   ·skip
                    obtain⟨G,T,A⟩:=C.cells;have Z:=aT T;have k1:=(A j jO).1;have k0:=(A a jO).1;have f1:=(A j jO).2;have f0:=(A a jO).2;have J:j<n:=jO;have I:a<n:=jO;have b1:=jZ j;have b2:(j:Int)<(n:Int):=jO;have b3:=jZ a;have b4:(a:Int)<(n:Int):=jO;have D:=aT ((C.drew 1).swap J I);clear T A;go_region;go_wp2_with fail;go_meet;refine⟨rfl,Sort.swp dO j a,?_⟩;have h:=D.out;unfold ZK at h;simp only[<-Z.out] at h;exact h
                  case rest=>
                   obtain⟨rfl,dX,X⟩:=hcut;clear C;go_wp2_with fail;go_ret2;exact⟨_,_,rfl,⟨j,false,rfl,jO,jO⟩,X⟩
                 ·skip
                  go_upto_region 18 with fail;go_cut [8] from 135 to 148 (λs wx=>s=.int .i64 0/\∃d2:Array Nat,Hid (X0 w g n d wx d2))
                  case first=>
                   by_cases U:i=j;·subst U;obtain⟨G,T,A⟩:=C.cells;have Z:=aT T;have k1:=(A i jO).1;have k0:=(A i jO).1;have f1:=(A i jO).2;have f0:=(A i jO).2;have J:i<n:=jO;have I:i<n:=jO;have b1:=jZ i;have b2:(i:Int)<(n:Int):=jO;have b3:=jZ i;have b4:(i:Int)<(n:Int):=jO;have D:=aT ((C.drew 1).swap J I);clear T A;go_region;go_wp2_with fail;go_meet;refine⟨rfl,Sort.swp dO i i,?_⟩;have h:=D.out;unfold ZK at h;simp only[<-Z.out] at h;exact h
                   ·skip
                    obtain⟨G,T,A⟩:=C.cells;have Z:=aT T;have k1:=(A i jO).1;have k0:=(A j jO).1;have f1:=(A i jO).2;have f0:=(A j jO).2;have J:i<n:=jO;have I:j<n:=jO;have b1:=jZ i;have b2:(i:Int)<(n:Int):=jO;have b3:=jZ j;have b4:(j:Int)<(n:Int):=jO;have D:=aT ((C.drew 1).swap J I);clear T A;go_region;go_wp2_with fail;go_meet;refine⟨rfl,Sort.swp dO i j,?_⟩;have h:=D.out;unfold ZK at h;simp only[<-Z.out] at h;exact h
                  case rest=>
                   obtain⟨rfl,dX,X⟩:=hcut;clear C;have Jz:IntKind.i64.wrap ((i:Int)+1)=((i+1:Nat):Int):=by rw[aJ _ jO];omega
                   obtain⟨e,he⟩:∃e,j=e+1:=⟨j-1,jO⟩;have he1:e<j:=jO;have fZ:j<=e+1:=jO;have mF:IntKind.i64.wrap ((j:Int)-1)=(e:Int):=by rw[aJ _ jO];omega
                   clear he;go_wp2_with fail;go_roundg jo;case measure=>omega
                   case rel=>exact⟨i+1,e,dX,jO,jO,jO,jO,jO,by go_num,rfl,X⟩
end Go.Proofs.YtclgigmgbebhgaaGreatDoor
