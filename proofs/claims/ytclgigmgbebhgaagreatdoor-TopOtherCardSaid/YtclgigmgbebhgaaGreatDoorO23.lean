/- TopOther: part 23: TopPdq. -/
import Derived.Test.YtclgigmgbebhgaaGreatDoorO20
import Derived.Test.YtclgigmgbebhgaaGreatDoorO21
import Derived.Test.YtclgigmgbebhgaaGreatDoorO22
set_option linter.unusedVariables false
set_option linter.unusedSimpArgs false
set_option maxRecDepth 100000
set_option maxHeartbeats 16000000
namespace Go.Proofs.YtclgigmgbebhgaaGreatDoor
open Tryz
open Go Go.Proofs Go.RowKit
theorem qm{g n cap:Nat}(hn:n<=1000000)(h0n:0<n):∀(N:Nat) (w:World) (a b:Nat) (lim:Int) (d:Array Nat),Sort.Holds ZK w g 0 d->d.size=n->a<=b->b<=n->b-a<N->Calls prog 177 #[.slice (some ⟨g,0,none⟩) n cap,.int .i64 a,.int .i64 b,.int .i64 lim] w (mG w g n d (λv=>v=.tuple #[])):=by
 intro N
 induction N with
 |zero=>intro w a b lim d hH hd hab hb hN;omega
 |succ N IH=>
  intro w a0 b0 lim d hH hd hab hb hN;have IH':=aT IH;have Uj:=aT (X0.start hH hd h0n);clear hH hd IH;go_enter func177,ntmps177;go_upto_region 2 with fail;go_loopg [1,2,3,8,9] (b0-a0+1) (λgg va vb vl v8 v9 wr=>∃(a b:Nat) (z:Int) (x y:Bool) (dk:Array Nat),a<=b/\b<=n/\b-a<gg/\b-a<=b0-a0/\va=.int .i64 (a:Int)/\vb=.int .i64 (b:Int)/\vl=.int .i64 z/\v8=.bool x/\v9=.bool y/\Hid (X0 w g n d wr dk));case atStart=>exact⟨a0,b0,lim,true,true,d,hab,hb,jO,jO,rfl,rfl,rfl,rfl,rfl,Uj⟩
  case round=>
   obtain⟨a,b,z,x,y,dk,ay6,A,VP,hle,rfl,rfl,rfl,rfl,rfl,HK⟩:=hrel;have hH:=aT HK.2.2.2.2;have hd:=HK.2.2.1;have iwl:IntKind.i64.wrap ((b:Int)-(a:Int))=(b:Int)-(a:Int):=aJ _ jO;by_cases hs:b-a<=12
   ·have h12:(b:Int)-(a:Int)<=12:=by omega
    go_wp2_with fail;refine(qz hH hd ay6 A hn).mono ?_;intro e w1 h1;obtain⟨v,d1,rfl,rfl,J⟩:=aa5 hH hd h0n h1;have H2:=aT (HK.trans J);clear h1 J;go_wp2_with fail;go_end0;exact⟨_,d1,rfl,rfl,H2⟩
   ·have h12:¬(b:Int)-(a:Int)<=12:=by omega
    have D:12<b-a:=jO;clear hs;go_upto_region 5 with fail;by_cases hz:z=0
    ·subst hz;go_wp2_with fail;refine(vD hH hd jO A hn).mono ?_;rintro e w1 ⟨v,d1,rfl,rfl,J⟩;have H2:=aT (HK.trans J);clear J;go_wp2_with fail;go_end0;exact⟨_,d1,rfl,rfl,H2⟩
    ·have hz':(z == 0)=false:=by rw[ae];exact hz
     go_upto_if 35 with fail
     go_cut [3] from 19 to 133 (λs3 wx=>∃(z2:Int) (d2:Array Nat),s3=.int .i64 z2/\Hid (X0 w g n d wx d2))
     case first=>
      cases x with
      |true=>
       go_wp2_with fail;go_meet;exact⟨z,dk,rfl,HK⟩
      |false=>
       go_wp2_with fail;refine(AH hH hd D A hn).mono ?_;rintro e w1 ⟨v,d1,rfl,rfl,J⟩;have H2:=aT (HK.trans J);clear J;go_wp2_with fail;go_meet;exact⟨_,d1,rfl,H2⟩
     case rest=>
      obtain⟨z2,d2,rfl,bJ⟩:=hcut;have hH2:=aT bJ.2.2.2.2;have hd2:=bJ.2.2.1;clear hH hd HK hz hz';go_wp2_with fail;refine(qq hH2 hd2 D A hn).mono ?_;rintro e w1 ⟨v,d3,rfl,⟨p,hh,rfl,mI,tP⟩,J⟩;have Z:=aT (bJ.trans J);have hH3:=aT Z.2.2.2.2;have mE:=Z.2.2.1;clear J hH2 hd2 bJ;go_upto_if 50 with fail
      go_cut [11,12] from 19 to 133 (λs11 s12 wx=>∃(p h:Int) (q:Nat) (d2:Array Nat),s11=.int .i64 p/\s12=.int .i64 h/\p=(q:Int)/\a<=q/\q<b/\Hid (X0 w g n d wx d2))
      case first=>
       by_cases J:hh=2;·subst J;go_wp2_with fail;refine(qy hH3 mE jO A hn).mono ?_;rintro e w2 ⟨v,d4,rfl,rfl,h4⟩;have H4:=aT (Z.trans h4);clear h4;have i1:IntKind.i64.wrap ((b:Int)-1)=(b:Int)-1:=aJ _ jO;have i2:IntKind.i64.wrap ((p:Int)-(a:Int))=(p:Int)-(a:Int):=aJ _ jO;have i3:IntKind.i64.wrap ((b:Int)-1-((p:Int)-(a:Int)))=(b:Int)-1-((p:Int)-(a:Int)):=aJ _ jO;go_wp2_with fail;go_meet;exact⟨_,_,b-1-(p-a),d4,rfl,rfl,jO,jO,jO,H4⟩
       ·have h2':(hh == 2)=false:=by rw[ae];exact J
        go_wp2_with fail;go_meet;exact⟨_,_,p,d3,rfl,rfl,rfl,mI,tP,Z⟩
      case rest=>
       obtain⟨_,h,q,d4,rfl,rfl,rfl,hq1,hq2,C⟩:=hcut;clear hH3 mE Z mI tP;go_upto_region 15 with fail;go_cut [68] from 19 to 133 (λs68 wx=>∃r:Bool,s68=.bool r/\Hid (X0 w g n d wx d4))
       case first=>
        by_cases h1:h=1
        ·subst h1;cases x with
         |true=>
          cases y with
          |true=>
           go_wp2_with fail;go_meet;exact⟨_,rfl,C⟩
          |false=>
           go_wp2_with fail;go_meet;exact⟨_,rfl,C⟩
         |false=>
          cases y with
          |true=>
           go_wp2_with fail;go_meet;exact⟨_,rfl,C⟩
          |false=>
           go_wp2_with fail;go_meet;exact⟨_,rfl,C⟩
        ·have h1':(h == 1)=false:=by rw[ae];exact h1
         cases x with
         |true=>
          cases y with
          |true=>
           go_wp2_with fail;go_meet;exact⟨_,rfl,C⟩
          |false=>
           go_wp2_with fail;go_meet;exact⟨_,rfl,C⟩
         |false=>
          cases y with
          |true=>
           go_wp2_with fail;go_meet;exact⟨_,rfl,C⟩
          |false=>
           go_wp2_with fail;go_meet;exact⟨_,rfl,C⟩
       case rest=>
        obtain⟨r,rfl,I⟩:=hcut;clear C;go_upto_if 68 with fail
        go_cut [11] from 19 to 133 (λs11 wx=>∃d5:Array Nat,s11=.int .i64 (q:Int)/\Hid (X0 w g n d wx d5))
        case first=>
         cases r with
         |false=>
          go_wp2_with fail;go_meet;exact⟨d4,rfl,I⟩
         |true=>
          go_wp2_with fail;refine(Ga I.2.2.2.2 I.2.2.1 D A hn).mono ?_;rintro e w2 ⟨v,d5,rfl,⟨rr,rfl⟩,h5⟩;have H5:=aT (I.trans h5);clear h5;cases rr with
          |true=>
           go_wp2_with fail;go_end0;exact⟨_,d5,rfl,rfl,H5⟩
          |false=>
           go_wp2_with fail;go_meet;exact⟨d5,rfl,H5⟩
        case rest=>
         obtain⟨d5,rfl,HK5⟩:=hcut;clear I;obtain⟨G,hG,hc⟩:=HK5.cells;clear hG;have q0:=jZ q;have q1:(q:Int)<(n:Int):=jO;have k1:=(hc q jO).1;go_upto_region 17 with fail;go_cut [87] from 19 to 133 (λs87 wx=>∃r:Bool,s87=.bool r/\Hid (X0 w g n d wx d5))
         case first=>
          by_cases ha:0<a
          ·obtain⟨e,he⟩:∃e,a=e+1:=⟨a-1,jO⟩;have AJ:decide ((0:Int)<(a:Int))=true:=by simp;omega
           have Jy:(0:Int)<(a:Int):=jO;have iwp:IntKind.i64.wrap ((a:Int)-1)=(e:Int):=by rw[aJ _ jO];omega
           have k0:=(hc e jO).1;have e0:=jZ e;have e1:(e:Int)<(n:Int):=jO;clear he hc;go_quiet (first|(go_at_call 253;refine Calls.quiet_of_same (Yz _ _ _)));go_wp2_with fail;go_meet;exact⟨_,rfl,aT (HK5.drew _)⟩
          ·have AJ:decide ((0:Int)<(a:Int))=false:=by simp;omega
           clear hc;go_quiet (fail);go_wp2_with fail;go_meet;exact⟨_,rfl,aT (HK5.drew _)⟩
         case rest=>
          obtain⟨r,rfl,Y⟩:=hcut;clear HK5 hc k1;have hH6:=aT Y.2.2.2.2;have jH:=Y.2.2.1;cases r with
          |true=>
           go_wp2_with fail;refine(Dn hH6 jH D ⟨hq1,hq2⟩ A hn).mono ?_;rintro e w2 ⟨v,d7,rfl,⟨m,rfl,tQ,mW⟩,h7⟩;have H7:=aT (Y.trans h7);clear h7;go_wp2_with fail;go_roundg (b-a);case measure=>omega
           case rel=>exact⟨m,b,z2,x,y,d7,mW,A,jO,jO,rfl,rfl,rfl,rfl,rfl,H7⟩
          |false=>
           go_wp2_with fail;refine(vE hH6 jH D ⟨hq1,hq2⟩ A hn).mono ?_;rintro e w2 ⟨v,d7,rfl,⟨m,ap,rfl,tQ,mW⟩,h7⟩;have H7:=aT (Y.trans h7);have hH7:=aT H7.2.2.2.2;have hd7:=H7.2.2.1;have i1:IntKind.i64.wrap ((m:Int)-(a:Int))=(m:Int)-(a:Int):=aJ _ jO;have i2:IntKind.i64.wrap ((b:Int)-(m:Int))=(b:Int)-(m:Int):=aJ _ jO;have i3:IntKind.i64.wrap ((m:Int)+1)=((m+1:Nat):Int):=by rw[aJ _ jO];omega
           have HM:=aT (And.intro tQ mW);clear h7 hH6 jH Y;by_cases hlr:(m:Int)-(a:Int)<(b:Int)-(m:Int)
           ·go_upto_region 26 with fail;have T:=IH' w2 a m z2 d7 hH7 hd7 tQ jO jO;have U:=aT T;clear T;go_wp2_with fail;refine U.mono ?_;rintro e w3 ⟨v,d8,rfl,rfl,h8⟩;have H8:=aT (H7.trans h8);clear h8 U;go_wp2_with fail;go_roundg (b-a);case measure=>omega
            case rel=>exact⟨m+1,b,z2,_,ap,d8,jO,A,jO,jO,by go_num,rfl,rfl,rfl,rfl,H8⟩
           ·go_upto_region 29 with fail;have T:=IH' w2 (m+1) b z2 d7 hH7 hd7 jO A jO;have U:=aT T;clear T;go_wp2_with fail;refine U.mono ?_;rintro e w3 ⟨v,d8,rfl,rfl,h8⟩;have H8:=aT (H7.trans h8);clear h8 U;go_wp2_with fail;go_roundg (b-a);case measure=>omega
            case rel=>exact⟨a,m,z2,_,ap,d8,tQ,jO,jO,jO,rfl,rfl,rfl,rfl,rfl,H8⟩
end Go.Proofs.YtclgigmgbebhgaaGreatDoor
