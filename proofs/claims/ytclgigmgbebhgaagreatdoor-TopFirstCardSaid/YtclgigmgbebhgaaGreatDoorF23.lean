/- TopFirst: part 23: TopPdq. -/
import Derived.Test.YtclgigmgbebhgaaGreatDoorF20
import Derived.Test.YtclgigmgbebhgaaGreatDoorF21
import Derived.Test.YtclgigmgbebhgaaGreatDoorF22
set_option linter.unusedVariables false
set_option linter.unusedSimpArgs false
set_option maxRecDepth 100000
set_option maxHeartbeats 16000000
namespace Go.Proofs.YtclgigmgbebhgaaGreatDoor
open Tryz
open Go Go.Proofs Go.RowKit
theorem pZ{g n cap:Nat}(hn:n<=1000000)(h0n:0<n):∀(N:Nat) (w:World) (a b:Nat) (lim:Int) (d:Array Nat),Sort.Holds ZK w g 0 d->d.size=n->a<=b->b<=n->b-a<N->Calls prog 177 #[.slice (some ⟨g,0,none⟩) n cap,.int .i64 a,.int .i64 b,.int .i64 lim] w (mQ w g n d (λv=>v=.tuple #[])):=by
 intro N
 induction N with
 |zero=>intro w a b lim d hH hd hab hb hN;omega
 |succ N IH=>
  intro w a0 b0 lim d hH hd hab hb hN;have IH':=aT IH;have UB:=aT (XV.start hH hd h0n);clear hH hd IH;go_enter func177,ntmps177;go_upto_region 2 with fail;go_loopg [1,2,3,8,9] (b0-a0+1) (λgg va vb vl v8 v9 wr=>∃(a b:Nat) (z:Int) (x y:Bool) (dk:Array Nat),a<=b/\b<=n/\b-a<gg/\b-a<=b0-a0/\va=.int .i64 (a:Int)/\vb=.int .i64 (b:Int)/\vl=.int .i64 z/\v8=.bool x/\v9=.bool y/\Hid (XV w g n d wr dk));case atStart=>exact⟨a0,b0,lim,true,true,d,hab,hb,jO,jO,rfl,rfl,rfl,rfl,rfl,UB⟩
  case round=>
   obtain⟨a,b,z,x,y,dk,ay6,C,Vs,hle,rfl,rfl,rfl,rfl,rfl,HK⟩:=hrel;have hH:=aT HK.2.2.2.2;have hd:=HK.2.2.1;have iwl:IntKind.i64.wrap ((b:Int)-(a:Int))=(b:Int)-(a:Int):=aJ _ jO;by_cases hs:b-a<=12
   ·have h12:(b:Int)-(a:Int)<=12:=by omega
    go_wp2_with fail;refine(qg hH hd ay6 C hn).mono ?_;intro e w1 h1;obtain⟨v,d1,rfl,rfl,T⟩:=aX hH hd h0n h1;have H2:=aT (HK.trans T);clear h1 T;go_wp2_with fail;go_end0;exact⟨_,d1,rfl,rfl,H2⟩
   ·have h12:¬(b:Int)-(a:Int)<=12:=by omega
    have I:12<b-a:=jO;clear hs;go_upto_region 5 with fail;by_cases hz:z=0
    ·subst hz;go_wp2_with fail;refine(vu hH hd jO C hn).mono ?_;rintro e w1 ⟨v,d1,rfl,rfl,T⟩;have H2:=aT (HK.trans T);clear T;go_wp2_with fail;go_end0;exact⟨_,d1,rfl,rfl,H2⟩
    ·have hz':(z == 0)=false:=by rw[af];exact hz
     go_upto_if 35 with fail
     go_cut [3] from 19 to 133 (λs3 wx=>∃(z2:Int) (d2:Array Nat),s3=.int .i64 z2/\Hid (XV w g n d wx d2))
     case first=>
      cases x with
      |true=>
       go_wp2_with fail;go_meet;exact⟨z,dk,rfl,HK⟩
      |false=>
       go_wp2_with fail;refine(AK hH hd I C hn).mono ?_;rintro e w1 ⟨v,d1,rfl,rfl,T⟩;have H2:=aT (HK.trans T);clear T;go_wp2_with fail;go_meet;exact⟨_,d1,rfl,H2⟩
     case rest=>
      obtain⟨z2,d2,rfl,kI⟩:=hcut;have hH2:=aT kI.2.2.2.2;have hd2:=kI.2.2.1;clear hH hd HK hz hz';go_wp2_with fail;refine(p9 hH2 hd2 I C hn).mono ?_;rintro e w1 ⟨v,d3,rfl,⟨p,hh,rfl,mS,tI⟩,T⟩;have HK3:=aT (kI.trans T);have hH3:=aT HK3.2.2.2.2;have mO:=HK3.2.2.1;clear T hH2 hd2 kI;go_upto_if 50 with fail
      go_cut [11,12] from 19 to 133 (λs11 s12 wx=>∃(p h:Int) (q:Nat) (d2:Array Nat),s11=.int .i64 p/\s12=.int .i64 h/\p=(q:Int)/\a<=q/\q<b/\Hid (XV w g n d wx d2))
      case first=>
       by_cases T:hh=2;·subst T;go_wp2_with fail;refine(qf hH3 mO jO C hn).mono ?_;rintro e w2 ⟨v,d4,rfl,rfl,h4⟩;have H4:=aT (HK3.trans h4);clear h4;have i1:IntKind.i64.wrap ((b:Int)-1)=(b:Int)-1:=aJ _ jO;have i2:IntKind.i64.wrap ((p:Int)-(a:Int))=(p:Int)-(a:Int):=aJ _ jO;have i3:IntKind.i64.wrap ((b:Int)-1-((p:Int)-(a:Int)))=(b:Int)-1-((p:Int)-(a:Int)):=aJ _ jO;go_wp2_with fail;go_meet;exact⟨_,_,b-1-(p-a),d4,rfl,rfl,jO,jO,jO,H4⟩
       ·have h2':(hh == 2)=false:=by rw[af];exact T
        go_wp2_with fail;go_meet;exact⟨_,_,p,d3,rfl,rfl,rfl,mS,tI,HK3⟩
      case rest=>
       obtain⟨_,h,q,d4,rfl,rfl,rfl,hq1,hq2,D⟩:=hcut;clear hH3 mO HK3 mS tI;go_upto_region 15 with fail;go_cut [68] from 19 to 133 (λs68 wx=>∃r:Bool,s68=.bool r/\Hid (XV w g n d wx d4))
       case first=>
        by_cases h1:h=1
        ·subst h1;cases x with
         |true=>
          cases y with
          |true=>
           go_wp2_with fail;go_meet;exact⟨_,rfl,D⟩
          |false=>
           go_wp2_with fail;go_meet;exact⟨_,rfl,D⟩
         |false=>
          cases y with
          |true=>
           go_wp2_with fail;go_meet;exact⟨_,rfl,D⟩
          |false=>
           go_wp2_with fail;go_meet;exact⟨_,rfl,D⟩
        ·have h1':(h == 1)=false:=by rw[af];exact h1
         cases x with
         |true=>
          cases y with
          |true=>
           go_wp2_with fail;go_meet;exact⟨_,rfl,D⟩
          |false=>
           go_wp2_with fail;go_meet;exact⟨_,rfl,D⟩
         |false=>
          cases y with
          |true=>
           go_wp2_with fail;go_meet;exact⟨_,rfl,D⟩
          |false=>
           go_wp2_with fail;go_meet;exact⟨_,rfl,D⟩
       case rest=>
        obtain⟨r,rfl,J⟩:=hcut;clear D;go_upto_if 68 with fail
        go_cut [11] from 19 to 133 (λs11 wx=>∃d5:Array Nat,s11=.int .i64 (q:Int)/\Hid (XV w g n d wx d5))
        case first=>
         cases r with
         |false=>
          go_wp2_with fail;go_meet;exact⟨d4,rfl,J⟩
         |true=>
          go_wp2_with fail;refine(F5 J.2.2.2.2 J.2.2.1 I C hn).mono ?_;rintro e w2 ⟨v,d5,rfl,⟨rr,rfl⟩,h5⟩;have H5:=aT (J.trans h5);clear h5;cases rr with
          |true=>
           go_wp2_with fail;go_end0;exact⟨_,d5,rfl,rfl,H5⟩
          |false=>
           go_wp2_with fail;go_meet;exact⟨d5,rfl,H5⟩
        case rest=>
         obtain⟨d5,rfl,aV⟩:=hcut;clear J;obtain⟨G,hG,hc⟩:=aV.cells;clear hG;have q0:=jZ q;have q1:(q:Int)<(n:Int):=jO;have k1:=(hc q jO).1;go_upto_region 17 with fail;go_cut [87] from 19 to 133 (λs87 wx=>∃r:Bool,s87=.bool r/\Hid (XV w g n d wx d5))
         case first=>
          by_cases ha:0<a
          ·obtain⟨e,he⟩:∃e,a=e+1:=⟨a-1,jO⟩;have AL:decide ((0:Int)<(a:Int))=true:=by simp;omega
           have Jk:(0:Int)<(a:Int):=jO;have iwp:IntKind.i64.wrap ((a:Int)-1)=(e:Int):=by rw[aJ _ jO];omega
           have k0:=(hc e jO).1;have e0:=jZ e;have e1:(e:Int)<(n:Int):=jO;clear he hc;go_quiet (first|(go_at_call 253;refine Calls.quiet_of_same (Ys _ _ _)));go_wp2_with fail;go_meet;exact⟨_,rfl,aT (aV.drew _)⟩
          ·have AL:decide ((0:Int)<(a:Int))=false:=by simp;omega
           clear hc;go_quiet (fail);go_wp2_with fail;go_meet;exact⟨_,rfl,aT (aV.drew _)⟩
         case rest=>
          obtain⟨r,rfl,Z⟩:=hcut;clear aV hc k1;have aU:=aT Z.2.2.2.2;have j7:=Z.2.2.1;cases r with
          |true=>
           go_wp2_with fail;refine(Dk aU j7 I ⟨hq1,hq2⟩ C hn).mono ?_;rintro e w2 ⟨v,d7,rfl,⟨m,rfl,tJ,ni⟩,h7⟩;have H7:=aT (Z.trans h7);clear h7;go_wp2_with fail;go_roundg (b-a);case measure=>omega
           case rel=>exact⟨m,b,z2,x,y,d7,ni,C,jO,jO,rfl,rfl,rfl,rfl,rfl,H7⟩
          |false=>
           go_wp2_with fail;refine(vw aU j7 I ⟨hq1,hq2⟩ C hn).mono ?_;rintro e w2 ⟨v,d7,rfl,⟨m,ap,rfl,tJ,ni⟩,h7⟩;have H7:=aT (Z.trans h7);have hH7:=aT H7.2.2.2.2;have hd7:=H7.2.2.1;have i1:IntKind.i64.wrap ((m:Int)-(a:Int))=(m:Int)-(a:Int):=aJ _ jO;have i2:IntKind.i64.wrap ((b:Int)-(m:Int))=(b:Int)-(m:Int):=aJ _ jO;have i3:IntKind.i64.wrap ((m:Int)+1)=((m+1:Nat):Int):=by rw[aJ _ jO];omega
           have HM:=aT (And.intro tJ ni);clear h7 aU j7 Z;by_cases hlr:(m:Int)-(a:Int)<(b:Int)-(m:Int)
           ·go_upto_region 26 with fail;have Y:=IH' w2 a m z2 d7 hH7 hd7 tJ jO jO;have U:=aT Y;clear Y;go_wp2_with fail;refine U.mono ?_;rintro e w3 ⟨v,d8,rfl,rfl,h8⟩;have H8:=aT (H7.trans h8);clear h8 U;go_wp2_with fail;go_roundg (b-a);case measure=>omega
            case rel=>exact⟨m+1,b,z2,_,ap,d8,jO,C,jO,jO,by go_num,rfl,rfl,rfl,rfl,H8⟩
           ·go_upto_region 29 with fail;have Y:=IH' w2 (m+1) b z2 d7 hH7 hd7 jO C jO;have U:=aT Y;clear Y;go_wp2_with fail;refine U.mono ?_;rintro e w3 ⟨v,d8,rfl,rfl,h8⟩;have H8:=aT (H7.trans h8);clear h8 U;go_wp2_with fail;go_roundg (b-a);case measure=>omega
            case rel=>exact⟨a,m,z2,_,ap,d8,tJ,jO,jO,jO,rfl,rfl,rfl,rfl,rfl,H8⟩
end Go.Proofs.YtclgigmgbebhgaaGreatDoor
