/- TopOther: part 19: TopInsU TopPdqH TopRevU TopPartEqU. -/
import Derived.Sort.Row
import Derived.Test.YtclgigmgbebhgaaGreatDoorO09
set_option linter.unusedVariables false
set_option linter.unusedSimpArgs false
set_option maxRecDepth 100000
set_option maxHeartbeats 16000000
namespace Go.Proofs.YtclgigmgbebhgaaGreatDoor
open Tryz
open Go Go.Proofs Go.RowKit
variable {g cap a:Nat} {w:World}
def ZK(x:Nat):Value:=.int .u32 (x:Int)
theorem Dq(d:Array Nat)(i j:Nat)(hi:i<d.size)(A:j<d.size):(Sort.swp d i j).toList.Perm d.toList:=IM (Sort.swp_permIn d 0 d.size i j (abc _) hi (abc _) A (aR _))
def SoU(w:World)(g n:Nat)(d:Array Nat):Ending->World->Prop:=λe w'=>e=.returned (.tuple #[])/\∃(k:Nat) (d':Array Nat),w'=Sort.putRow ZK (Sort.ahead w k) g 0 d'/\d'.size=n/\d'.toList.Perm d.toList
theorem aa4(x:Nat)(w:World):Calls prog 98 #[.int .u32 x] w λe w'=>e=.returned (.bool false)/\w'=w:=by
 go_enter func98,ntmps98;go_wp2_with fail;go_ret;exact⟨jS,rfl⟩
theorem Yz(x y:Nat)(w:World):Calls prog 253 #[.int .u32 x,.int .u32 y] w λe w'=>e=.returned (.bool (decide ((x:Int)<(y:Int))))/\w'=w:=by
 go_enter func253,ntmps253;go_wp2_with fail;refine(aa4 _ _).mono ?_;rintro e A ⟨rfl,rfl⟩;go_wp2_with fail;go_ret;exact⟨by by_cases h:(x:Int)<(y:Int)<;>simp[h]<;>omega,rfl⟩
theorem Tl(w:World)(m q g:Nat)(d:Array Nat):(Sort.putRow ZK (Sort.ahead w m) g 0 d).drewN q=Sort.putRow ZK (Sort.ahead w (m+q)) g 0 d:=by
 show Sort.ahead (Sort.putRow ZK (Sort.ahead w m) g 0 d) q=_;rw[Sort.putRow_ahead ZK w m,Sort.ahead_ahead,<-Sort.putRow_ahead]
theorem vF {n:Nat}{d dj:Array Nat}(A:Sort.Holds ZK w g 0 d)(hd:d.size=n)(C:dj.size=n)(m:Nat):∃G:Nat->Nat,(∀t,G t=dj[t]!)/\∀t,t<n->(Sort.putRow ZK (Sort.ahead w m) g 0 dj).cell? ⟨g,t,none⟩=some (.int .u32 (G t:Int))/\(Sort.putRow ZK (Sort.ahead w m) g 0 dj).frozen? ⟨g,t,none⟩=false:=by
 refine⟨λt=>dj[t]!,λ_=>rfl,λt ht=> ?_⟩;have h:=Sort.holds_putRow ZK (Sort.ahead w m) g 0 d dj (Sort.holds_ahead ZK w m g 0 d A) jO t jO;rw[aca] at h;exact h
theorem qz {n b:Nat}{d:Array Nat}(hH:Sort.Holds ZK w g 0 d)(hd:d.size=n)(hab:a<=b)(hb:b<=n)(hn:n<=1000000):Calls prog 247 #[.slice (some ⟨g,0,none⟩) n cap,.int .i64 a,.int .i64 b] w (SoU w g n d):=by
 have HH:=aT hH;have HD:=aT hd;have iw0:=jW a;clear hH hd;go_enter func247,ntmps247;go_upto_region 1 with fail;go_loopg [6] (b+2) (λgg vi wr=>∃(i m:Nat) (J:Array Nat),a<i/\i<=b+1/\b+1-i<gg/\vi=.int .i64 (i:Int)/\wr=Sort.putRow ZK (Sort.ahead w m) g 0 J/\Hid (J.size=n/\J.toList.Perm d.toList));case atStart=>exact⟨a+1,0,d,jO,jO,jO,by go_num,(Sort.putRow_self _ _ _ _ _ HH).symm,HD,axb _⟩
 case round=>
  obtain⟨i,m,J,hai,hib,VP,rfl,rfl,HK⟩:=hrel;have iw:=jW i;by_cases hlt:i<b
  ·have Y:(i:Int)<(b:Int):=by omega
   obtain⟨w9,U⟩:=jX (Sort.putRow ZK (Sort.ahead w m) g 0 J);rw[U];have HW9:=aT U;clear U;go_upto_region 4 with fail;go_loopg [7] (i+1) (λgg vj wr=>∃(j q:Nat) (A:Array Nat),a<=j/\j<=i/\j<gg/\vj=.int .i64 (j:Int)/\Hid (wr=Sort.putRow ZK (Sort.ahead w q) g 0 A)/\Hid (A.size=n/\A.toList.Perm d.toList));case atStart=>exact⟨i,m,J,jO,aR _,jO,rfl,HW9.symm,HK⟩
   case round=>
    obtain⟨j,q,A,haj,hji,hgj,rfl,HW,D⟩:=hrel;obtain⟨G,hG,hc⟩:=vF HH HD D.1 q;have C:∀t,t<n->wr.cell? ⟨g,t,none⟩=some (.int .u32 (G t:Int))/\wr.frozen? ⟨g,t,none⟩=false:=λt ht=>by rw[HW.out];exact hc t ht
    have HG:=aT hG;have I:Hid (∀z,∃m',wr.drewN z=Sort.putRow ZK (Sort.ahead w m') g 0 A):=λz=>⟨q+z,by rw[HW.out];exact Tl _ _ _ _ _⟩
    clear hG hc;by_cases hja:a<j
    ·obtain⟨p,hp⟩:∃p,j=p+1:=⟨j-1,jO⟩;have k1:=(C j jO).1;have k0:=(C p jO).1;have f1:=(C j jO).2;have f0:=(C p jO).2;have hjz:decide ((a:Int)<(j:Int))=true:=by simp;omega
     have aI7:(a:Int)<(j:Int):=jO;have iwp:IntKind.i64.wrap ((j:Int)-1)=(p:Int):=by rw[aJ _ jO];omega
     have b1:=jZ j;have b2:(j:Int)<(n:Int):=jO;have b3:=jZ p;have b4:(p:Int)<(n:Int):=jO;have HSW:=aT (Dq A j p (by rw[D.out.1];omega) (by rw[D.out.1];omega));have HP:=aT hp;have hpj:p≠j:=jO;have ax6:a<=p:=jO;have Z:p<=i:=jO;clear hp;go_upto_region 4 with fail;go_quiet (first|(go_at_call 253;refine Calls.quiet_of_same (Yz _ _ _)));by_cases hl:(G j:Int)<(G p:Int)
     ·go_upto_region 6 with fail;go_region;go_wp2_with fail;go_roundg j;case measure=>omega
      case rel=>
       refine⟨p,q+(nq+1),Sort.swp A j p,ax6,Z,by have:=HP.out;omega,rfl,?_,?_⟩;·have h:=Sort.putRow_swp ZK (Sort.ahead w (q+(nq+1))) g 0 A j p (by rw[D.out.1];omega) (by rw[D.out.1];omega);rw[aca,aca] at h;show _=_;rw[<-h,HW.out,Tl];simp only[HG.out];rfl
       ·exact⟨by rw[Sort.size_swp];exact D.1,HSW.trans D.2⟩
     ·go_wp2_with fail;go_roundg (b+1-i);case measure=>omega
      case rel=>
       obtain⟨m',T⟩:=I nq;exact⟨i+1,m',A,jO,jO,jO,by go_num,T,D⟩
    ·have hjz:decide ((a:Int)<(j:Int))=false:=by simp;omega
     go_upto_region 4 with fail;go_quiet (fail);go_wp2_with fail;go_roundg (b+1-i);case measure=>omega
     case rel=>
      obtain⟨m',T⟩:=I nq;exact⟨i+1,m',A,jO,jO,jO,by go_num,T,D⟩
  ·have Y:¬(i:Int)<(b:Int):=by omega
   go_wp2_with fail;go_end0;exact⟨rfl,m,J,rfl,HK.1,HK.2⟩
def X0(w:World)(g n:Nat)(d:Array Nat)(W:World)(d':Array Nat):Prop:=(g<w.heap.size/\∃k os,W=Sort.grow (Sort.putRow ZK (Sort.ahead w k) g 0 d') os)/\d.size=n/\d'.size=n/\d'.toList.Perm d.toList/\Sort.Holds ZK W g 0 d'
section
variable {w W W':World} {g n:Nat} {d d' d'':Array Nat}
theorem Hz(w:World):Sort.grow w #[]=w:=by simp[Sort.grow]
theorem size_putRow(m:Nat):(Sort.putRow ZK (Sort.ahead w m) g 0 d).heap.size=w.heap.size:=aua
theorem Dp(A:Sort.Holds ZK w g 0 d)(hd:d.size=n)(C:0<n):g<w.heap.size:=afe _ _ (A 0 jO).1
theorem X0.start(A:Sort.Holds ZK w g 0 d)(hd:d.size=n)(C:0<n):X0 w g n d w d:=⟨⟨Dp A hd C,0,#[],by rw[Hz];exact(Sort.putRow_self _ _ _ _ _ A).symm⟩,hd,hd,axb _,A⟩
theorem X0.mk'(A:Sort.Holds ZK w g 0 d)(hd:d.size=n)(C:0<n)(k:Nat)(hs:d'.size=n)(hp:d'.toList.Perm d.toList):X0 w g n d (Sort.putRow ZK (Sort.ahead w k) g 0 d') d':=⟨⟨Dp A hd C,k,#[],by rw[Hz]⟩,hd,hs,hp,Sort.holds_putRow ZK (Sort.ahead w k) g 0 d d' (Sort.holds_ahead ZK w k g 0 d A) jO⟩
theorem X0.trans(h:X0 w g n d W d')(U:X0 W g n d' W' d''):X0 w g n d W' d'':=by
 obtain⟨⟨J,k,os,rfl⟩,T,hs,hp,Y⟩:=h;obtain⟨⟨_,m,A,rfl⟩,_,I,C,D⟩:=U;refine⟨⟨J,k+m,os++A,?_⟩,T,I,C.trans hp,D⟩;exact Sort.grow_step_grow ZK w os A k m g 0 d' d'' J jO
theorem X0.drew(h:X0 w g n d W d')(z:Nat):X0 w g n d (W.drewN z) d':=by
 obtain⟨⟨C,k,os,rfl⟩,A,hs,hp,D⟩:=h;refine⟨⟨C,k+z,os,?_⟩,A,hs,hp,D⟩;rw[<-Tl];rfl
theorem X0.grow(h:X0 w g n d W d')(o:Obj):X0 w g n d (W.alloc o) d':=by
 obtain⟨⟨C,k,os,rfl⟩,A,hs,hp,D⟩:=h;refine⟨⟨C,k,os++#[o],?_⟩,A,hs,hp,?_⟩;·rw[Sort.alloc_eq_grow,Sort.grow_grow]
 ·rw[Sort.alloc_eq_grow];refine Sort.holds_grow ZK _ _ g 0 d' ?_ D;show g<((Sort.putRow ZK (Sort.ahead w k) g 0 d').heap++os).size;rw[Array.size_append,size_putRow];omega
theorem X0.swap(h:X0 w g n d W d'){i j:Nat}(hi:i<n)(I:j<n):X0 w g n d ((W.setCell ⟨g,i,none⟩ (ZK d'[j]!)).setCell ⟨g,j,none⟩ (ZK d'[i]!)) (Sort.swp d' i j):=by
 obtain⟨⟨A,k,os,rfl⟩,C,hs,hp,D⟩:=h;have e:=Sort.putRow_swp ZK (Sort.ahead w k) g 0 d' i j jO jO;rw[aca,aca] at e;have hz:=Sort.holds_putRow ZK (Sort.grow (Sort.putRow ZK (Sort.ahead w k) g 0 d') os) g 0 d' (Sort.swp d' i j) D (Sort.size_swp _ _ _);have e3:=Sort.putRow_grow ZK (Sort.putRow ZK (Sort.ahead w k) g 0 d') os g 0 (Sort.swp d' i j) (by rw[size_putRow];exact A);rw[e3,Sort.putRow_putRow ZK _ g 0 d' _ (Sort.size_swp _ _ _)] at hz;have e2:((Sort.grow (Sort.putRow ZK (Sort.ahead w k) g 0 d') os).setCell ⟨g,i,none⟩ (ZK d'[j]!)).setCell ⟨g,j,none⟩ (ZK d'[i]!)=Sort.grow (Sort.putRow ZK (Sort.ahead w k) g 0 (Sort.swp d' i j)) os:=by rw[<-e,Sort.setCell_eq,Sort.setCell_eq,Sort.setCell_eq,Sort.setCell_eq,Sort.mapBlock_grow _ _ _ _ (by rw[size_putRow];exact A),Sort.mapBlock_grow];exact(show _<(Array.modify _ _ _).size by rw[aua,size_putRow];exact A)
 rw[e2];exact⟨⟨A,k,os,rfl⟩,C,by rw[Sort.size_swp];exact hs,(Dq d' i j jO jO).trans hp,hz⟩
theorem X0.cells(h:X0 w g n d W d'):∃G:Nat->Nat,(∀t,G t=d'[t]!)/\∀t,t<n->W.cell? ⟨g,t,none⟩=some (.int .u32 (G t:Int))/\W.frozen? ⟨g,t,none⟩=false:=
 ⟨λt=>d'[t]!,λ_=>rfl,λt ht=>by have:=h.2.2.2.2 t (by have:=h.2.2.1;omega);rw[aca] at this;exact this⟩
end
def mG(w:World)(g n:Nat)(d:Array Nat)(F:Value->Prop):Ending->World->Prop:=λe w'=>∃v d',e=.returned v/\F v/\X0 w g n d w' d'
theorem aa5{w':World}{n:Nat}{d:Array Nat}{e:Ending}(C:Sort.Holds ZK w g 0 d)(hd:d.size=n)(A:0<n)(h:SoU w g n d e w'):mG w g n d (λv=>v=.tuple #[]) e w':=by
 obtain⟨rfl,k,d',rfl,hs,hp⟩:=h;exact⟨_,d',rfl,rfl,X0.mk' C hd A k hs hp⟩
theorem qy {n b:Nat}{d:Array Nat}(hH:Sort.Holds ZK w g 0 d)(hd:d.size=n)(hab:a<b)(hb:b<=n)(hn:n<=1000000):Calls prog 251 #[.slice (some ⟨g,0,none⟩) n cap,.int .i64 a,.int .i64 b] w (mG w g n d (λv=>v=.tuple #[])):=by
 have T:=aT (X0.start hH hd jO);obtain⟨c,hc⟩:∃c,b=c+1:=⟨b-1,jO⟩;have iwb:IntKind.i64.wrap ((b:Int)-1)=(c:Int):=by rw[aJ _ jO];omega
 clear hH hd;go_enter func251,ntmps251;go_upto_region 2 with fail;go_loopg [6,7] (c+1) (λgg vi vj wr=>∃(i j:Nat) (J:Array Nat),j<gg/\j<=c/\vi=.int .i64 (i:Int)/\vj=.int .i64 (j:Int)/\Hid (X0 w g n d wr J));case atStart=>exact⟨a,c,d,jO,jO,rfl,rfl,T⟩
 case round=>
  obtain⟨i,j,J,VP,hjc,rfl,rfl,HK⟩:=hrel;by_cases hlt:i<j
  ·have C:(i:Int)<(j:Int):=by omega
   obtain⟨G,hG,A⟩:=HK.cells;have HG:=aT hG;have k1:=(A i jO).1;have k0:=(A j jO).1;have f1:=(A i jO).2;have f0:=(A j jO).2;have b1:=jZ i;have b2:(i:Int)<(n:Int):=jO;have b3:=jZ j;have b4:(j:Int)<(n:Int):=jO;have bU:i≠j:=jO;obtain⟨e,he⟩:∃e,j=e+1:=⟨j-1,jO⟩;have Jz:IntKind.i64.wrap ((i:Int)+1)=((i+1:Nat):Int):=by rw[aJ _ jO];omega
   have mF:IntKind.i64.wrap ((j:Int)-1)=(e:Int):=by rw[aJ _ jO];omega
   have D:e<j:=jO;have I:e<=c:=jO;have U:i<n:=jO;have Z:j<n:=jO;have Y:=aT ((HK.drew 1).swap U Z);clear hG A he hc;go_upto_region 3 with fail;go_region;go_wp2_with fail;go_roundg j;case measure=>omega
   case rel=>
    refine⟨i+1,e,Sort.swp J i j,D,I,by go_num,rfl,?_⟩;have h:=Y.out;unfold ZK at h;rw[<-HG.out,<-HG.out] at h;exact h
  ·have C:¬(i:Int)<(j:Int):=by omega
   go_wp2_with fail;go_end0;exact⟨_,J,rfl,rfl,HK⟩
theorem Dn {n b p:Nat}{d:Array Nat}(hH:Sort.Holds ZK w g 0 d)(hd:d.size=n)(hab:12<b-a)(hp:a<=p/\p<b)(hb:b<=n)(hn:n<=1000000):Calls prog 254 #[.slice (some ⟨g,0,none⟩) n cap,.int .i64 a,.int .i64 b,.int .i64 p] w (mG w g n d (λv=>∃m:Nat,v=.int .i64 (m:Int)/\a<m/\m<=b)):=by
 have U:=aT (X0.start hH hd jO);obtain⟨j0,mV⟩:∃c,b=c+1:=⟨b-1,jO⟩;have iwb:IntKind.i64.wrap ((b:Int)-1)=(j0:Int):=by rw[aJ _ jO];omega
 obtain⟨i0,sW⟩:∃c,c=a+1:=⟨a+1,rfl⟩;have iwa:IntKind.i64.wrap ((a:Int)+1)=(i0:Int):=by rw[aJ _ jO];omega
 obtain⟨mI,tP⟩:=hp;have hj1:j0<b:=jO;have cO:b<=j0+1:=jO;have ax7:a<i0:=jO;have ax8:i0<=a+1:=jO;clear hH hd mV sW;go_enter func254,ntmps254;go_upto_region 1 with fail;go_cut [8] from 11 to 24 (λs wx=>s=.int .i64 0/\∃d2:Array Nat,Hid (X0 w g n d wx d2))
 case first=>
  by_cases Y:a=p;·subst Y;obtain⟨G,D,A⟩:=U.cells;have HG:=aT D;have k1:=(A a jO).1;have k0:=(A a jO).1;have f1:=(A a jO).2;have f0:=(A a jO).2;have T:a<n:=jO;have J:a<n:=jO;have b1:=jZ a;have b2:(a:Int)<(n:Int):=jO;have b3:=jZ a;have b4:(a:Int)<(n:Int):=jO;have I:=aT ((U.drew 1).swap T J);clear D A;go_region;go_wp2_with fail;go_meet;refine⟨rfl,Sort.swp d a a,?_⟩;have h:=I.out;unfold ZK at h;simp only[<-HG.out] at h;exact h
  ·skip
   obtain⟨G,D,A⟩:=U.cells;have HG:=aT D;have k1:=(A a jO).1;have k0:=(A p jO).1;have f1:=(A a jO).2;have f0:=(A p jO).2;have T:a<n:=jO;have J:p<n:=jO;have b1:=jZ a;have b2:(a:Int)<(n:Int):=jO;have b3:=jZ p;have b4:(p:Int)<(n:Int):=jO;have I:=aT ((U.drew 1).swap T J);clear D A;go_region;go_wp2_with fail;go_meet;refine⟨rfl,Sort.swp d a p,?_⟩;have h:=I.out;unfold ZK at h;simp only[<-HG.out] at h;exact h
 case rest=>
  obtain⟨rfl,dS,S⟩:=hcut;clear U;go_upto_region 3 with fail;go_loopg [9,10] (j0+1) (λgg vi vj wr=>∃(i j:Nat) (dk:Array Nat),a+1<=i/\i<=b/\a<=j/\j<b/\j<gg/\vi=.int .i64 (i:Int)/\vj=.int .i64 (j:Int)/\Hid (X0 w g n d wr dk));case atStart=>exact⟨i0,j0,dS,jO,jO,jO,jO,jO,by first|rfl|go_num,by first|rfl|go_num,S⟩
  case round=>
   clear iwa iwb;obtain⟨yU,Z,dO,ax9,ay0,ay1,ay2,ay3,rfl,rfl,HO⟩:=hrel;go_upto_region 3 with fail;go_loopg [9] (b+1) (λgg v wr=>∃i:Nat,a+1<=i/\i<=b/\b-i<gg/\v=.int .i64 (i:Int)/\Hid (X0 w g n d wr dO));case atStart=>exact⟨yU,jO,jO,jO,by first|rfl|go_num,HO⟩
   case round=>
    obtain⟨i,sX,hi2,VP,rfl,HI⟩:=hrel;go_upto_region 3 with fail;go_cut [43] from 29 to 43 (λs wx=>∃r:Bool,s=.bool r/\(r=true->i<=Z)/\Hid (X0 w g n d wx dO))
    case first=>
     by_cases hg:i<=Z
     ·have AJ:decide ((i:Int)<=(Z:Int))=true:=by simp;omega
      have Jy:(i:Int)<=(Z:Int):=jO;obtain⟨G,D,A⟩:=HI.cells;clear D;have k0:=(A i jO).1;have n0:=jZ i;have x0:(i:Int)<(n:Int):=jO;have k1:=(A a jO).1;have n1:=jZ a;have x1:(a:Int)<(n:Int):=jO;clear A;go_quiet (first|(go_at_call 253;refine Calls.quiet_of_same (Yz _ _ _)));go_wp2_with fail;go_meet;exact⟨_,rfl,λ_=>hg,aT (HI.drew _)⟩
     ·have AJ:decide ((i:Int)<=(Z:Int))=false:=by simp;omega
      have Jy:¬(i:Int)<=(Z:Int):=jO;go_quiet (fail);go_wp2_with fail;go_meet;exact⟨_,rfl,(λh=>absurd h jD),aT (HI.drew _)⟩
    case rest=>
     obtain⟨r,rfl,hr,fh⟩:=hcut;clear HI;cases r with
     |true=>
      have Jz:IntKind.i64.wrap ((i:Int)+1)=((i+1:Nat):Int):=by rw[aJ _ jO];omega
      have Y:=hr rfl;go_wp2_with fail;go_roundg (b-i);case measure=>omega
      case rel=>exact⟨i+1,jO,jO,jO,by go_num,fh⟩
     |false=>
      clear hr;go_upto_region 5 with fail;go_loopg [10] (Z+1) (λgg v wr=>∃j:Nat,a<=j/\j<=Z/\j<gg/\v=.int .i64 (j:Int)/\Hid (X0 w g n d wr dO));case atStart=>exact⟨Z,jO,jO,jO,rfl,fh⟩
      case round=>
       obtain⟨j,hj1,cO,jI,rfl,HJ⟩:=hrel;go_upto_region 5 with fail;go_cut [59] from 46 to 59 (λs wx=>∃r:Bool,s=.bool r/\(r=true->i<=j)/\Hid (X0 w g n d wx dO))
       case first=>
        by_cases hg:i<=j
        ·have AJ:decide ((i:Int)<=(j:Int))=true:=by simp;omega
         have Jy:(i:Int)<=(j:Int):=jO;obtain⟨G,D,A⟩:=HJ.cells;clear D;have k0:=(A j jO).1;have n0:=jZ j;have x0:(j:Int)<(n:Int):=jO;have k1:=(A a jO).1;have n1:=jZ a;have x1:(a:Int)<(n:Int):=jO;clear A;go_quiet (first|(go_at_call 253;refine Calls.quiet_of_same (Yz _ _ _)));go_wp2_with fail;go_meet;exact⟨_,rfl,λ_=>hg,aT (HJ.drew _)⟩
        ·have AJ:decide ((i:Int)<=(j:Int))=false:=by simp;omega
         have Jy:¬(i:Int)<=(j:Int):=jO;go_quiet (fail);go_wp2_with fail;go_meet;exact⟨_,rfl,(λh=>absurd h jD),aT (HJ.drew _)⟩
       case rest=>
        obtain⟨r,rfl,hr,C⟩:=hcut;clear HJ;cases r with
        |true=>
         have Y:=hr rfl;obtain⟨e,he⟩:∃e,j=e+1:=⟨j-1,jO⟩;have he1:e<j:=jO;have fZ:j<=e+1:=jO;have mF:IntKind.i64.wrap ((j:Int)-1)=(e:Int):=by rw[aJ _ jO];omega
         clear he;go_wp2_with fail;go_roundg j;case measure=>omega
         case rel=>exact⟨e,jO,jO,jO,rfl,C⟩
        |false=>
         clear hr;by_cases hgt:(j:Int)<(i:Int);·go_wp2_with fail;go_ret;exact⟨_,_,rfl,⟨i,rfl,jO,hi2⟩,C⟩
         ·skip
          go_upto_region 8 with fail;go_cut [8] from 65 to 78 (λs wx=>s=.int .i64 0/\∃d2:Array Nat,Hid (X0 w g n d wx d2))
          case first=>
           by_cases Y:i=j;·subst Y;obtain⟨G,D,A⟩:=C.cells;have HG:=aT D;have k1:=(A i jO).1;have k0:=(A i jO).1;have f1:=(A i jO).2;have f0:=(A i jO).2;have T:i<n:=jO;have J:i<n:=jO;have b1:=jZ i;have b2:(i:Int)<(n:Int):=jO;have b3:=jZ i;have b4:(i:Int)<(n:Int):=jO;have I:=aT ((C.drew 1).swap T J);clear D A;go_region;go_wp2_with fail;go_meet;refine⟨rfl,Sort.swp dO i i,?_⟩;have h:=I.out;unfold ZK at h;simp only[<-HG.out] at h;exact h
           ·skip
            obtain⟨G,D,A⟩:=C.cells;have HG:=aT D;have k1:=(A i jO).1;have k0:=(A j jO).1;have f1:=(A i jO).2;have f0:=(A j jO).2;have T:i<n:=jO;have J:j<n:=jO;have b1:=jZ i;have b2:(i:Int)<(n:Int):=jO;have b3:=jZ j;have b4:(j:Int)<(n:Int):=jO;have I:=aT ((C.drew 1).swap T J);clear D A;go_region;go_wp2_with fail;go_meet;refine⟨rfl,Sort.swp dO i j,?_⟩;have h:=I.out;unfold ZK at h;simp only[<-HG.out] at h;exact h
          case rest=>
           obtain⟨rfl,dX,X⟩:=hcut;clear C;have Jz:IntKind.i64.wrap ((i:Int)+1)=((i+1:Nat):Int):=by rw[aJ _ jO];omega
           obtain⟨e,he⟩:∃e,j=e+1:=⟨j-1,jO⟩;have he1:e<j:=jO;have fZ:j<=e+1:=jO;have mF:IntKind.i64.wrap ((j:Int)-1)=(e:Int):=by rw[aJ _ jO];omega
           clear he;go_wp2_with fail;go_roundg Z;case measure=>omega
           case rel=>exact⟨i+1,e,dX,jO,jO,jO,jO,jO,by go_num,rfl,X⟩
end Go.Proofs.YtclgigmgbebhgaaGreatDoor
