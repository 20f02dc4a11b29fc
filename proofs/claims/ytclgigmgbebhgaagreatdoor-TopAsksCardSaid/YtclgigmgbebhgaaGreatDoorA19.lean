/- TopAsks: part 19: TopInsU TopPdqH TopRevU TopPartEqU. -/
import Derived.Sort.Row
import Derived.Test.YtclgigmgbebhgaaGreatDoorA09
set_option linter.unusedVariables false
set_option linter.unusedSimpArgs false
set_option maxRecDepth 100000
set_option maxHeartbeats 16000000
namespace Go.Proofs.YtclgigmgbebhgaaGreatDoor
open Tryz
open Go Go.Proofs Go.RowKit
variable {g cap a:Nat} {w:World}
def ZM(x:Nat):Value:=.int .u32 (x:Int)
theorem DU(d:Array Nat)(i j:Nat)(hi:i<d.size)(A:j<d.size):(Sort.swp d i j).toList.Perm d.toList:=Jd (Sort.swp_permIn d 0 d.size i j (abb _) hi (abb _) A (aP _))
def SoU(w:World)(g n:Nat)(d:Array Nat):Ending->World->Prop:=λe w'=>e=.returned (.tuple #[])/\∃(k:Nat) (d':Array Nat),w'=Sort.putRow ZM (Sort.ahead w k) g 0 d'/\d'.size=n/\d'.toList.Perm d.toList
theorem bI(x:Nat)(w:World):Calls prog 98 #[.int .u32 x] w λe w'=>e=.returned (.bool false)/\w'=w:=by
 go_enter func98,ntmps98;go_wp2_with fail;go_ret;exact⟨jS,rfl⟩
theorem Yx(x y:Nat)(w:World):Calls prog 253 #[.int .u32 x,.int .u32 y] w λe w'=>e=.returned (.bool (decide ((x:Int)<(y:Int))))/\w'=w:=by
 go_enter func253,ntmps253;go_wp2_with fail;refine(bI _ _).mono ?_;rintro e A ⟨rfl,rfl⟩;go_wp2_with fail;go_ret;exact⟨by by_cases h:(x:Int)<(y:Int)<;>simp[h]<;>omega,rfl⟩
theorem Tm(w:World)(m q g:Nat)(d:Array Nat):(Sort.putRow ZM (Sort.ahead w m) g 0 d).drewN q=Sort.putRow ZM (Sort.ahead w (m+q)) g 0 d:=by
 show Sort.ahead (Sort.putRow ZM (Sort.ahead w m) g 0 d) q=_;rw[Sort.putRow_ahead ZM w m,Sort.ahead_ahead,<-Sort.putRow_ahead]
theorem vU {n:Nat}{d dj:Array Nat}(A:Sort.Holds ZM w g 0 d)(hd:d.size=n)(C:dj.size=n)(m:Nat):∃G:Nat->Nat,(∀t,G t=dj[t]!)/\∀t,t<n->(Sort.putRow ZM (Sort.ahead w m) g 0 dj).cell? ⟨g,t,none⟩=some (.int .u32 (G t:Int))/\(Sort.putRow ZM (Sort.ahead w m) g 0 dj).frozen? ⟨g,t,none⟩=false:=by
 refine⟨λt=>dj[t]!,λ_=>rfl,λt ht=> ?_⟩;have h:=Sort.holds_putRow ZM (Sort.ahead w m) g 0 d dj (Sort.holds_ahead ZM w m g 0 d A) jO t jO;rw[adf] at h;exact h
theorem qR {n b:Nat}{d:Array Nat}(hH:Sort.Holds ZM w g 0 d)(hd:d.size=n)(hab:a<=b)(hb:b<=n)(hn:n<=1000000):Calls prog 247 #[.slice (some ⟨g,0,none⟩) n cap,.int .i64 a,.int .i64 b] w (SoU w g n d):=by
 have HH:=aT hH;have HD:=aT hd;have iw0:=jW a;clear hH hd;go_enter func247,ntmps247;go_upto_region 1 with fail;go_loopg [6] (b+2) (λgg vi wr=>∃(i m:Nat) (J:Array Nat),a<i/\i<=b+1/\b+1-i<gg/\vi=.int .i64 (i:Int)/\wr=Sort.putRow ZM (Sort.ahead w m) g 0 J/\Hid (J.size=n/\J.toList.Perm d.toList));case atStart=>exact⟨a+1,0,d,jO,jO,jO,by go_num,(Sort.putRow_self _ _ _ _ _ HH).symm,HD,awg _⟩
 case round=>
  obtain⟨i,m,J,hai,hib,VM,rfl,rfl,HK⟩:=hrel;have iw:=jW i;by_cases hlt:i<b
  ·have Y:(i:Int)<(b:Int):=by omega
   obtain⟨w9,U⟩:=jX (Sort.putRow ZM (Sort.ahead w m) g 0 J);rw[U];have HW9:=aT U;clear U;go_upto_region 4 with fail;go_loopg [7] (i+1) (λgg vj wr=>∃(j q:Nat) (A:Array Nat),a<=j/\j<=i/\j<gg/\vj=.int .i64 (j:Int)/\Hid (wr=Sort.putRow ZM (Sort.ahead w q) g 0 A)/\Hid (A.size=n/\A.toList.Perm d.toList));case atStart=>exact⟨i,m,J,jO,aP _,jO,rfl,HW9.symm,HK⟩
   case round=>
    obtain⟨j,q,A,haj,hji,hgj,rfl,HW,D⟩:=hrel;obtain⟨G,hG,hc⟩:=vU HH HD D.1 q;have C:∀t,t<n->wr.cell? ⟨g,t,none⟩=some (.int .u32 (G t:Int))/\wr.frozen? ⟨g,t,none⟩=false:=λt ht=>by rw[HW.out];exact hc t ht
    have HG:=aT hG;have I:Hid (∀z,∃m',wr.drewN z=Sort.putRow ZM (Sort.ahead w m') g 0 A):=λz=>⟨q+z,by rw[HW.out];exact Tm _ _ _ _ _⟩
    clear hG hc;by_cases hja:a<j
    ·obtain⟨p,hp⟩:∃p,j=p+1:=⟨j-1,jO⟩;have k1:=(C j jO).1;have k0:=(C p jO).1;have f1:=(C j jO).2;have f0:=(C p jO).2;have hjz:decide ((a:Int)<(j:Int))=true:=by simp;omega
     have aE1:(a:Int)<(j:Int):=jO;have iwp:IntKind.i64.wrap ((j:Int)-1)=(p:Int):=by rw[aJ _ jO];omega
     have b1:=jZ j;have b2:(j:Int)<(n:Int):=jO;have b3:=jZ p;have b4:(p:Int)<(n:Int):=jO;have HSW:=aT (DU A j p (by rw[D.out.1];omega) (by rw[D.out.1];omega));have HP:=aT hp;have hpj:p≠j:=jO;have at1:a<=p:=jO;have Z:p<=i:=jO;clear hp;go_upto_region 4 with fail;go_quiet (first|(go_at_call 253;refine Calls.quiet_of_same (Yx _ _ _)));by_cases hl:(G j:Int)<(G p:Int)
     ·go_upto_region 6 with fail;go_region;go_wp2_with fail;go_roundg j;case measure=>omega
      case rel=>
       refine⟨p,q+(nq+1),Sort.swp A j p,at1,Z,by have:=HP.out;omega,rfl,?_,?_⟩;·have h:=Sort.putRow_swp ZM (Sort.ahead w (q+(nq+1))) g 0 A j p (by rw[D.out.1];omega) (by rw[D.out.1];omega);rw[adf,adf] at h;show _=_;rw[<-h,HW.out,Tm];simp only[HG.out];rfl
       ·exact⟨by rw[Sort.size_swp];exact D.1,HSW.trans D.2⟩
     ·go_wp2_with fail;go_roundg (b+1-i);case measure=>omega
      case rel=>
       obtain⟨m',T⟩:=I nq;exact⟨i+1,m',A,jO,jO,jO,by go_num,T,D⟩
    ·have hjz:decide ((a:Int)<(j:Int))=false:=by simp;omega
     go_upto_region 4 with fail;go_quiet (fail);go_wp2_with fail;go_roundg (b+1-i);case measure=>omega
     case rel=>
      obtain⟨m',T⟩:=I nq;exact⟨i+1,m',A,jO,jO,jO,by go_num,T,D⟩
  ·have Y:¬(i:Int)<(b:Int):=by omega
   go_wp2_with fail;go_end0;exact⟨rfl,m,J,rfl,HK.1,HK.2⟩
def XZ(w:World)(g n:Nat)(d:Array Nat)(W:World)(d':Array Nat):Prop:=(g<w.heap.size/\∃k os,W=Sort.grow (Sort.putRow ZM (Sort.ahead w k) g 0 d') os)/\d.size=n/\d'.size=n/\d'.toList.Perm d.toList/\Sort.Holds ZM W g 0 d'
section
variable {w W W':World} {g n:Nat} {d d' d'':Array Nat}
theorem ID(w:World):Sort.grow w #[]=w:=by simp[Sort.grow]
theorem size_putRow(m:Nat):(Sort.putRow ZM (Sort.ahead w m) g 0 d).heap.size=w.heap.size:=ate
theorem DT(A:Sort.Holds ZM w g 0 d)(hd:d.size=n)(C:0<n):g<w.heap.size:=afg _ _ (A 0 jO).1
theorem XZ.start(A:Sort.Holds ZM w g 0 d)(hd:d.size=n)(C:0<n):XZ w g n d w d:=⟨⟨DT A hd C,0,#[],by rw[ID];exact(Sort.putRow_self _ _ _ _ _ A).symm⟩,hd,hd,awg _,A⟩
theorem XZ.mk'(A:Sort.Holds ZM w g 0 d)(hd:d.size=n)(C:0<n)(k:Nat)(hs:d'.size=n)(hp:d'.toList.Perm d.toList):XZ w g n d (Sort.putRow ZM (Sort.ahead w k) g 0 d') d':=⟨⟨DT A hd C,k,#[],by rw[ID]⟩,hd,hs,hp,Sort.holds_putRow ZM (Sort.ahead w k) g 0 d d' (Sort.holds_ahead ZM w k g 0 d A) jO⟩
theorem XZ.trans(h:XZ w g n d W d')(T:XZ W g n d' W' d''):XZ w g n d W' d'':=by
 obtain⟨⟨J,k,os,rfl⟩,U,hs,hp,Y⟩:=h;obtain⟨⟨_,m,A,rfl⟩,_,I,D,C⟩:=T;refine⟨⟨J,k+m,os++A,?_⟩,U,I,D.trans hp,C⟩;exact Sort.grow_step_grow ZM w os A k m g 0 d' d'' J jO
theorem XZ.drew(h:XZ w g n d W d')(z:Nat):XZ w g n d (W.drewN z) d':=by
 obtain⟨⟨A,k,os,rfl⟩,C,hs,hp,D⟩:=h;refine⟨⟨A,k+z,os,?_⟩,C,hs,hp,D⟩;rw[<-Tm];rfl
theorem XZ.grow(h:XZ w g n d W d')(o:Obj):XZ w g n d (W.alloc o) d':=by
 obtain⟨⟨A,k,os,rfl⟩,C,hs,hp,D⟩:=h;refine⟨⟨A,k,os++#[o],?_⟩,C,hs,hp,?_⟩;·rw[Sort.alloc_eq_grow,Sort.grow_grow]
 ·rw[Sort.alloc_eq_grow];refine Sort.holds_grow ZM _ _ g 0 d' ?_ D;show g<((Sort.putRow ZM (Sort.ahead w k) g 0 d').heap++os).size;rw[Array.size_append,size_putRow];omega
theorem XZ.swap(h:XZ w g n d W d'){i j:Nat}(hi:i<n)(I:j<n):XZ w g n d ((W.setCell ⟨g,i,none⟩ (ZM d'[j]!)).setCell ⟨g,j,none⟩ (ZM d'[i]!)) (Sort.swp d' i j):=by
 obtain⟨⟨A,k,os,rfl⟩,C,hs,hp,D⟩:=h;have e:=Sort.putRow_swp ZM (Sort.ahead w k) g 0 d' i j jO jO;rw[adf,adf] at e;have hz:=Sort.holds_putRow ZM (Sort.grow (Sort.putRow ZM (Sort.ahead w k) g 0 d') os) g 0 d' (Sort.swp d' i j) D (Sort.size_swp _ _ _);have e3:=Sort.putRow_grow ZM (Sort.putRow ZM (Sort.ahead w k) g 0 d') os g 0 (Sort.swp d' i j) (by rw[size_putRow];exact A);rw[e3,Sort.putRow_putRow ZM _ g 0 d' _ (Sort.size_swp _ _ _)] at hz;have e2:((Sort.grow (Sort.putRow ZM (Sort.ahead w k) g 0 d') os).setCell ⟨g,i,none⟩ (ZM d'[j]!)).setCell ⟨g,j,none⟩ (ZM d'[i]!)=Sort.grow (Sort.putRow ZM (Sort.ahead w k) g 0 (Sort.swp d' i j)) os:=by rw[<-e,Sort.setCell_eq,Sort.setCell_eq,Sort.setCell_eq,Sort.setCell_eq,Sort.mapBlock_grow _ _ _ _ (by rw[size_putRow];exact A),Sort.mapBlock_grow];exact(show _<(Array.modify _ _ _).size by rw[ate,size_putRow];exact A)
 rw[e2];exact⟨⟨A,k,os,rfl⟩,C,by rw[Sort.size_swp];exact hs,(DU d' i j jO jO).trans hp,hz⟩
theorem XZ.cells(h:XZ w g n d W d'):∃G:Nat->Nat,(∀t,G t=d'[t]!)/\∀t,t<n->W.cell? ⟨g,t,none⟩=some (.int .u32 (G t:Int))/\W.frozen? ⟨g,t,none⟩=false:=
 ⟨λt=>d'[t]!,λ_=>rfl,λt ht=>by have:=h.2.2.2.2 t (by have:=h.2.2.1;omega);rw[adf] at this;exact this⟩
end
def mQ(w:World)(g n:Nat)(d:Array Nat)(F:Value->Prop):Ending->World->Prop:=λe w'=>∃v d',e=.returned v/\F v/\XZ w g n d w' d'
theorem bH{w':World}{n:Nat}{d:Array Nat}{e:Ending}(C:Sort.Holds ZM w g 0 d)(hd:d.size=n)(A:0<n)(h:SoU w g n d e w'):mQ w g n d (λv=>v=.tuple #[]) e w':=by
 obtain⟨rfl,k,d',rfl,hs,hp⟩:=h;exact⟨_,d',rfl,rfl,XZ.mk' C hd A k hs hp⟩
theorem qQ {n b:Nat}{d:Array Nat}(hH:Sort.Holds ZM w g 0 d)(hd:d.size=n)(hab:a<b)(hb:b<=n)(hn:n<=1000000):Calls prog 251 #[.slice (some ⟨g,0,none⟩) n cap,.int .i64 a,.int .i64 b] w (mQ w g n d (λv=>v=.tuple #[])):=by
 have Z:=aT (XZ.start hH hd jO);obtain⟨c,hc⟩:∃c,b=c+1:=⟨b-1,jO⟩;have iwb:IntKind.i64.wrap ((b:Int)-1)=(c:Int):=by rw[aJ _ jO];omega
 clear hH hd;go_enter func251,ntmps251;go_upto_region 2 with fail;go_loopg [6,7] (c+1) (λgg vi vj wr=>∃(i j:Nat) (J:Array Nat),j<gg/\j<=c/\vi=.int .i64 (i:Int)/\vj=.int .i64 (j:Int)/\Hid (XZ w g n d wr J));case atStart=>exact⟨a,c,d,jO,jO,rfl,rfl,Z⟩
 case round=>
  obtain⟨i,j,J,VM,hjc,rfl,rfl,HK⟩:=hrel;by_cases hlt:i<j
  ·have D:(i:Int)<(j:Int):=by omega
   obtain⟨G,hG,A⟩:=HK.cells;have HG:=aT hG;have k1:=(A i jO).1;have k0:=(A j jO).1;have f1:=(A i jO).2;have f0:=(A j jO).2;have b1:=jZ i;have b2:(i:Int)<(n:Int):=jO;have b3:=jZ j;have b4:(j:Int)<(n:Int):=jO;have cW:i≠j:=jO;obtain⟨e,he⟩:∃e,j=e+1:=⟨j-1,jO⟩;have JS:IntKind.i64.wrap ((i:Int)+1)=((i+1:Nat):Int):=by rw[aJ _ jO];omega
   have mP:IntKind.i64.wrap ((j:Int)-1)=(e:Int):=by rw[aJ _ jO];omega
   have C:e<j:=jO;have I:e<=c:=jO;have Y:i<n:=jO;have T:j<n:=jO;have U:=aT ((HK.drew 1).swap Y T);clear hG A he hc;go_upto_region 3 with fail;go_region;go_wp2_with fail;go_roundg j;case measure=>omega
   case rel=>
    refine⟨i+1,e,Sort.swp J i j,C,I,by go_num,rfl,?_⟩;have h:=U.out;unfold ZM at h;rw[<-HG.out,<-HG.out] at h;exact h
  ·have D:¬(i:Int)<(j:Int):=by omega
   go_wp2_with fail;go_end0;exact⟨_,J,rfl,rfl,HK⟩
theorem DR {n b p:Nat}{d:Array Nat}(hH:Sort.Holds ZM w g 0 d)(hd:d.size=n)(hab:12<b-a)(hp:a<=p/\p<b)(hb:b<=n)(hn:n<=1000000):Calls prog 254 #[.slice (some ⟨g,0,none⟩) n cap,.int .i64 a,.int .i64 b,.int .i64 p] w (mQ w g n d (λv=>∃m:Nat,v=.int .i64 (m:Int)/\a<m/\m<=b)):=by
 have U:=aT (XZ.start hH hd jO);obtain⟨j0,gW⟩:∃c,b=c+1:=⟨b-1,jO⟩;have iwb:IntKind.i64.wrap ((b:Int)-1)=(j0:Int):=by rw[aJ _ jO];omega
 obtain⟨i0,tH⟩:∃c,c=a+1:=⟨a+1,rfl⟩;have iwa:IntKind.i64.wrap ((a:Int)+1)=(i0:Int):=by rw[aJ _ jO];omega
 obtain⟨mS,ui⟩:=hp;have hj1:j0<b:=jO;have dI:b<=j0+1:=jO;have at2:a<i0:=jO;have at3:i0<=a+1:=jO;clear hH hd gW tH;go_enter func254,ntmps254;go_upto_region 1 with fail;go_cut [8] from 11 to 24 (λs wx=>s=.int .i64 0/\∃d2:Array Nat,Hid (XZ w g n d wx d2))
 case first=>
  by_cases Y:a=p;·subst Y;obtain⟨G,T,A⟩:=U.cells;have HG:=aT T;have k1:=(A a jO).1;have k0:=(A a jO).1;have f1:=(A a jO).2;have f0:=(A a jO).2;have J:a<n:=jO;have I:a<n:=jO;have b1:=jZ a;have b2:(a:Int)<(n:Int):=jO;have b3:=jZ a;have b4:(a:Int)<(n:Int):=jO;have D:=aT ((U.drew 1).swap J I);clear T A;go_region;go_wp2_with fail;go_meet;refine⟨rfl,Sort.swp d a a,?_⟩;have h:=D.out;unfold ZM at h;simp only[<-HG.out] at h;exact h
  ·skip
   obtain⟨G,T,A⟩:=U.cells;have HG:=aT T;have k1:=(A a jO).1;have k0:=(A p jO).1;have f1:=(A a jO).2;have f0:=(A p jO).2;have J:a<n:=jO;have I:p<n:=jO;have b1:=jZ a;have b2:(a:Int)<(n:Int):=jO;have b3:=jZ p;have b4:(p:Int)<(n:Int):=jO;have D:=aT ((U.drew 1).swap J I);clear T A;go_region;go_wp2_with fail;go_meet;refine⟨rfl,Sort.swp d a p,?_⟩;have h:=D.out;unfold ZM at h;simp only[<-HG.out] at h;exact h
 case rest=>
  obtain⟨rfl,dS,S⟩:=hcut;clear U;go_upto_region 3 with fail;go_loopg [9,10] (j0+1) (λgg vi vj wr=>∃(i j:Nat) (dk:Array Nat),a+1<=i/\i<=b/\a<=j/\j<b/\j<gg/\vi=.int .i64 (i:Int)/\vj=.int .i64 (j:Int)/\Hid (XZ w g n d wr dk));case atStart=>exact⟨i0,j0,dS,jO,jO,jO,jO,jO,by first|rfl|go_num,by first|rfl|go_num,S⟩
  case round=>
   clear iwa iwb;obtain⟨Cq,Z,dO,at4,at5,at6,at7,au0,rfl,rfl,HO⟩:=hrel;go_upto_region 3 with fail;go_loopg [9] (b+1) (λgg v wr=>∃i:Nat,a+1<=i/\i<=b/\b-i<gg/\v=.int .i64 (i:Int)/\Hid (XZ w g n d wr dO));case atStart=>exact⟨Cq,jO,jO,jO,by first|rfl|go_num,HO⟩
   case round=>
    obtain⟨i,tI,bG,VM,rfl,HI⟩:=hrel;go_upto_region 3 with fail;go_cut [43] from 29 to 43 (λs wx=>∃r:Bool,s=.bool r/\(r=true->i<=Z)/\Hid (XZ w g n d wx dO))
    case first=>
     by_cases hg:i<=Z
     ·have Bz:decide ((i:Int)<=(Z:Int))=true:=by simp;omega
      have JR:(i:Int)<=(Z:Int):=jO;obtain⟨G,T,A⟩:=HI.cells;clear T;have k0:=(A i jO).1;have n0:=jZ i;have x0:(i:Int)<(n:Int):=jO;have k1:=(A a jO).1;have n1:=jZ a;have x1:(a:Int)<(n:Int):=jO;clear A;go_quiet (first|(go_at_call 253;refine Calls.quiet_of_same (Yx _ _ _)));go_wp2_with fail;go_meet;exact⟨_,rfl,λ_=>hg,aT (HI.drew _)⟩
     ·have Bz:decide ((i:Int)<=(Z:Int))=false:=by simp;omega
      have JR:¬(i:Int)<=(Z:Int):=jO;go_quiet (fail);go_wp2_with fail;go_meet;exact⟨_,rfl,(λh=>absurd h jD),aT (HI.drew _)⟩
    case rest=>
     obtain⟨r,rfl,hr,fS⟩:=hcut;clear HI;cases r with
     |true=>
      have JS:IntKind.i64.wrap ((i:Int)+1)=((i+1:Nat):Int):=by rw[aJ _ jO];omega
      have Y:=hr rfl;go_wp2_with fail;go_roundg (b-i);case measure=>omega
      case rel=>exact⟨i+1,jO,jO,jO,by go_num,fS⟩
     |false=>
      clear hr;go_upto_region 5 with fail;go_loopg [10] (Z+1) (λgg v wr=>∃j:Nat,a<=j/\j<=Z/\j<gg/\v=.int .i64 (j:Int)/\Hid (XZ w g n d wr dO));case atStart=>exact⟨Z,jO,jO,jO,rfl,fS⟩
      case round=>
       obtain⟨j,hj1,dI,ko,rfl,HJ⟩:=hrel;go_upto_region 5 with fail;go_cut [59] from 46 to 59 (λs wx=>∃r:Bool,s=.bool r/\(r=true->i<=j)/\Hid (XZ w g n d wx dO))
       case first=>
        by_cases hg:i<=j
        ·have Bz:decide ((i:Int)<=(j:Int))=true:=by simp;omega
         have JR:(i:Int)<=(j:Int):=jO;obtain⟨G,T,A⟩:=HJ.cells;clear T;have k0:=(A j jO).1;have n0:=jZ j;have x0:(j:Int)<(n:Int):=jO;have k1:=(A a jO).1;have n1:=jZ a;have x1:(a:Int)<(n:Int):=jO;clear A;go_quiet (first|(go_at_call 253;refine Calls.quiet_of_same (Yx _ _ _)));go_wp2_with fail;go_meet;exact⟨_,rfl,λ_=>hg,aT (HJ.drew _)⟩
        ·have Bz:decide ((i:Int)<=(j:Int))=false:=by simp;omega
         have JR:¬(i:Int)<=(j:Int):=jO;go_quiet (fail);go_wp2_with fail;go_meet;exact⟨_,rfl,(λh=>absurd h jD),aT (HJ.drew _)⟩
       case rest=>
        obtain⟨r,rfl,hr,C⟩:=hcut;clear HJ;cases r with
        |true=>
         have Y:=hr rfl;obtain⟨e,he⟩:∃e,j=e+1:=⟨j-1,jO⟩;have he1:e<j:=jO;have gZ:j<=e+1:=jO;have mP:IntKind.i64.wrap ((j:Int)-1)=(e:Int):=by rw[aJ _ jO];omega
         clear he;go_wp2_with fail;go_roundg j;case measure=>omega
         case rel=>exact⟨e,jO,jO,jO,rfl,C⟩
        |false=>
         clear hr;by_cases hgt:(j:Int)<(i:Int);·go_wp2_with fail;go_ret;exact⟨_,_,rfl,⟨i,rfl,jO,bG⟩,C⟩
         ·skip
          go_upto_region 8 with fail;go_cut [8] from 65 to 78 (λs wx=>s=.int .i64 0/\∃d2:Array Nat,Hid (XZ w g n d wx d2))
          case first=>
           by_cases Y:i=j;·subst Y;obtain⟨G,T,A⟩:=C.cells;have HG:=aT T;have k1:=(A i jO).1;have k0:=(A i jO).1;have f1:=(A i jO).2;have f0:=(A i jO).2;have J:i<n:=jO;have I:i<n:=jO;have b1:=jZ i;have b2:(i:Int)<(n:Int):=jO;have b3:=jZ i;have b4:(i:Int)<(n:Int):=jO;have D:=aT ((C.drew 1).swap J I);clear T A;go_region;go_wp2_with fail;go_meet;refine⟨rfl,Sort.swp dO i i,?_⟩;have h:=D.out;unfold ZM at h;simp only[<-HG.out] at h;exact h
           ·skip
            obtain⟨G,T,A⟩:=C.cells;have HG:=aT T;have k1:=(A i jO).1;have k0:=(A j jO).1;have f1:=(A i jO).2;have f0:=(A j jO).2;have J:i<n:=jO;have I:j<n:=jO;have b1:=jZ i;have b2:(i:Int)<(n:Int):=jO;have b3:=jZ j;have b4:(j:Int)<(n:Int):=jO;have D:=aT ((C.drew 1).swap J I);clear T A;go_region;go_wp2_with fail;go_meet;refine⟨rfl,Sort.swp dO i j,?_⟩;have h:=D.out;unfold ZM at h;simp only[<-HG.out] at h;exact h
          case rest=>
           obtain⟨rfl,dX,X⟩:=hcut;clear C;have JS:IntKind.i64.wrap ((i:Int)+1)=((i+1:Nat):Int):=by rw[aJ _ jO];omega
           obtain⟨e,he⟩:∃e,j=e+1:=⟨j-1,jO⟩;have he1:e<j:=jO;have gZ:j<=e+1:=jO;have mP:IntKind.i64.wrap ((j:Int)-1)=(e:Int):=by rw[aJ _ jO];omega
           clear he;go_wp2_with fail;go_roundg Z;case measure=>omega
           case rel=>exact⟨i+1,e,dX,jO,jO,jO,jO,jO,by go_num,rfl,X⟩
end Go.Proofs.YtclgigmgbebhgaaGreatDoor
