/- TopFirst: part 19: TopInsU TopPdqH TopRevU TopPartEqU. -/
import Derived.Sort.Row
import Derived.Test.YtclgigmgbebhgaaGreatDoorF09
set_option linter.unusedVariables false
set_option linter.unusedSimpArgs false
set_option maxRecDepth 100000
set_option maxHeartbeats 16000000
namespace Go.Proofs.YtclgigmgbebhgaaGreatDoor
open Tryz
open Go Go.Proofs Go.RowKit
variable {g cap a:Nat} {w:World}
def ZK(x:Nat):Value:=.int .u32 (x:Int)
theorem Dm(d:Array Nat)(i j:Nat)(hi:i<d.size)(C:j<d.size):(Sort.swp d i j).toList.Perm d.toList:=Iz (Sort.swp_permIn d 0 d.size i j (abd _) hi (abd _) C (aR _))
def SoU(w:World)(g n:Nat)(d:Array Nat):Ending->World->Prop:=λe w'=>e=.returned (.tuple #[])/\∃(k:Nat) (d':Array Nat),w'=Sort.putRow ZK (Sort.ahead w k) g 0 d'/\d'.size=n/\d'.toList.Perm d.toList
theorem aY(x:Nat)(w:World):Calls prog 98 #[.int .u32 x] w λe w'=>e=.returned (.bool false)/\w'=w:=by
 go_enter func98,ntmps98;go_wp2_with fail;go_ret;exact⟨jS,rfl⟩
theorem Ys(x y:Nat)(w:World):Calls prog 253 #[.int .u32 x,.int .u32 y] w λe w'=>e=.returned (.bool (decide ((x:Int)<(y:Int))))/\w'=w:=by
 go_enter func253,ntmps253;go_wp2_with fail;refine(aY _ _).mono ?_;rintro e C ⟨rfl,rfl⟩;go_wp2_with fail;go_ret;exact⟨by by_cases h:(x:Int)<(y:Int)<;>simp[h]<;>omega,rfl⟩
theorem S4(w:World)(m q g:Nat)(d:Array Nat):(Sort.putRow ZK (Sort.ahead w m) g 0 d).drewN q=Sort.putRow ZK (Sort.ahead w (m+q)) g 0 d:=by
 show Sort.ahead (Sort.putRow ZK (Sort.ahead w m) g 0 d) q=_;rw[Sort.putRow_ahead ZK w m,Sort.ahead_ahead,<-Sort.putRow_ahead]
theorem vx {n:Nat}{d dj:Array Nat}(C:Sort.Holds ZK w g 0 d)(hd:d.size=n)(D:dj.size=n)(m:Nat):∃G:Nat->Nat,(∀t,G t=dj[t]!)/\∀t,t<n->(Sort.putRow ZK (Sort.ahead w m) g 0 dj).cell? ⟨g,t,none⟩=some (.int .u32 (G t:Int))/\(Sort.putRow ZK (Sort.ahead w m) g 0 dj).frozen? ⟨g,t,none⟩=false:=by
 refine⟨λt=>dj[t]!,λ_=>rfl,λt ht=> ?_⟩;have h:=Sort.holds_putRow ZK (Sort.ahead w m) g 0 d dj (Sort.holds_ahead ZK w m g 0 d C) jO t jO;rw[ade] at h;exact h
theorem qg {n b:Nat}{d:Array Nat}(hH:Sort.Holds ZK w g 0 d)(hd:d.size=n)(hab:a<=b)(hb:b<=n)(hn:n<=1000000):Calls prog 247 #[.slice (some ⟨g,0,none⟩) n cap,.int .i64 a,.int .i64 b] w (SoU w g n d):=by
 have HH:=aT hH;have HD:=aT hd;have iw0:=jW a;clear hH hd;go_enter func247,ntmps247;go_upto_region 1 with fail;go_loopg [6] (b+2) (λgg vi wr=>∃(i m:Nat) (Y:Array Nat),a<i/\i<=b+1/\b+1-i<gg/\vi=.int .i64 (i:Int)/\wr=Sort.putRow ZK (Sort.ahead w m) g 0 Y/\Hid (Y.size=n/\Y.toList.Perm d.toList));case atStart=>exact⟨a+1,0,d,jO,jO,jO,by go_num,(Sort.putRow_self _ _ _ _ _ HH).symm,HD,axa _⟩
 case round=>
  obtain⟨i,m,Y,hai,hib,Vs,rfl,rfl,HK⟩:=hrel;have iw:=jW i;by_cases hlt:i<b
  ·have Zd:(i:Int)<(b:Int):=by omega
   obtain⟨w9,T⟩:=jX (Sort.putRow ZK (Sort.ahead w m) g 0 Y);rw[T];have HW9:=aT T;clear T;go_upto_region 4 with fail;go_loopg [7] (i+1) (λgg vj wr=>∃(j q:Nat) (C:Array Nat),a<=j/\j<=i/\j<gg/\vj=.int .i64 (j:Int)/\Hid (wr=Sort.putRow ZK (Sort.ahead w q) g 0 C)/\Hid (C.size=n/\C.toList.Perm d.toList));case atStart=>exact⟨i,m,Y,jO,aR _,jO,rfl,HW9.symm,HK⟩
   case round=>
    obtain⟨j,q,C,haj,hji,hgj,rfl,HW,D⟩:=hrel;obtain⟨G,hG,hc⟩:=vx HH HD D.1 q;have I:∀t,t<n->wr.cell? ⟨g,t,none⟩=some (.int .u32 (G t:Int))/\wr.frozen? ⟨g,t,none⟩=false:=λt ht=>by rw[HW.out];exact hc t ht
    have HG:=aT hG;have J:Hid (∀z,∃m',wr.drewN z=Sort.putRow ZK (Sort.ahead w m') g 0 C):=λz=>⟨q+z,by rw[HW.out];exact S4 _ _ _ _ _⟩
    clear hG hc;by_cases hja:a<j
    ·obtain⟨p,hp⟩:∃p,j=p+1:=⟨j-1,jO⟩;have k1:=(I j jO).1;have k0:=(I p jO).1;have f1:=(I j jO).2;have f0:=(I p jO).2;have hjz:decide ((a:Int)<(j:Int))=true:=by simp;omega
     have aJ0:(a:Int)<(j:Int):=jO;have iwp:IntKind.i64.wrap ((j:Int)-1)=(p:Int):=by rw[aJ _ jO];omega
     have b1:=jZ j;have b2:(j:Int)<(n:Int):=jO;have b3:=jZ p;have b4:(p:Int)<(n:Int):=jO;have HSW:=aT (Dm C j p (by rw[D.out.1];omega) (by rw[D.out.1];omega));have HP:=aT hp;have hpj:p≠j:=jO;have Z:a<=p:=jO;have ax6:p<=i:=jO;clear hp;go_upto_region 4 with fail;go_quiet (first|(go_at_call 253;refine Calls.quiet_of_same (Ys _ _ _)));by_cases hl:(G j:Int)<(G p:Int)
     ·go_upto_region 6 with fail;go_region;go_wp2_with fail;go_roundg j;case measure=>omega
      case rel=>
       refine⟨p,q+(nq+1),Sort.swp C j p,Z,ax6,by have:=HP.out;omega,rfl,?_,?_⟩;·have h:=Sort.putRow_swp ZK (Sort.ahead w (q+(nq+1))) g 0 C j p (by rw[D.out.1];omega) (by rw[D.out.1];omega);rw[ade,ade] at h;show _=_;rw[<-h,HW.out,S4];simp only[HG.out];rfl
       ·exact⟨by rw[Sort.size_swp];exact D.1,HSW.trans D.2⟩
     ·go_wp2_with fail;go_roundg (b+1-i);case measure=>omega
      case rel=>
       obtain⟨m',U⟩:=J nq;exact⟨i+1,m',C,jO,jO,jO,by go_num,U,D⟩
    ·have hjz:decide ((a:Int)<(j:Int))=false:=by simp;omega
     go_upto_region 4 with fail;go_quiet (fail);go_wp2_with fail;go_roundg (b+1-i);case measure=>omega
     case rel=>
      obtain⟨m',U⟩:=J nq;exact⟨i+1,m',C,jO,jO,jO,by go_num,U,D⟩
  ·have Zd:¬(i:Int)<(b:Int):=by omega
   go_wp2_with fail;go_end0;exact⟨rfl,m,Y,rfl,HK.1,HK.2⟩
def XV(w:World)(g n:Nat)(d:Array Nat)(W:World)(d':Array Nat):Prop:=(g<w.heap.size/\∃k os,W=Sort.grow (Sort.putRow ZK (Sort.ahead w k) g 0 d') os)/\d.size=n/\d'.size=n/\d'.toList.Perm d.toList/\Sort.Holds ZK W g 0 d'
section
variable {w W W':World} {g n:Nat} {d d' d'':Array Nat}
theorem Hj(w:World):Sort.grow w #[]=w:=by simp[Sort.grow]
theorem size_putRow(m:Nat):(Sort.putRow ZK (Sort.ahead w m) g 0 d).heap.size=w.heap.size:=atf
theorem Dl(C:Sort.Holds ZK w g 0 d)(hd:d.size=n)(D:0<n):g<w.heap.size:=afg _ _ (C 0 jO).1
theorem XV.start(C:Sort.Holds ZK w g 0 d)(hd:d.size=n)(D:0<n):XV w g n d w d:=⟨⟨Dl C hd D,0,#[],by rw[Hj];exact(Sort.putRow_self _ _ _ _ _ C).symm⟩,hd,hd,axa _,C⟩
theorem XV.mk'(C:Sort.Holds ZK w g 0 d)(hd:d.size=n)(D:0<n)(k:Nat)(hs:d'.size=n)(hp:d'.toList.Perm d.toList):XV w g n d (Sort.putRow ZK (Sort.ahead w k) g 0 d') d':=⟨⟨Dl C hd D,k,#[],by rw[Hj]⟩,hd,hs,hp,Sort.holds_putRow ZK (Sort.ahead w k) g 0 d d' (Sort.holds_ahead ZK w k g 0 d C) jO⟩
theorem XV.trans(h:XV w g n d W d')(U:XV W g n d' W' d''):XV w g n d W' d'':=by
 obtain⟨⟨T,k,os,rfl⟩,Y,hs,hp,Z⟩:=h;obtain⟨⟨_,m,C,rfl⟩,_,I,J,D⟩:=U;refine⟨⟨T,k+m,os++C,?_⟩,Y,I,J.trans hp,D⟩;exact Sort.grow_step_grow ZK w os C k m g 0 d' d'' T jO
theorem XV.drew(h:XV w g n d W d')(z:Nat):XV w g n d (W.drewN z) d':=by
 obtain⟨⟨D,k,os,rfl⟩,I,hs,hp,C⟩:=h;refine⟨⟨D,k+z,os,?_⟩,I,hs,hp,C⟩;rw[<-S4];rfl
theorem XV.grow(h:XV w g n d W d')(o:Obj):XV w g n d (W.alloc o) d':=by
 obtain⟨⟨D,k,os,rfl⟩,I,hs,hp,C⟩:=h;refine⟨⟨D,k,os++#[o],?_⟩,I,hs,hp,?_⟩;·rw[Sort.alloc_eq_grow,Sort.grow_grow]
 ·rw[Sort.alloc_eq_grow];refine Sort.holds_grow ZK _ _ g 0 d' ?_ C;show g<((Sort.putRow ZK (Sort.ahead w k) g 0 d').heap++os).size;rw[Array.size_append,size_putRow];omega
theorem XV.swap(h:XV w g n d W d'){i j:Nat}(hi:i<n)(J:j<n):XV w g n d ((W.setCell ⟨g,i,none⟩ (ZK d'[j]!)).setCell ⟨g,j,none⟩ (ZK d'[i]!)) (Sort.swp d' i j):=by
 obtain⟨⟨C,k,os,rfl⟩,I,hs,hp,D⟩:=h;have e:=Sort.putRow_swp ZK (Sort.ahead w k) g 0 d' i j jO jO;rw[ade,ade] at e;have hz:=Sort.holds_putRow ZK (Sort.grow (Sort.putRow ZK (Sort.ahead w k) g 0 d') os) g 0 d' (Sort.swp d' i j) D (Sort.size_swp _ _ _);have e3:=Sort.putRow_grow ZK (Sort.putRow ZK (Sort.ahead w k) g 0 d') os g 0 (Sort.swp d' i j) (by rw[size_putRow];exact C);rw[e3,Sort.putRow_putRow ZK _ g 0 d' _ (Sort.size_swp _ _ _)] at hz;have e2:((Sort.grow (Sort.putRow ZK (Sort.ahead w k) g 0 d') os).setCell ⟨g,i,none⟩ (ZK d'[j]!)).setCell ⟨g,j,none⟩ (ZK d'[i]!)=Sort.grow (Sort.putRow ZK (Sort.ahead w k) g 0 (Sort.swp d' i j)) os:=by rw[<-e,Sort.setCell_eq,Sort.setCell_eq,Sort.setCell_eq,Sort.setCell_eq,Sort.mapBlock_grow _ _ _ _ (by rw[size_putRow];exact C),Sort.mapBlock_grow];exact(show _<(Array.modify _ _ _).size by rw[atf,size_putRow];exact C)
 rw[e2];exact⟨⟨C,k,os,rfl⟩,I,by rw[Sort.size_swp];exact hs,(Dm d' i j jO jO).trans hp,hz⟩
theorem XV.cells(h:XV w g n d W d'):∃G:Nat->Nat,(∀t,G t=d'[t]!)/\∀t,t<n->W.cell? ⟨g,t,none⟩=some (.int .u32 (G t:Int))/\W.frozen? ⟨g,t,none⟩=false:=
 ⟨λt=>d'[t]!,λ_=>rfl,λt ht=>by have:=h.2.2.2.2 t (by have:=h.2.2.1;omega);rw[ade] at this;exact this⟩
end
def mQ(w:World)(g n:Nat)(d:Array Nat)(F:Value->Prop):Ending->World->Prop:=λe w'=>∃v d',e=.returned v/\F v/\XV w g n d w' d'
theorem aX{w':World}{n:Nat}{d:Array Nat}{e:Ending}(C:Sort.Holds ZK w g 0 d)(hd:d.size=n)(D:0<n)(h:SoU w g n d e w'):mQ w g n d (λv=>v=.tuple #[]) e w':=by
 obtain⟨rfl,k,d',rfl,hs,hp⟩:=h;exact⟨_,d',rfl,rfl,XV.mk' C hd D k hs hp⟩
theorem qf {n b:Nat}{d:Array Nat}(hH:Sort.Holds ZK w g 0 d)(hd:d.size=n)(hab:a<b)(hb:b<=n)(hn:n<=1000000):Calls prog 251 #[.slice (some ⟨g,0,none⟩) n cap,.int .i64 a,.int .i64 b] w (mQ w g n d (λv=>v=.tuple #[])):=by
 have UB:=aT (XV.start hH hd jO);obtain⟨c,hc⟩:∃c,b=c+1:=⟨b-1,jO⟩;have iwb:IntKind.i64.wrap ((b:Int)-1)=(c:Int):=by rw[aJ _ jO];omega
 clear hH hd;go_enter func251,ntmps251;go_upto_region 2 with fail;go_loopg [6,7] (c+1) (λgg vi vj wr=>∃(i j:Nat) (T:Array Nat),j<gg/\j<=c/\vi=.int .i64 (i:Int)/\vj=.int .i64 (j:Int)/\Hid (XV w g n d wr T));case atStart=>exact⟨a,c,d,jO,jO,rfl,rfl,UB⟩
 case round=>
  obtain⟨i,j,T,Vs,hjc,rfl,rfl,U⟩:=hrel;by_cases hlt:i<j
  ·have D:(i:Int)<(j:Int):=by omega
   obtain⟨G,hG,C⟩:=U.cells;have HG:=aT hG;have k1:=(C i jO).1;have k0:=(C j jO).1;have f1:=(C i jO).2;have f0:=(C j jO).2;have b1:=jZ i;have b2:(i:Int)<(n:Int):=jO;have b3:=jZ j;have b4:(j:Int)<(n:Int):=jO;have cA:i≠j:=jO;obtain⟨e,he⟩:∃e,j=e+1:=⟨j-1,jO⟩;have Jc:IntKind.i64.wrap ((i:Int)+1)=((i+1:Nat):Int):=by rw[aJ _ jO];omega
   have mP:IntKind.i64.wrap ((j:Int)-1)=(e:Int):=by rw[aJ _ jO];omega
   have J:e<j:=jO;have I:e<=c:=jO;have Z:i<n:=jO;have Y:j<n:=jO;have HSW:=aT ((U.drew 1).swap Z Y);clear hG C he hc;go_upto_region 3 with fail;go_region;go_wp2_with fail;go_roundg j;case measure=>omega
   case rel=>
    refine⟨i+1,e,Sort.swp T i j,J,I,by go_num,rfl,?_⟩;have h:=HSW.out;unfold ZK at h;rw[<-HG.out,<-HG.out] at h;exact h
  ·have D:¬(i:Int)<(j:Int):=by omega
   go_wp2_with fail;go_end0;exact⟨_,T,rfl,rfl,U⟩
theorem Dk {n b p:Nat}{d:Array Nat}(hH:Sort.Holds ZK w g 0 d)(hd:d.size=n)(hab:12<b-a)(hp:a<=p/\p<b)(hb:b<=n)(hn:n<=1000000):Calls prog 254 #[.slice (some ⟨g,0,none⟩) n cap,.int .i64 a,.int .i64 b,.int .i64 p] w (mQ w g n d (λv=>∃m:Nat,v=.int .i64 (m:Int)/\a<m/\m<=b)):=by
 have Y:=aT (XV.start hH hd jO);obtain⟨j0,gI⟩:∃c,b=c+1:=⟨b-1,jO⟩;have iwb:IntKind.i64.wrap ((b:Int)-1)=(j0:Int):=by rw[aJ _ jO];omega
 obtain⟨i0,sL⟩:∃c,c=a+1:=⟨a+1,rfl⟩;have iwa:IntKind.i64.wrap ((a:Int)+1)=(i0:Int):=by rw[aJ _ jO];omega
 obtain⟨mS,tI⟩:=hp;have hj1:j0<b:=jO;have dh:b<=j0+1:=jO;have ax7:a<i0:=jO;have ax8:i0<=a+1:=jO;clear hH hd gI sL;go_enter func254,ntmps254;go_upto_region 1 with fail;go_cut [8] from 11 to 24 (λs wx=>s=.int .i64 0/\∃d2:Array Nat,Hid (XV w g n d wx d2))
 case first=>
  by_cases Z:a=p;·subst Z;obtain⟨G,J,C⟩:=Y.cells;have HG:=aT J;have k1:=(C a jO).1;have k0:=(C a jO).1;have f1:=(C a jO).2;have f0:=(C a jO).2;have I:a<n:=jO;have D:a<n:=jO;have b1:=jZ a;have b2:(a:Int)<(n:Int):=jO;have b3:=jZ a;have b4:(a:Int)<(n:Int):=jO;have U:=aT ((Y.drew 1).swap I D);clear J C;go_region;go_wp2_with fail;go_meet;refine⟨rfl,Sort.swp d a a,?_⟩;have h:=U.out;unfold ZK at h;simp only[<-HG.out] at h;exact h
  ·skip
   obtain⟨G,J,C⟩:=Y.cells;have HG:=aT J;have k1:=(C a jO).1;have k0:=(C p jO).1;have f1:=(C a jO).2;have f0:=(C p jO).2;have I:a<n:=jO;have D:p<n:=jO;have b1:=jZ a;have b2:(a:Int)<(n:Int):=jO;have b3:=jZ p;have b4:(p:Int)<(n:Int):=jO;have U:=aT ((Y.drew 1).swap I D);clear J C;go_region;go_wp2_with fail;go_meet;refine⟨rfl,Sort.swp d a p,?_⟩;have h:=U.out;unfold ZK at h;simp only[<-HG.out] at h;exact h
 case rest=>
  obtain⟨rfl,dS,S⟩:=hcut;clear Y;go_upto_region 3 with fail;go_loopg [9,10] (j0+1) (λgg vi vj wr=>∃(i j:Nat) (dk:Array Nat),a+1<=i/\i<=b/\a<=j/\j<b/\j<gg/\vi=.int .i64 (i:Int)/\vj=.int .i64 (j:Int)/\Hid (XV w g n d wr dk));case atStart=>exact⟨i0,j0,dS,jO,jO,jO,jO,jO,by first|rfl|go_num,by first|rfl|go_num,S⟩
  case round=>
   clear iwa iwb;obtain⟨wC,jo,dO,ax9,ay0,ay1,ay2,ay3,rfl,rfl,HO⟩:=hrel;go_upto_region 3 with fail;go_loopg [9] (b+1) (λgg v wr=>∃i:Nat,a+1<=i/\i<=b/\b-i<gg/\v=.int .i64 (i:Int)/\Hid (XV w g n d wr dO));case atStart=>exact⟨wC,jO,jO,jO,by first|rfl|go_num,HO⟩
   case round=>
    obtain⟨i,sM,aW,Vs,rfl,HI⟩:=hrel;go_upto_region 3 with fail;go_cut [43] from 29 to 43 (λs wx=>∃r:Bool,s=.bool r/\(r=true->i<=jo)/\Hid (XV w g n d wx dO))
    case first=>
     by_cases hg:i<=jo
     ·have AL:decide ((i:Int)<=(jo:Int))=true:=by simp;omega
      have Jk:(i:Int)<=(jo:Int):=jO;obtain⟨G,J,C⟩:=HI.cells;clear J;have k0:=(C i jO).1;have n0:=jZ i;have x0:(i:Int)<(n:Int):=jO;have k1:=(C a jO).1;have n1:=jZ a;have x1:(a:Int)<(n:Int):=jO;clear C;go_quiet (first|(go_at_call 253;refine Calls.quiet_of_same (Ys _ _ _)));go_wp2_with fail;go_meet;exact⟨_,rfl,λ_=>hg,aT (HI.drew _)⟩
     ·have AL:decide ((i:Int)<=(jo:Int))=false:=by simp;omega
      have Jk:¬(i:Int)<=(jo:Int):=jO;go_quiet (fail);go_wp2_with fail;go_meet;exact⟨_,rfl,(λh=>absurd h jD),aT (HI.drew _)⟩
    case rest=>
     obtain⟨r,rfl,hr,fI⟩:=hcut;clear HI;cases r with
     |true=>
      have Jc:IntKind.i64.wrap ((i:Int)+1)=((i+1:Nat):Int):=by rw[aJ _ jO];omega
      have Z:=hr rfl;go_wp2_with fail;go_roundg (b-i);case measure=>omega
      case rel=>exact⟨i+1,jO,jO,jO,by go_num,fI⟩
     |false=>
      clear hr;go_upto_region 5 with fail;go_loopg [10] (jo+1) (λgg v wr=>∃j:Nat,a<=j/\j<=jo/\j<gg/\v=.int .i64 (j:Int)/\Hid (XV w g n d wr dO));case atStart=>exact⟨jo,jO,jO,jO,rfl,fI⟩
      case round=>
       obtain⟨j,hj1,dh,j8,rfl,HJ⟩:=hrel;go_upto_region 5 with fail;go_cut [59] from 46 to 59 (λs wx=>∃r:Bool,s=.bool r/\(r=true->i<=j)/\Hid (XV w g n d wx dO))
       case first=>
        by_cases hg:i<=j
        ·have AL:decide ((i:Int)<=(j:Int))=true:=by simp;omega
         have Jk:(i:Int)<=(j:Int):=jO;obtain⟨G,J,C⟩:=HJ.cells;clear J;have k0:=(C j jO).1;have n0:=jZ j;have x0:(j:Int)<(n:Int):=jO;have k1:=(C a jO).1;have n1:=jZ a;have x1:(a:Int)<(n:Int):=jO;clear C;go_quiet (first|(go_at_call 253;refine Calls.quiet_of_same (Ys _ _ _)));go_wp2_with fail;go_meet;exact⟨_,rfl,λ_=>hg,aT (HJ.drew _)⟩
        ·have AL:decide ((i:Int)<=(j:Int))=false:=by simp;omega
         have Jk:¬(i:Int)<=(j:Int):=jO;go_quiet (fail);go_wp2_with fail;go_meet;exact⟨_,rfl,(λh=>absurd h jD),aT (HJ.drew _)⟩
       case rest=>
        obtain⟨r,rfl,hr,T⟩:=hcut;clear HJ;cases r with
        |true=>
         have Z:=hr rfl;obtain⟨e,he⟩:∃e,j=e+1:=⟨j-1,jO⟩;have he1:e<j:=jO;have gL:j<=e+1:=jO;have mP:IntKind.i64.wrap ((j:Int)-1)=(e:Int):=by rw[aJ _ jO];omega
         clear he;go_wp2_with fail;go_roundg j;case measure=>omega
         case rel=>exact⟨e,jO,jO,jO,rfl,T⟩
        |false=>
         clear hr;by_cases hgt:(j:Int)<(i:Int);·go_wp2_with fail;go_ret;exact⟨_,_,rfl,⟨i,rfl,jO,aW⟩,T⟩
         ·skip
          go_upto_region 8 with fail;go_cut [8] from 65 to 78 (λs wx=>s=.int .i64 0/\∃d2:Array Nat,Hid (XV w g n d wx d2))
          case first=>
           by_cases Z:i=j;·subst Z;obtain⟨G,J,C⟩:=T.cells;have HG:=aT J;have k1:=(C i jO).1;have k0:=(C i jO).1;have f1:=(C i jO).2;have f0:=(C i jO).2;have I:i<n:=jO;have D:i<n:=jO;have b1:=jZ i;have b2:(i:Int)<(n:Int):=jO;have b3:=jZ i;have b4:(i:Int)<(n:Int):=jO;have U:=aT ((T.drew 1).swap I D);clear J C;go_region;go_wp2_with fail;go_meet;refine⟨rfl,Sort.swp dO i i,?_⟩;have h:=U.out;unfold ZK at h;simp only[<-HG.out] at h;exact h
           ·skip
            obtain⟨G,J,C⟩:=T.cells;have HG:=aT J;have k1:=(C i jO).1;have k0:=(C j jO).1;have f1:=(C i jO).2;have f0:=(C j jO).2;have I:i<n:=jO;have D:j<n:=jO;have b1:=jZ i;have b2:(i:Int)<(n:Int):=jO;have b3:=jZ j;have b4:(j:Int)<(n:Int):=jO;have U:=aT ((T.drew 1).swap I D);clear J C;go_region;go_wp2_with fail;go_meet;refine⟨rfl,Sort.swp dO i j,?_⟩;have h:=U.out;unfold ZK at h;simp only[<-HG.out] at h;exact h
          case rest=>
           obtain⟨rfl,dX,X⟩:=hcut;clear T;have Jc:IntKind.i64.wrap ((i:Int)+1)=((i+1:Nat):Int):=by rw[aJ _ jO];omega
           obtain⟨e,he⟩:∃e,j=e+1:=⟨j-1,jO⟩;have he1:e<j:=jO;have gL:j<=e+1:=jO;have mP:IntKind.i64.wrap ((j:Int)-1)=(e:Int):=by rw[aJ _ jO];omega
           clear he;go_wp2_with fail;go_roundg jo;case measure=>omega
           case rel=>exact⟨i+1,e,dX,jO,jO,jO,jO,jO,by go_num,rfl,X⟩
end Go.Proofs.YtclgigmgbebhgaaGreatDoor
