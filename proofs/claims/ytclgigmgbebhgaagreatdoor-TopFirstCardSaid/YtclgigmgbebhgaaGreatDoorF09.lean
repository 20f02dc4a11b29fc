/- TopFirst: part 9: TopRes6 TopRes7 SysRows SysFind SysBs SysNum SysRef SysRName SysRow SysRight SysLaw TopKeys TopKeysS. -/
import Derived.Shelf.SlicesQ.IndexFunc
import Derived.Lib.Bytealg
import Derived.WalkSmall
import Derived.OwnWalk
import Derived.Lib.AppendZeros
import Derived.Great.Walk
import Derived.Shelf.SlIter.Sorted
import Derived.Test.YtclgigmgbebhgaaGreatDoorF08
set_option linter.unusedVariables false
set_option linter.unusedSimpArgs false
set_option maxRecDepth 100000
set_option maxHeartbeats 16000000
namespace Go.Proofs.YtclgigmgbebhgaaGreatDoor
open Tryz
open Go Go.Proofs Go.RowKit Go.Maps Go.WideMaps Go.ChangeMaps
theorem DN{d:Nat}(l:List Z3)(r:Z3):strike d (l++[r])=if r.2=d then strike d l else l++[r]:=by
 unfold strike;rw[List.reverse_append];show(List.dropWhile _ (r::l.reverse)).reverse=_;rw[apf];by_cases h:r.2=d;·rw[aF (by simpa using h),aF h]
 ·rw[aN (by simpa using h),aN h,awf,axd]
theorem rJ{N L a c d:Nat}{la:Option Addr}{rs:List Z3}(hL:rs.length=L)(Xo:L<=1000)(hcs:∀r∈rs,r.1.length<=1000/\∀x∈r.1,x.m<YN/\x.v<YN)(w:World)(h:Um N w (.slice la L c) rs)(hN:N<=w.heap.size):
 Calls prog 39 #[.int .i64 a,.slice la L c,.int .u32 d] w λe w'=>∃v us,e=.returned v/\Yd w.heap.size w' v (Yn a d rs) us/\(Yn a d rs).length<=L/\Below w.heap.size w w':=by
 have HL:=aT hL;have HM:=aT h;have HC:=aT hcs;clear hL h hcs;go_enter func39,ntmps39;go_upto_region 2 with fail;go_cut [11,12,13] (λs11 s12 cD wx=>s11=.slice la L c/\s12=.int .i64 (L:Int)/\cD=.int .i64 0/\w=wx)
 case first=>
  go_wp2_with fail;go_meet;exact⟨rfl,rfl,rfl,rfl⟩
 case rest=>
 obtain⟨rfl,rfl,rfl,rfl⟩:=hcut;rename_i hB;refine hB _ _ ?_;clear hB;go_cut [7] from 9 to 41 (λs wx=>∃(v:Value) (us:List Value) (l:List Z3),v=s/\Hid (Yd w.heap.size wx v l us)/\Hid (W9 a rs=l)/\l.length<=L/\Hid (Below w.heap.size w wx))
 case first=>
  go_upto_region 3 with fail;go_loopg [7,13] (L+1) (λgg s7 cD wr=>∃(i:Nat) (v:Value) (us:List Value) (l:List Z3),i<=L/\L-i<gg/\cD=.int .i64 (i:Int)/\v=s7/\l.length<=i/\Hid (Yd w.heap.size wr v l us)/\Hid (W9 a rs=l++W9 a (rs.drop i))/\Hid (Below w.heap.size w wr));case atStart=>exact⟨0,.slice none 0 0,[],[],abd _,jO,rfl,rfl,aR _,Yd.nil _ _,(by show _=_;rfl),aG _ _⟩
  case round=>
   obtain⟨i,v,us,l,sR,Vs,rfl,rfl,hll,HR,HS,HB⟩:=hrel;have wC:=jZ i;have Jc:=jW i;by_cases hlt:i<L
   ·have Zd:(i:Int)<(L:Int):=by omega
    obtain⟨r,hr⟩:∃r,rs[i]? =some r:=⟨_,aL (by rw[HL.out];exact hlt)⟩;obtain⟨la2,c2,e,hrow⟩:=HM.out;injection e with e1 e3 e2;subst e1 e2;clear e3;obtain⟨g,off,u,rfl,UW,y0,y1,hcm⟩:=hrow i r hr;obtain⟨hk0,hb0⟩:=HC.out r (ag hr);have y0:=ZY HB.out hN UW y0;have y1:=ZY HB.out hN UW y1;have Cj:=aT (hcm.below HB.out hN);have gH:=aT (drop_cons hr);have cB:=aT hb0;clear hrow hr hcm hb0;obtain⟨cs,code⟩:=r;dsimp only at*;obtain⟨ua,uc,rfl⟩:∃ua uc,u=.slice ua cs.length uc:=by obtain⟨ua,uc,e,_⟩:=Cj.out;exact⟨ua,uc,e⟩
    obtain⟨K,hK⟩:=jX cs.length;rw[hK] at Cj y0 hk0;have HK:=aT hK;clear hK;have D:=aT (Z7.new wr TQ #[.slice ua K uc,.int .u32 code]);have BC:=aT (HR.out.Zr ((aG _ _).alloc (aR _) (.cells #[.slice ua K uc,.int .u32 code] TQ)));have J:=aT (HB.out.alloc HB.out.size (.cells #[.slice ua K uc,.int .u32 code] TQ));have U:=aT (Cj.out.below (Yx wr (.cells #[.slice ua K uc,.int .u32 code] TQ)) (aO hN HB.out.size));have HWr:=HB.out.size;have T:Hid (v.ownBlock≠some wr.heap.size):=λe=>asa _ (HR.out.row.lt _ e).2
    go_upto_region 5 with fail;clear HR HB Cj y0 y1;generalize hwa:wr.alloc (.cells #[.slice ua K uc,.int .u32 code] TQ)=wa at*;have hsz:wr.heap.size<wa.heap.size:=by rw[<-hwa,aj];omega
    clear hwa;obtain⟨P,hP⟩:=jX wr.heap.size;rw[hP] at D T hsz ⊢;have rI:Hid (w.heap.size<=P):=by show _<=_;rw[<-hP];exact HWr
    clear hP;go_upto_if 18 with fail
    go_cut [10] from 14 to 41 (λs10 wx=>(s10=.bool false/\Hid (W9 a rs=l++W9 a (rs.drop (i+1)))/\Hid (Yd w.heap.size wx v l us)/\Hid (Below w.heap.size w wx))\/(s10=.bool true/\∃(ns:List Z5) (na:Option Addr) (M nc:Nat),M<=1000/\Hid (ns.length=M)/\Hid (W9 a rs=l++(if M=0 then [(ns,code)] else(ns,code)::W9 a (rs.drop (i+1))))/\Hid (Il w.heap.size P w wx v l us ns code na M nc none none)))
    case first=>
     by_cases ha:a=2
     ·have haz:((a:Int) == 2)=true:=by rw[ahc];omega
      have HA:=aT ha;clear ha;have HN:=aT (DW (cs:=cs) (cd:=code) HK.out hk0 cB.out wa U.out (acf (by have:=hsz;have:=rI.out;omega)));obtain⟨⟨p0,p1⟩,_⟩:=XG D.out;go_wp2_with fail;refine HN.out.mono ?_;rintro e w2 ⟨au2,hb⟩;have I:=aT (D.out.below hb D.out.lt);have Y:=aT (BC.out.Zr hb);have XX:=aT (J.out.trans (hb.mono J.out.size));clear hb HN BC J D p0 p1;obtain⟨_,f0,f1⟩:=XG I.out;rcases au2 with⟨hno,rfl⟩|⟨x,ns,hns,rfl,hx⟩
      ·have C:Hid (W9 a rs=l++W9 a (rs.drop (i+1))):=by
        show _=_;rw[HS.out,gH.out];unfold W9;rw[aF HA.out,aF HA.out];show l++(match ZO Zi cs with|none=>YG (rs.drop (i+1))|some []=>[([],code)]|some ns=>(ns,code)::YG (rs.drop (i+1)))=_;rw[hno]
       clear hno;go_wp2_with fail;go_meet;exact .inl ⟨rfl,C,(Y.out.lj I.out T.out 0 _).lj (I.out.set 0 _) T.out 1 _,Rn XX.out rI.out _ _⟩
      ·obtain⟨xa,xc,rfl⟩:=Z0 hx;have HX:=aT hx;have BS:Hid (ns.length<=1000):=aO (Tj hns) (by rw[HK.out];exact hk0)
       have C:Hid (W9 a rs=l++(if ns.length=0 then [(ns,code)] else(ns,code)::W9 a (rs.drop (i+1)))):=by show _=_;rw[HS.out,gH.out];unfold W9;rw[aF HA.out,aF HA.out];show l++(match ZO Zi cs with|none=>YG (rs.drop (i+1))|some []=>[([],code)]|some ns=>(ns,code)::YG (rs.drop (i+1)))=_;rw[hns];cases ns<;>rfl
       clear hns hx;obtain⟨M,hM⟩:=jX ns.length;have Fm:=aT hM;have xh:Hid (w2.ownsRow wa.heap.size TC 4 (.slice xa M xc) ns.length (ns.flatMap cL)):=by rw[<-hM];exact HX.out
       rw[hM] at C BS ⊢;clear hM HX;go_wp2_with fail;go_meet;refine .inr ⟨rfl,ns,xa,M,xc,BS.out,Fm,C,⟨(Y.out.lj I.out T.out 0 _).lj (I.out.set 0 _) T.out 1 _,Rn XX.out rI.out _ _,(Rn XX.out rI.out _ _).size,Kw I.out _ _,T.out,λ_=> ?_,λx e=>(by cases e),λb x e=>(by cases e)⟩⟩;have h2:=ZV (ZV xh.out I.out jD 0 (.slice xa M xc)) (I.out.set 0 _) jD 1 (.int .u32 code);exact Th h2
     ·have haz:((a:Int) == 2)=false:=by rw[af];omega
      have HA:=aT ha;clear ha;go_wp2_with fail;go_meet;refine .inr ⟨rfl,cs,ua,K,uc,hk0,HK,?_,?_⟩
      ·show _=_;rw[HS.out,gH.out];unfold W9;rw[aN HA.out,aN HA.out];show l++(if cs=[] then [(cs,code)] else(cs,code)::UF (rs.drop (i+1)))=_;by_cases h0:cs=[];·rw[aF h0,aF (by rw[<-HK.out,h0];rfl)]
       ·rw[aN h0,aN (by rw[<-HK.out];exact λe=>h0 (alb.1 e))]
      ·exact⟨BC.out,J.out,J.out.size,D.out,T.out,λ_=>U.out.mono (aO hN J.out.size),λx e=>(by cases e),λb x e=>(by cases e)⟩
    case rest=>
     rcases hcut with⟨rfl,C,Y,XX⟩|⟨rfl,ns,na,M,nc,hM,HMl,C,HSe⟩
     ·clear BC J D U;go_wp2_with fail;go_roundg (L-i);case measure=>omega
      case rel=>exact⟨i+1,v,us,l,jO,jO,by go_num,rfl,jO,Y,C,XX⟩
     ·clear BC J D U;obtain⟨p0,p1⟩:=HSe.out.S;have tP:=aT HSe.out.drew;go_upto_region 9 with fail
      go_region_held_law (λw'=>w'.cell? ⟨P,0,none⟩=some (.slice na M nc)/\w'.cell? ⟨P,1,none⟩=some (.int .u32 code)) (first|exact Il.S (aje (by (first|assumption|exact tP|exact aT (Il.Xg (aje jA) rfl))))|exact(XG Z.out.2.2.1).1) (first
       |(go_at_call 92;refine(Il.clone (aje (by (first|assumption|exact tP|exact aT (Il.Xg (aje jA) rfl)))) HMl.out jO).mono ?_;rintro e w7 ⟨xa,xc,rfl,h7⟩;have LA:=aT h7;clear h7)
       |(refine Il.step (aje (by (first|assumption|exact tP|exact aT (Il.Xg (aje jA) rfl)))) rfl _ _ rfl rfl rfl jO ?_;intro gb2 ag7 w8 h8;have Z:=aT h8;clear h8))
      obtain⟨⟨p0,p1⟩,_⟩:=XG Z.out.2.2.1;by_cases h0:M=0
      ·have mi:((M:Int) == 0)=true:=by rw[ahc];omega
       have HE:Hid (W9 a rs=l++[(ns,code)]):=by have h:=C.out;rwa [aF h0] at h
       clear h0;go_wp2_with fail;go_meet;exact⟨_,_,_,rfl,Z.out.1,HE,by rw[ay];simp;omega,Z.out.2.1⟩
      ·have mi:((M:Int) == 0)=false:=by rw[af];omega
       have HE:Hid (W9 a rs=(l++[(ns,code)])++W9 a (rs.drop (i+1))):=by have h:=C.out;rw[aN h0] at h;show _=_;rw[h,aag];rfl
       clear h0;go_wp2_with fail;go_roundg (L-i);case measure=>omega
       case rel=>exact⟨i+1,_,_,l++[(ns,code)],jO,jO,by go_num,rfl,by rw[ay];simp;omega,Z.out.1,HE,Z.out.2.1⟩
   ·obtain rfl:i=L:=by omega
    have Zd:¬(i:Int)<(i:Int):=jO;have C:Hid (W9 a rs=l):=by have h:=HS.out;rwa [amg (by rw[HL.out];exact aR _),vZ,adb] at h
    go_wp2_with fail;go_meet;exact⟨v,us,l,rfl,HR,C,hll,HB⟩
 case rest=>
  obtain⟨v,us,l,rfl,HR,HS,hll,HB⟩:=hcut;have HO:Hid (Yn a d rs=strike d l):=by show _=_;rw[rK,HS.out]
  obtain⟨va0,vc0,rfl⟩:=Z0 HR.out.row;clear HS;go_wp2_with fail;go_loopg [7] (l.length+1) (λgg s7 wr=>∃(m:Nat) (va:Option Addr) (vc:Nat),s7=.slice va m vc/\m<=l.length/\m<gg/\Hid (Yd w.heap.size wr (.slice va m vc) (l.take m) (us.take m))/\Hid (Yn a d rs=strike d (l.take m))/\Hid (Below w.heap.size w wr));case atStart=>exact⟨l.length,va0,vc0,rfl,aR _,jO,(by show Yd _ _ _ _ _;rw[List.take_length,<-HR.out.len,List.take_length,HR.out.len];exact HR.out),(by rw[List.take_length];exact HO),HB⟩
  case round=>
   obtain⟨m,va,vc,rfl,hm,Vs,HRm,HOm,HBm⟩:=hrel;clear HR HO HB;by_cases Fo:m=0
   ·subst Fo
    have HE:Hid (Yn a d rs=l.take 0):=by show _=_;rw[HOm.out];rfl
    go_wp2_with fail;go_ret;exact⟨_,us.take 0,rfl,by rw[HE.out];exact HRm.out,by rw[HE.out];simp,HBm.out⟩
   ·obtain⟨e,he⟩:=jX (m-1);have hmz:decide ((0:Int)<(m:Int))=true:=by simp;omega
    have au3:(0:Int)<(m:Int):=jO;have zj:decide (0<m)=true:=acb jO;have au4:0<m:=jO;have cN:IntKind.i64.wrap ((m:Int)-1)=(e:Int):=by rw[aJ _ jO];omega
    have b0:=jZ e;have b1:(e:Int)<(m:Int):=jO;have tO:e<l.length:=jO;obtain⟨r,hr⟩:∃r,l[e]? =some r:=⟨_,aL tO⟩;have hr2:(l.take m)[e]? =some r:=by rw[aja,aF jO];exact hr
    obtain⟨g,u,rfl,hg,Jg,hu,y0,y1⟩:=HRm.out.cell hr2;have hmc:m<=vc:=(Lh (a:=some ⟨g,0,none⟩) (n:=m) (by have h:=HRm.out.row;rw[abg,Nat.min_eq_left hm] at h;exact h)).1
    have vY:Hid (l.take m=l.take e++[r]):=by show _=_;rw[show m=e+1 from jO];exact VJ hr
    have HST:Hid (strike d (l.take m)=if r.2=d then strike d (l.take e) else l.take m):=by show strike d (l.take m)=_;rw[vY.out];exact DN _ _
    have hem:e<=l.length/\e<m:=jO;have sl:=λW=>DO W g m vc e jO
    clear he hr hr2 hu;by_cases hd:r.2=d
    ·have wu:Hid (Yn a d rs=strike d (l.take e)):=by
      show _=_;rw[HOm.out,HST.out,aF hd]
     have Y:Hid (Yd w.heap.size wr (.slice (some ⟨g,0,none⟩) e vc) (l.take e) (us.take e)):=by have h:=HRm.out.take (m:=e) (by rw[abg];omega);rw[List.take_take,List.take_take,Nat.min_eq_left jO] at h;exact h
     rw[hd] at y1;clear hd HST vY;go_wp2_with fail;go_roundg m;case measure=>omega
     case rel=>exact⟨e,some ⟨g,0,none⟩,vc,rfl,hem.1,jO,Y,wu,HBm⟩
    ·have HE:Hid (Yn a d rs=l.take m):=by
      show _=_;rw[HOm.out,HST.out,aN hd]
     have hdz:((r.2:Int) == (d:Int))=false:=by rw[af];omega
     generalize r.2=rd at*;clear HST vY;go_wp2_with fail;go_ret;exact⟨_,us.take m,rfl,by rw[HE.out];exact HRm.out,by rw[HE.out,abg];omega,HBm.out⟩
end Go.Proofs.YtclgigmgbebhgaaGreatDoor
namespace Go.Proofs.YtclgigmgbebhgaaGreatDoor
open Tryz
open Go Go.Proofs Go.RowKit Go.Shelf Go.Sort
theorem yQ(x:Int)(w:World):Calls prog 98 #[.int .u32 x] w λe w'=>e=.returned (.bool false)/\w'=w:=by
 go_enter func98,ntmps98;go_wp2_with fail;go_ret;exact⟨jS,rfl⟩
theorem DM(x y:Int)(w:World):Calls prog 44 #[.int .u32 x,.int .u32 y] w λe w'=>e=.returned (.int .i64 (WI x y))/\w'=w:=by
 generalize hS:WI x y=S;have C:=aT hS;clear hS;go_enter func44,ntmps44;go_wp2_with fail;refine(yQ _ _).mono ?_;rintro e D ⟨rfl,rfl⟩;go_wp2_with fail;refine(yQ _ _).mono ?_;rintro e D ⟨rfl,rfl⟩;by_cases J:x<y;·go_wp2_with fail;go_ret;exact⟨Oy (by rw[<-C.out];unfold WI;split<;>(try split)<;>omega),rfl⟩
 ·by_cases I:y<x;·go_wp2_with fail;go_ret;exact⟨Oy (by rw[<-C.out];unfold WI;split<;>(try split)<;>omega),rfl⟩
  ·go_wp2_with fail;go_ret;exact⟨Oy (by rw[<-C.out];unfold WI;split<;>(try split)<;>omega),rfl⟩
abbrev Ob:Nat:=123
structure Lx where
 (n:Nat)
 (a:Option Addr)
 (m c:Nat)
 rs:List Z3
 us:List Value
instance:Inhabited Lx:=⟨⟨0,none,0,0,[],[]⟩⟩
def Jb(x:Lx):List Value:=[.int .u32 x.n,.slice x.a x.m x.c]
def encS(x:Nat×Nat):List Value:=[.int .u32 x.1,.int .u32 x.2]
theorem au5(x y:Lx)(W:World):Calls prog 43 #[.agg #[.int .u32 x.n,.slice x.a x.m x.c],.agg #[.int .u32 y.n,.slice y.a y.m y.c]] W λe w'=>e=.returned (.int .i64 (WI (x.n:Int) (y.n:Int)))/\∃q C,w'=grow (W.drewN q) C:=by
 go_enter func43,ntmps43;go_wp2_with fail;refine(DM _ _ _).mono ?_;rintro e D ⟨rfl,rfl⟩;go_wp2_with fail;go_ret;exact⟨rfl,0,_,by rw[Go.Sort.alloc_eq_grow,Go.Sort.alloc_eq_grow,Go.Sort.grow_grow];rfl⟩
theorem au6(x y:Nat×Nat)(W:World):Calls prog 46 #[.agg #[.int .u32 x.1,.int .u32 x.2],.agg #[.int .u32 y.1,.int .u32 y.2]] W λe w'=>e=.returned (.int .i64 (WI (x.1:Int) (y.1:Int)))/\∃q C,w'=grow (W.drewN q) C:=by
 go_enter func46,ntmps46;go_wp2_with fail;refine(DM _ _ _).mono ?_;rintro e D ⟨rfl,rfl⟩;go_wp2_with fail;go_ret;exact⟨rfl,0,_,by rw[Go.Sort.alloc_eq_grow,Go.Sort.alloc_eq_grow,Go.Sort.grow_grow];rfl⟩
theorem ltZ{α:Type}(f:α->Nat)(x y:α):ltOf (λx y:α=>WI (f x:Int) (f y:Int)) x y=decide (f x<f y):=by
 unfold ltOf WI;by_cases h:f x<f y;·simp[h]
 ·have C:¬(f x:Int)<(f y:Int):=by omega
  simp only[aN C,h];split<;>simp
theorem ah5{α:Type}(f:α->Nat):SWO (ltOf λx y:α=>WI (f x:Int) (f y:Int)) where
 irrefl x:=by rw[ltZ];simp
 trans x y z h1 h2:=by rw[ltZ] at*;simp at*;omega
 ntrans x y z h1 h2:=by rw[ltZ] at*;simp at*;omega
theorem vX{base n:Nat}{v:Value}{l:List Lx}(w:World)(hl:l.length=n)(hn:n<=1000000)(C:w.ownsRow base Oj 2 v n (l.flatMap Jb)):
 Calls prog 42 #[v,.func (.func 43) #[] #[]] w λe w'=>e=.returned (.tuple #[])/\∃d':List Lx,d'.Perm l/\d'.Pairwise (λa b=>a.n<=b.n)/\w'.ownsRow base Oj 2 v n (d'.flatMap Jb)/\RowKit.Below base w w'/\w.heap.size<=w'.heap.size/\∀j o,w.heap[j]? =some o->v.ownBlock≠some j->w'.heap[j]? =some o:=by
 have h:=Ol Tryz.xg 2 (λ_=>jK) (λ_=>jK) Jb (λ_=>rfl) (λx v hv=>by unfold Jb at hv;simp at hv;rcases hv with rfl|rfl<;>rfl) (λx y=>WI (x.n:Int) (y.n:Int)) (ah5 Lx.n) 43 #[] (enters_of func43 jK rfl) (λx y W=>au5 x y W) w hl C hn
 refine h.mono ?_;rintro e w' ⟨rfl,d',T,I,J⟩;refine⟨rfl,d',T,I.imp (λ{a b} D=> ?_),J⟩;rw[ltZ Lx.n] at D;simpa using D
theorem vW{base n:Nat}{v:Value}{l:List (Nat×Nat)}(w:World)(hl:l.length=n)(hn:n<=1000000)(C:w.ownsRow base Ob 2 v n (l.flatMap encS)):
 Calls prog 45 #[v,.func (.func 46) #[] #[]] w λe w'=>e=.returned (.tuple #[])/\∃d':List (Nat×Nat),d'.Perm l/\d'.Pairwise (λa b=>a.1<=b.1)/\w'.ownsRow base Ob 2 v n (d'.flatMap encS)/\RowKit.Below base w w'/\w.heap.size<=w'.heap.size/\∀j o,w.heap[j]? =some o->v.ownBlock≠some j->w'.heap[j]? =some o:=by
 have h:=Ol Tryz.lW 2 (λ_=>jK) (λ_=>jK) encS (λ_=>rfl) (λx v hv=>by unfold encS at hv;simp at hv;rcases hv with rfl|rfl<;>rfl) (λx y=>WI (x.1:Int) (y.1:Int)) (ah5 Prod.fst) 46 #[] (enters_of func46 jK rfl) (λx y W=>au6 x y W) w hl C hn
 refine h.mono ?_;rintro e w' ⟨rfl,d',T,I,J⟩;refine⟨rfl,d',T,I.imp (λ{a b} D=> ?_),J⟩;rw[ltZ Prod.fst] at D;simpa using D
end Go.Proofs.YtclgigmgbebhgaaGreatDoor
namespace Go.Proofs.YtclgigmgbebhgaaGreatDoor.Z4
open Tryz
open Go Go.Proofs Go.RowKit
variable {off j:Nat} {W W':World}
structure Z1 where
 name:ByteArray
 n0:Int
 n1:Int
 n2:Int
 n3:Int
 n4:Int
 Yp:Int
 sub:Int
def Z1.zero:Z1:=⟨⟨#[]⟩,0,0,0,0,0,0,0⟩
instance:Inhabited Z1:=⟨Z1.zero⟩
def Z1.cells(r:Z1):List Value:=[.string r.name,.int .i64 r.n0,.int .i64 r.n1,.int .i64 r.n2,.int .i64 r.n3,.int .i64 r.n4,.int .i64 r.Yp,.int .i64 r.sub]
def Tf(W:World)(b off:Nat)(l:List Z1):Prop:=∀j,j<l.length->∀i v,(l[j]!).cells[i]? =some v->W.cell? ⟨b,off+j*8+i,none⟩=some v
def Xv(W:World)(sv:Value)(l:List Z1):Prop:=
 ∃a c,sv=.slice a l.length c/\(l=[]\/∃b off,a=some ⟨b,off,none⟩/\b<W.heap.size/\Tf W b off l)
theorem Tf.below {b:Nat}{l:List Z1}(h:Tf W b off l)(hb:Below W.heap.size W W')(C:b<W.heap.size):Tf W' b off l:=
 λj D i v hv=>(hb.cell (p:=⟨b,off+j*8+i,none⟩) C).trans (h j D i v hv)
theorem Xv.below {sv:Value}{l:List Z1}(h:Xv W sv l)(hb:Below W.heap.size W W'):Xv W' sv l:=by
 obtain⟨a,c,rfl,h⟩:=h;refine⟨a,c,rfl,?_⟩;rcases h with h|⟨b,off,rfl,C,hr⟩;·exact .inl h
 ·exact .inr ⟨b,off,rfl,adg C hb.size,hr.below hb C⟩
def firstIdx(p:Z1->Bool):List Z1->Int
 |[]=>-1
 |x::r=>if p x=true then 0 else if firstIdx p r<0 then -1 else firstIdx p r+1
theorem Te(p:Z1->Bool):∀(l:List Z1) (k:Nat),k<l.length->(∀j,j<k->p l[j]! =false)->p l[k]! =true->firstIdx p l=k
 |[],k,h,_,_=>by simp at h
 |x::r,0,_,_,h=>by simp at h;simp[firstIdx,h]
 |x::r,k+1,hk,hm,h=>by
  have D:p x=false:=by simpa using hm 0 jO
  have C:=Te p r k (by simpa using hk) (λj I=>by simpa using hm (j+1) jO) (by simpa using h);simp[firstIdx,D,C];omega
theorem Po(p:Z1->Bool):∀(l:List Z1),(∀j,j<l.length->p l[j]! =false)->firstIdx p l= -1
 |[],_=>rfl
 |x::r,hm=>by
  have D:p x=false:=by simpa using hm 0 jS
  have I:=Po p r (λj C=>by simpa using hm (j+1) (by simpa using C));simp[firstIdx,D,I]
theorem Rj(p:Z1->Bool):∀(l:List Z1),firstIdx p l= -1\/(0<=firstIdx p l/\firstIdx p l<l.length)
 |[]=>.inl rfl
 |x::r=>by
  have C:=Rj p r;simp only[firstIdx,ai];split;·right;omega
  ·split;·left;rfl
   ·right;omega
theorem Tf.rH {b:Nat}{l:List Z1}(h:Tf W b off l) (C:j<l.length):W.cell? ⟨b,off+j*8,none⟩=some (.string (l[j]!).name):=by
 have:=h j C 0 _ rfl;simpa using this
theorem Oa(a b:ByteArray)(w:World):
 Calls prog 145 #[.string a,.string b] w λe w'=>e=.returned (.int .i64 (Lib.compareBytes a.data.toList b.data.toList))/\w=w':=by
 go_enter func145,ntmps145;go_wp2;rw[run_callFunc_extern func224 jK jK jK (e:=Extern.BytealgCompare.compare) jK,Lib.run_compareString];simp only[Result.andThen];rw[Oper.upon_value];go_wp2;go_ret;exact⟨rfl,rfl⟩
theorem DK(a b:ByteArray)(w:World):
 Calls prog 95 #[.string a,.string b] w λe w'=>e=.returned (.int .i64 (Lib.compareBytes a.data.toList b.data.toList))/\w=w':=by
 go_enter func95,ntmps95
 go_wp2_with (go_at_call 145;refine(Oa _ _ _).mono ?_;rintro e w' ⟨rfl,rfl⟩)
 go_ret;exact⟨rfl,rfl⟩
def U7(t:ByteArray)(r:Z1):Int:=Lib.compareBytes r.name.data.toList t.data.toList
theorem Ik(t:ByteArray)(r:Z1)(w:World):
 Calls prog 94 #[.agg #[.string r.name,.int .i64 r.n0,.int .i64 r.n1,.int .i64 r.n2,.int .i64 r.n3,.int .i64 r.n4,.int .i64 r.Yp,.int .i64 r.sub],.string t] w
  λe w'=>e=.returned (.int .i64 (U7 t r))/\Below w.heap.size w w':=by
 go_enter func94,ntmps94
 go_wp2_with (go_at_call 95;refine(DK _ _ _).mono ?_;rintro e w' ⟨rfl,rfl⟩)
 go_ret;exact⟨rfl,(aG _ w).alloc (aR _) _⟩
def yP(t:ByteArray)(l:List Z1)(i:Nat):Prop:=
 i<=l.length/\(∀k,k<i->U7 t l[k]! <0)/\(∀k,i<=k->k<l.length->0<=U7 t l[k]!)
def TI(t:ByteArray)(l:List Z1)(i:Nat):Bool:=decide (i<l.length)&&U7 t l[i]! == 0
def rG(t:ByteArray)(l:List Z1)(w:World)(e:Ending)(w':World):Prop:=
 ∃i:Nat,yP t l i/\e=.returned (.tuple #[.int .i64 i,.bool (TI t l i)])/\Below w.heap.size w w'
theorem ah6(t:ByteArray)(b off c:Nat)(zs:List Z1)(w:World)(KH:zs.length<=1000000)(hb:b<w.heap.size)(hc:Tf w b off zs)
 (U:∀x y,x<=y->y<zs.length->U7 t zs[y]! <0->U7 t zs[x]! <0):
 Calls prog 93 #[.slice (some ⟨b,off,none⟩) zs.length c,.string t,.func (.func 94) #[] #[]] w (rG t zs w):=by
 have Hc:=aT hc;have Hm:=aT U;clear hc U;obtain⟨n,hn⟩:=jX zs.length;rw[hn] at KH ⊢;have Y:=aT hn;clear hn;go_enter func93,ntmps93;go_wp2;go_loopg [9,10] n (λgg s9 s10 wr=>∃i j:Nat,i<=j/\j<=n/\j-i<=gg/\s9=.int .i64 i/\s10=.int .i64 j/\Hid (Below w.heap.size w wr)/\Hid (∀k,k<i->U7 t zs[k]! <0)/\Hid (∀k,j<=k->k<n->0<=U7 t zs[k]!));case atStart=>exact⟨0,n,abd _,aR _,jO,rfl,rfl,aG _ w,λj hj=>absurd hj (akf _),λk h1 h2=>absurd h1 jO⟩
 case round=>
  obtain⟨i,j,cA,hjn,hg,rfl,rfl,Z,L,R⟩:=hrel;by_cases hlt:i<j
  ·have Zd:(i:Int)<(j:Int):=by omega
   have I:=(Hc.below Z hb) ((i+j)/2) (by rw[Y.out];omega);have c0:=I 0 _ rfl;have c1:=I 1 _ rfl;have c2:=I 2 _ rfl;have c3:=I 3 _ rfl;have c4:=I 4 _ rfl;have c5:=I 5 _ rfl;have c6:=I 6 _ rfl;have c7:=I 7 _ rfl;simp only[aec] at c0;clear I;have C:=Ik t zs[(i+j)/2]! wr;generalize hy:zs[(i+j)/2]! =y at C c0 c1 c2 c3 c4 c5 c6 c7;have Hy:=aT hy;clear hy;generalize hv:U7 t y=v at C;have Hv:=aT hv;clear hv;have D:=aT C;clear C;by_cases J:v<0
   ·have ah7:decide (v<0)=true:=by simpa using J
    go_wp2_with fail;refine D.mono ?_;rintro e w' ⟨rfl,T⟩;go_wp2;go_roundg (j-((i+j)/2+1));case measure=>omega
    case rel=>
     refine⟨(i+j)/2+1,j,jO,hjn,jO,by congr 1,rfl,Z.trans (T.mono Z.size),(show Hid _ from λk hk=> ?_),R⟩;exact Hm k ((i+j)/2) jO (by rw[Y.out];omega) (by rw[Hy.out,Hv.out];exact J)
   ·have ah7:decide (v<0)=false:=by simpa using J
    go_wp2_with fail;refine D.mono ?_;rintro e w' ⟨rfl,T⟩;go_wp2;go_roundg ((i+j)/2-i);case measure=>omega
    case rel=>
     refine⟨i,(i+j)/2,jO,jO,jO,rfl,by congr 1,Z.trans (T.mono Z.size),L,(show Hid _ from λk hk ly=> ?_)⟩;refine Int.not_lt.1 (λRo=> ?_);have:=Hm ((i+j)/2) k hk (by rw[Y.out];exact ly) Ro;rw[Hy.out,Hv.out] at this;omega
  ·obtain rfl:i=j:=by omega
   have hji:¬(i:Int)<(i:Int):=jO;by_cases N9:i<n
   ·have au7:(i:Int)<(n:Int):=by omega
    have I:=(Hc.below Z hb) i (by rw[Y.out];omega);have c0:=I 0 _ rfl;have c1:=I 1 _ rfl;have c2:=I 2 _ rfl;have c3:=I 3 _ rfl;have c4:=I 4 _ rfl;have c5:=I 5 _ rfl;have c6:=I 6 _ rfl;have c7:=I 7 _ rfl;simp only[aec] at c0;clear I;have C:=Ik t zs[i]! wr;generalize hy:zs[i]! =y at C c0 c1 c2 c3 c4 c5 c6 c7;have Hy:=aT hy;clear hy;generalize hv:U7 t y=v at C;have Hv:=aT hv;clear hv;have D:=aT C;clear C;go_wp2_with fail;refine D.mono ?_;rintro e w' ⟨rfl,T⟩;go_wp2;go_ret2;refine⟨i,⟨by rw[Y.out];omega,L,λk h1 h2=>R k h1 (by rw[Y.out] at h2;exact h2)⟩,?_,Z.trans (T.mono Z.size)⟩;have e:TI t zs i=(v == 0):=by unfold TI;rw[Y.out,Hy.out,Hv.out];simp[N9]
    rw[e];rfl
   ·have au7:¬(i:Int)<(n:Int):=by omega
    go_wp2;go_ret2;refine⟨i,⟨by rw[Y.out];omega,L,λk h1 h2=>R k h1 (by rw[Y.out] at h2;exact h2)⟩,?_,Z⟩;have e:TI t zs i=false:=by unfold TI;rw[Y.out];simp[N9]
    rw[e];rfl
theorem cy(t:ByteArray)(sv:Value)(zs:List Z1)(w:World)(D:zs.length<=1000000)(U:Xv w sv zs)
 (C:∀x y,x<=y->y<zs.length->U7 t zs[y]! <0->U7 t zs[x]! <0):
 Calls prog 93 #[sv,.string t,.func (.func 94) #[] #[]] w (rG t zs w):=by
 obtain⟨a,c,rfl,h⟩:=U;rcases h with rfl|⟨b,off,rfl,J,hr⟩
 ·clear C D;go_enter func93,ntmps93;go_wp2
  go_loop [9,10] (λT I=>T=.int .i64 0/\I=.int .i64 0) (λ_ _=>0)
  case atStart=>exact⟨rfl,rfl⟩
  case round=>
   obtain⟨rfl,rfl⟩:=hrel;go_wp2;go_ret2;exact⟨0,⟨aR _,λk hk=>absurd hk (akf _),λk _ hk=>absurd hk jS⟩,rfl,aG _ _⟩
 ·exact ah6 t b off c zs w D J hr C
def Z1.val(r:Z1):Value:=.agg #[.string r.name,.int .i64 r.n0,.int .i64 r.n1,.int .i64 r.n2,.int .i64 r.n3,.int .i64 r.n4,.int .i64 r.Yp,.int .i64 r.sub]
def rF(t:ByteArray)(l:List Z1)(w:World)(e:Ending)(w':World):Prop:=
 ∃i:Nat,yP t l i/\Below w.heap.size w w'/\
  ((TI t l i=true/\e=.returned (.tuple #[(l[i]!).val,.int .i64 i,.bool true]))\/(TI t l i=false/\e=.returned (.tuple #[Z1.zero.val,.int .i64 0,.bool false])))
theorem rE(t:ByteArray)(sv:Value)(l:List Z1)(w:World)(U:l.length<=1000000)(I:Xv w sv l)
 (J:∀x y,x<=y->y<l.length->U7 t l[y]! <0->U7 t l[x]! <0):
 Calls prog 41 #[sv,.string t] w (rF t l w):=by
 have hz:=(aG w.heap.size w).alloc (aR _) (.cells #[.string ⟨#[]⟩,.int .i64 0,.int .i64 0,.int .i64 0,.int .i64 0,.int .i64 0,.int .i64 0,.int .i64 0] 40);have hR0:=I.below hz;have hbs:=cy t sv l _ U hR0 J;obtain⟨a,c,rfl,h⟩:=hR0;have Hbs:=aT hbs;have Hh:=aT h;clear hbs I h J;go_enter func41,ntmps41;go_wp2_with fail;refine Hbs.mono ?_;rintro e w1 ⟨i,hA,rfl,Y⟩;have C:=(Z7.new w 40 #[.string ⟨#[]⟩,.int .i64 0,.int .i64 0,.int .i64 0,.int .i64 0,.int .i64 0,.int .i64 0,.int .i64 0]).below Y jS;have Cn:Below w.heap.size w w1:=hz.trans (Y.mono jS);have HA:=aT hA;clear hA;cases Z:TI t l i with
 |false=>
  have Hq:=aT Z;clear Z;have z0:=C.frozen 0;have z1:=C.frozen 1;have z2:=C.frozen 2;have z3:=C.frozen 3;have z4:=C.frozen 4;have z5:=C.frozen 5;have z6:=C.frozen 6;have z7:=C.frozen 7;have y0:=C.cell 0;have y1:=C.cell 1;have y2:=C.cell 2;have y3:=C.cell 3;have y4:=C.cell 4;have y5:=C.cell 5;have y6:=C.cell 6;have y7:=C.cell 7;simp only[au,aM,aH] at y0 y1 y2 y3 y4 y5 y6 y7;go_wp2;have D:=((((((((C.set 0 (.string ⟨#[]⟩)).set 1 (.int .i64 0)).set 2 (.int .i64 0)).set 3 (.int .i64 0)).set 4 (.int .i64 0)).set 5 (.int .i64 0)).set 6 (.int .i64 0)).set 7 (.int .i64 0));have d0:=D.cell 0;have d1:=D.cell 1;have d2:=D.cell 2;have d3:=D.cell 3;have d4:=D.cell 4;have d5:=D.cell 5;have d6:=D.cell 6;have d7:=D.cell 7;simp at d0 d1 d2 d3 d4 d5 d6 d7;refine aaf (v:=.tuple #[.agg #[.string ⟨#[]⟩,.int .i64 0,.int .i64 0,.int .i64 0,.int .i64 0,.int .i64 0,.int .i64 0,.int .i64 0],.int .i64 0,.bool false]) (by simp[results,Tryz.results41,go_sem,d0,d1,d2,d3,d4,d5,d6,d7]) rfl ⟨i,HA,((((((((Cn.setCell (p:=⟨w.heap.size,0,none⟩) jS _).setCell (p:=⟨w.heap.size,1,none⟩) jS _).setCell (p:=⟨w.heap.size,2,none⟩) jS _).setCell (p:=⟨w.heap.size,3,none⟩) jS _).setCell (p:=⟨w.heap.size,4,none⟩) jS _).setCell (p:=⟨w.heap.size,5,none⟩) jS _).setCell (p:=⟨w.heap.size,6,none⟩) jS _).setCell (p:=⟨w.heap.size,7,none⟩) jS _),.inr ⟨Hq,rfl⟩⟩
 |true=>
  have T:i<l.length:=by unfold TI at Z;simp at Z;exact Z.1
  obtain⟨b,off,rfl,hlt,hr⟩:∃b off,a=some ⟨b,off,none⟩/\b<(w.alloc (.cells #[.string ⟨#[]⟩,.int .i64 0,.int .i64 0,.int .i64 0,.int .i64 0,.int .i64 0,.int .i64 0,.int .i64 0] 40)).heap.size/\Tf (w.alloc (.cells #[.string ⟨#[]⟩,.int .i64 0,.int .i64 0,.int .i64 0,.int .i64 0,.int .i64 0,.int .i64 0,.int .i64 0] 40)) b off l:=by
   rcases Hh.out with h|h;·rw[h] at T;simp at T
   ·exact h
  have I:=hr.below Y hlt i T;have Hq:=aT Z;have c0:=I 0 _ rfl;have c1:=I 1 _ rfl;have c2:=I 2 _ rfl;have c3:=I 3 _ rfl;have c4:=I 4 _ rfl;have c5:=I 5 _ rfl;have c6:=I 6 _ rfl;have c7:=I 7 _ rfl;simp only[aec] at c0;clear I hr Z Hh;generalize hy:l[i]! =y at c0 c1 c2 c3 c4 c5 c6 c7;have Hy:=aT hy;clear hy;have h0i:=jZ i;have hiz:(i:Int)<(l.length:Int):=jO;generalize hn:l.length=n at T hiz U ⊢;have Hn:=aT hn;clear hn;have z0:=C.frozen 0;have z1:=C.frozen 1;have z2:=C.frozen 2;have z3:=C.frozen 3;have z4:=C.frozen 4;have z5:=C.frozen 5;have z6:=C.frozen 6;have z7:=C.frozen 7;have y0:=C.cell 0;have y1:=C.cell 1;have y2:=C.cell 2;have y3:=C.cell 3;have y4:=C.cell 4;have y5:=C.cell 5;have y6:=C.cell 6;have y7:=C.cell 7;simp only[au,aM,aH] at y0 y1 y2 y3 y4 y5 y6 y7;go_wp2;have D:=((((((((C.set 0 (.string y.name)).set 1 (.int .i64 y.n0)).set 2 (.int .i64 y.n1)).set 3 (.int .i64 y.n2)).set 4 (.int .i64 y.n3)).set 5 (.int .i64 y.n4)).set 6 (.int .i64 y.Yp)).set 7 (.int .i64 y.sub));have d0:=D.cell 0;have d1:=D.cell 1;have d2:=D.cell 2;have d3:=D.cell 3;have d4:=D.cell 4;have d5:=D.cell 5;have d6:=D.cell 6;have d7:=D.cell 7;simp at d0 d1 d2 d3 d4 d5 d6 d7;refine aaf (v:=.tuple #[.agg #[.string y.name,.int .i64 y.n0,.int .i64 y.n1,.int .i64 y.n2,.int .i64 y.n3,.int .i64 y.n4,.int .i64 y.Yp,.int .i64 y.sub],.int .i64 i,.bool true]) (by simp[results,Tryz.results41,go_sem,d0,d1,d2,d3,d4,d5,d6,d7]) rfl ⟨i,HA,((((((((Cn.setCell (p:=⟨w.heap.size,0,none⟩) jS _).setCell (p:=⟨w.heap.size,1,none⟩) jS _).setCell (p:=⟨w.heap.size,2,none⟩) jS _).setCell (p:=⟨w.heap.size,3,none⟩) jS _).setCell (p:=⟨w.heap.size,4,none⟩) jS _).setCell (p:=⟨w.heap.size,5,none⟩) jS _).setCell (p:=⟨w.heap.size,6,none⟩) jS _).setCell (p:=⟨w.heap.size,7,none⟩) jS _),.inl ⟨Hq,by rw[Hy.out];rfl⟩⟩
def Z1.num(r:Z1)(a:Nat):Int:=match a with
 |0=>r.n0|1=>r.n1|2=>r.n2|3=>r.n3|_=>r.n4
def numOf(l:List Z1)(a i:Nat):Int:=if (l[i]!).num a= -1 then -1-(i:Int) else(l[i]!).num a
def UO(t:ByteArray)(r:Z1):Bool:=r.name.toList == t.toList
def OV(q:Nat->Bool):Nat->Nat->Int
 |_,0=>-1
 |i,f+1=>if q i=true then(i:Int) else OV q (i+1) f
def cw(n:Nat):Prop:=(97<=n/\n<=122)\/(48<=n/\n<=57)\/n=95
def YC(s:ByteArray):Prop:=
 s.size<=30/\(∃h:0<s.size,97<=(s[0]'h).toNat/\(s[0]'h).toNat<=122)/\¬s.toList=[100,101,102,97,117,108,116]/\¬s.toList=[120,51,50]/\∀j (h:j<s.size),cw (s[j]'h).toNat
def Nx(x:Int):Prop:=-1<=x/\x<=1073741823
def Pn(r:Z1):Prop:=0<=r.Yp/\r.Yp<=2/\(r.Yp=0->r.sub=0)/\(0<r.Yp->1<=r.sub/\r.sub<=255)
def Pm(r:Z1):Prop:=(∀a,a<5->Nx (r.num a))/\Pn r
def Sb(r:Z1):Prop:=r.n2=102\/r.n2=117
def N8(x r:Z1):Prop:=(∃a,a<5/\0<=r.num a/\x.num a=r.num a)\/(0<r.Yp/\x.Yp=r.Yp/\x.sub=r.sub)
def Td(l:List Z1)(i:Nat):Prop:=0<i/\Op.bytesLess (l[i-1]!).name.toList (l[i]!).name.toList=false
def WZ(l:List Z1)(i:Nat)(v:Int):Prop:=
 (v=13/\¬YC (l[i]!).name)\/
 (YC (l[i]!).name/\
   ((v=15/\Td l i)\/
    (¬Td l i/\
      ((v=16/\¬Pm l[i]!)\/
       (Pm l[i]! /\
         ((v=17/\Sb l[i]!)\/
          (¬Sb l[i]! /\
            ((v=15/\∃k,k<i/\N8 l[k]! l[i]!)\/(v=0/\∀k,k<i->¬N8 l[k]! l[i]!)))))))))
def Br(n:Nat)(l:List Z1)(a e:Int):Prop:=
 (400<n/\a=0/\e=3)\/
 (n<=400/\
   ((∃i:Nat,i<n/\a=i/\e≠0/\WZ l i e/\∀j,j<i->WZ l j 0)\/
    (a=0/\e=0/\∀j,j<n->WZ l j 0)))
def Ko(n:Nat)(l:List Z1)(w:World)(e:Ending)(w':World):Prop:=
 ∃a v:Int,e=.returned (.tuple #[.int .i64 a,.int .i64 v])/\Br n l a v/\Below w.heap.size w w'
def Ij(l:List Z1)(w:World)(e:Ending)(w':World):Prop:=Ko l.length l w e w'
theorem rD{a b:UInt8}(C:¬a<b)(D:¬b<a):a=b:=by
 rw[ata] at C D;exact UInt8.toNat_inj.1 jO
theorem ah8{a b:UInt8}(h:a<b):(a == b)=false:=by
 rw[ata] at h;simp only[af,ne_eq];intro e;subst e;omega
theorem Bq{a b:UInt8}(h:b<a):(a == b)=false:=by
 rw[ata] at h;simp only[af,ne_eq];intro e;subst e;omega
theorem DJ{a b:UInt8}(h:a<b):¬b<a:=by
 rw[ata] at h ⊢;omega
theorem rB:∀a b:List UInt8,Lib.compareBytes a b<0↔Op.bytesLess a b=true
 |[],[]=>by simp[Lib.compareBytes,Op.bytesLess]
 |[],_::_=>by simp[Lib.compareBytes,Op.bytesLess]
 |_::_,[]=>by simp[Lib.compareBytes,Op.bytesLess]
 |a::xs,b::ys=>by
  have I:=rB xs ys;simp only[Lib.compareBytes,Op.bytesLess];by_cases C:a<b;·simp[C]
  ·by_cases D:b<a;·simp[C,D,Bq D]
   ·obtain rfl:=rD C D;simp[C,I]
theorem rA:∀a b:List UInt8,0<Lib.compareBytes a b↔Op.bytesLess b a=true
 |[],[]=>by simp[Lib.compareBytes,Op.bytesLess]
 |[],_::_=>by simp[Lib.compareBytes,Op.bytesLess]
 |_::_,[]=>by simp[Lib.compareBytes,Op.bytesLess]
 |a::xs,b::ys=>by
  have I:=rA xs ys;simp only[Lib.compareBytes,Op.bytesLess];by_cases C:a<b;·simp[C,DJ C,Bq C]
  ·by_cases D:b<a;·simp[C,D]
   ·obtain rfl:=rD C D;simp[C,I]
theorem rz:∀a b:List UInt8,Lib.compareBytes a b=0↔a=b
 |[],[]=>by simp[Lib.compareBytes]
 |[],_::_=>by simp[Lib.compareBytes]
 |_::_,[]=>by simp[Lib.compareBytes]
 |a::xs,b::ys=>by
  have I:=rz xs ys;simp only[Lib.compareBytes];by_cases C:a<b;·have:=ah8 C;simp only[af,ne_eq] at this;simp[C,this]
  ·by_cases D:b<a;·have:=Bq D;simp only[af,ne_eq] at this;simp[C,D,this]
   ·obtain rfl:=rD C D;simp[I]
theorem Nc:∀a:List UInt8,Op.bytesLess a a=false
 |[]=>rfl
 |a::xs=>by
  have C:=Nc xs;have:¬a<a:=λh=>DJ h h
  simp[Op.bytesLess,C,this]
theorem N7:∀a b c:List UInt8,Op.bytesLess a b=true->Op.bytesLess b c=true->Op.bytesLess a c=true
 |_,_,[],_,h=>by simp[Op.bytesLess] at h
 |[],_,_::_,_,_=>rfl
 |_::_,[],_::_,h,_=>by simp[Op.bytesLess] at h
 |a::xs,b::ys,c::zs,D,C=>by
  simp only[Op.bytesLess,asg,adf,aef,ahc] at D C ⊢;rcases D with D|⟨rfl,D⟩
  ·rcases C with C|⟨rfl,C⟩
   ·left
    rw[ata] at D C ⊢;omega
   ·exact .inl D
  ·rcases C with C|⟨rfl,C⟩;·exact .inl C
   ·exact .inr ⟨rfl,N7 xs ys zs D C⟩
def ZA(l:List Z1):Prop:=∀j,j<l.length->WZ l j 0
theorem cu{l:List Z1} (h:WZ l j 0):YC (l[j]!).name/\¬Td l j/\Pm l[j]! /\¬Sb l[j]! /\∀k,k<j->¬N8 l[k]! l[j]! :=by
 rcases h with⟨h,_⟩|⟨n,⟨h,_⟩|⟨g,⟨h,_⟩|⟨r,⟨h,_⟩|⟨m,⟨h,_⟩|⟨_,c⟩⟩⟩⟩⟩;·omega
 ·omega
 ·omega
 ·omega
 ·omega
 ·exact⟨n,g,r,m,c⟩
theorem gG{l:List Z1}(h:ZA l)(j:Nat)(C:j+1<l.length):Op.bytesLess (l[j]!).name.toList (l[j+1]!).name.toList=true:=by
 have:=(cu (h (j+1) C)).2.1;cases e:Op.bytesLess (l[j]!).name.toList (l[j+1]!).name.toList with
 |true=>rfl
 |false=>exact absurd ⟨jO,by simpa using e⟩ this
theorem gF{l:List Z1}(h:ZA l)(i:Nat):∀d,i+d+1<l.length->Op.bytesLess (l[i]!).name.toList (l[i+d+1]!).name.toList=true
 |0,C=>gG h i C
 |d+1,C=>N7 _ _ _ (gF h i d jO) (gG h (i+d+1) C)
theorem lh{l:List Z1}(h:ZA l){i:Nat}(C:i<j)(D:j<l.length):Op.bytesLess (l[i]!).name.toList (l[j]!).name.toList=true:=by
 have:=gF h i (j-i-1) jO;rwa [show i+(j-i-1)+1=j from jO] at this
theorem lg(t:ByteArray)(r:Z1):U7 t r<0↔Op.bytesLess r.name.toList t.toList=true:=by
 unfold U7;rw[rB,aha,aha]
theorem yO(t:ByteArray)(r:Z1):0<U7 t r↔Op.bytesLess t.toList r.name.toList=true:=by
 unfold U7;rw[rA,aha,aha]
theorem Gd(t:ByteArray)(r:Z1):U7 t r=0↔UO t r=true:=by
 unfold U7 UO;rw[rz,aha,aha,ahc]
theorem lf{l:List Z1}(h:ZA l)(t:ByteArray):∀x y,x<=y->y<l.length->U7 t l[y]! <0->U7 t l[x]! <0:=by
 intro x y D hy C;by_cases e:x=y;·subst e;exact C
 ·rw[lg] at C ⊢;exact N7 _ _ _ (lh h jO hy) C
theorem Kn{l:List Z1}{t:ByteArray}{i:Nat}(hA:yP t l i)(C:TI t l i=true):firstIdx (UO t) l=i:=by
 unfold TI at C;simp only[aef,adf,ahc] at C;refine Te _ l i C.1 (λj D=> ?_) ((Gd _ _).1 C.2);have:=hA.2.1 j D;cases e:UO t l[j]! with
 |false=>rfl
 |true=>rw[(Gd _ _).2 e] at this;omega
theorem Nb{l:List Z1}(h:ZA l){t:ByteArray}{i:Nat}(hA:yP t l i)(J:TI t l i=false):firstIdx (UO t) l= -1:=by
 refine Po _ l (λj Y=> ?_);cases e:UO t l[j]! with
 |false=>rfl
 |true=>
  exfalso;have e0:=(Gd _ _).2 e;by_cases D:j<i;·have:=hA.2.1 j D;omega
  ·have hi:i<l.length:=by omega
   have Z:=hA.2.2 i (aR _) hi;have I:U7 t l[i]! ≠0:=λe1=>by unfold TI at J;rw[e1,acb hi] at J;simp at J
   by_cases C:j=i;·subst C;exact I e0
   ·have U:=(yO t l[i]!).1 jO;have T:=N7 _ _ _ U (lh h (i:=i) (j:=j) jO Y);have:=(yO t l[j]!).2 T;omega
def Lg(t:ByteArray)(l:List Z1):Value:=
 if firstIdx (UO t) l<0 then .tuple #[Z1.zero.val,.int .i64 0,.bool false] else .tuple #[(l[(firstIdx (UO t) l).toNat]!).val,.int .i64 (firstIdx (UO t) l),.bool true]
theorem find_ok(t:ByteArray)(sv:Value)(l:List Z1)(w:World)(C:l.length<=1000000)(T:Xv w sv l)(I:ZA l):
 Calls prog 41 #[sv,.string t] w λe w'=>e=.returned (Lg t l)/\Below w.heap.size w w':=by
 refine(rE t sv l w C T (lf I t)).mono ?_;rintro e w' ⟨i,hA,J,⟨D,rfl⟩|⟨D,rfl⟩⟩;·refine⟨?_,J⟩;unfold Lg;rw[Kn hA D,aN jO];simp
 ·refine⟨?_,J⟩;unfold Lg;rw[Nb I hA D,aF jO]
theorem least(q:Nat->Bool):∀n,(∀j,j<n->q j=false)\/∃k,k<n/\q k=true/\∀j,j<k->q j=false
 |0=>.inl (λj C=>absurd C (akf j))
 |n+1=>by
  rcases least q n with h|⟨k,hk,I,D⟩
  ·cases e:q n with
   |true=>exact .inr ⟨n,jO,e,h⟩
   |false=>
    refine .inl (λj C=> ?_);by_cases J:j=n;·subst J;exact e
    ·exact h j jO
  ·exact .inr ⟨k,jO,I,D⟩
end Go.Proofs.YtclgigmgbebhgaaGreatDoor.Z4
namespace Go.Proofs.YtclgigmgbebhgaaGreatDoor
open Tryz
open Go Go.Proofs Go.RowKit Go.Maps Go.WideMaps Go.ChangeMaps Go.Sort Go.Shelf
variable {ks:List Int} {W:World}
open Go.WideElems (Fit rd rg pl rd_key rd_val rg_of)
def Rc:Value->Option (DataW Unit×List MemPlace):=λ_=>some (.lit (.bool true),[])
theorem Zz.owns{P:Program}{k:TypeId} {B:Nat}{S:List (Value×Value)}(h:Zz W B S)(hS:∀p∈S,∃l,keyOf P k p.1=some l)(hl:S.length<=maxLen):∃D:List (Lit×DataW Unit),W.ownsMap P k Rc B S.length (.map D)/\D.Perm (S.map λp=>((keyOf P k p.1).getD (.bool false),.lit (.bool true))):=by
 obtain⟨es,clock,hb,C,I⟩:=h;have hlen:es.size=S.length:=by rw[<-C,aab,ane]
 have hF:Fit P k Rc es clock:=⟨jO,I,λx hx=>by obtain⟨l,hl⟩:=hS (x.key,x.val) (by rw[<-C];exact ah.2 ⟨x,hx,rfl⟩);exact⟨(l,.lit (.bool true)),by unfold WideElems.rd;rw[hl];rfl⟩⟩
 refine⟨_,⟨es,clock,hb,hF,jO,rfl⟩,?_⟩;refine(Go.WideShapes.sorted_perm _).trans ?_;rw[<-C,akd];refine List.Perm.of_eq (asb λx hx=> ?_);obtain⟨l,hl⟩:=hS (x.key,x.val) (by rw[<-C];exact ah.2 ⟨x,hx,rfl⟩);have e:WideElems.rd P k Rc x=some (l,.lit (.bool true)):=by unfold WideElems.rd;rw[show keyOf P k x.key=some l from hl];rfl
 rw[rg_of e];show _=((keyOf P k x.key).getD (.bool false),_);rw[show keyOf P k x.key=some l from hl];rfl
theorem ah9{n:Int}(h:(Lit.int .i64 n).wf=true):keyOf prog 3 (.int .i64 n)=some (.int .i64 n):=keyOf_int_mk underlying3 h
theorem vV {B:Nat}{S:List (Value×Value)} (h:Zz W B S)(hk:S.map (·.1)=ks.map encZ)(hw:∀n∈ks,(Lit.int .i64 n).wf=true)(hl:ks.length<=1000000):∃D:DataW Unit,W.ownsMap prog 3 Rc B ks.length D/\(intKeys D).Perm ks/\Maps.size D=ks.length:=by
 have hlen:S.length=ks.length:=by have:=ax List.length hk;simpa using this
 have hS:∀p∈S,∃n∈ks,p.1=encZ n:=λp hp=>by
  have:p.1∈ks.map encZ:=by rw[<-hk];exact ah.2 ⟨p,hp,rfl⟩
  obtain⟨n,hn,e⟩:=ah.1 this;exact⟨n,hn,e.symm⟩
 obtain⟨D,I,C⟩:=h.owns (P:=prog) (k:=3) (λp hp=>by obtain⟨n,hn,e⟩:=hS p hp;exact⟨_,by rw[e];exact ah9 (hw n hn)⟩) (by unfold maxLen;omega)
 rw[hlen] at I;refine⟨.map D,I,?_,?_⟩
 ·show(D.map λp=>Go.intOf p.1).Perm ks;refine(C.map _).trans (List.Perm.of_eq ?_);rw[akd]
  have e:∀p∈S,(λq:Lit×DataW Unit=>Go.intOf q.1) (((keyOf prog 3 p.1).getD (.bool false),.lit (.bool true)))=(match p.1 with | .int _ n=>n|_=>0):=λp hp=>by obtain⟨n,hn,e⟩:=hS p hp;rw[e,show keyOf prog 3 (encZ n)=some (.int .i64 n) from ah9 (hw n hn)];rfl
  rw[asb (g:=λp:Value×Value=>(match p.1 with | .int _ n=>n|_=>0)) (λp hp=>e p hp)];have e2:S.map (λp:Value×Value=>(match p.1 with | .int _ n=>n|_=>0))=(S.map (·.1)).map (λv:Value=>(match v with | .int _ n=>n|_=>0)):=by rw[akd];rfl
  rw[e2,hk,akd];exact List.map_id _
 ·show D.length=_;rw[C.length_eq,aab,hlen]
theorem ru(m:Nat):AnyZI.SortsIn prog Tryz.Ps Fence.wide m:=
 ⟨λblk off cap ss W D hblk C=>ajc.2 (AnyM.slices_Sort_int Tryz.sortInt blk off cap ss W D hblk C),
  λp cap W=>ajc.2 (AnyM.slices_Sort_int_none Tryz.sortInt p cap W)⟩
theorem vU(C:Option Nat)(W:World):Calls prog 52 #[.map C] W λe w'=>e=.returned (.func (.func 103) #[] #[.pointer (some ⟨W.heap.size,0,none⟩)])/\w'=W.alloc (.cells #[.map C] 140):=
 (ajc (n:=5)).1 (AnyZI.keys_in Tryz.zg Fence.wide 5 trivial rfl C W)
theorem DI {B:Nat}{S:List (Value×Value)} (h:Zz W B S)(hk:S.map (·.1)=ks.map encZ)(hw:∀n∈ks,(Lit.int .i64 n).wf=true)(hl:ks.length<=1000000):
 Calls prog 51 #[.func (.func 103) #[] #[.pointer (some ⟨W.heap.size,0,none⟩)]] (W.alloc (.cells #[.map (some B)] 140)) λe w'=>∃v,e=.returned v/\w'.ownsRow W.heap.size 3 1 v ks.length ((ks.mergeSort leI).map encZ)/\Below W.heap.size W w':=by
 obtain⟨D,Y,Z,U⟩:=vV h hk hw hl;have J:=Y.lt
 have I:SeqGives Fence.wide 2 prog 103 #[.pointer (some ⟨W.heap.size,0,none⟩)] encZ (λss=>ss.Perm (intKeys D)) (Maps.size D) (W.alloc (.cells #[.map (some B)] 140)):=
  AnyZI.keys_gives (ρ:=Tryz.MC) {Tryz.zg with} Fence.wide _ trivial rfl jO W.heap.size B ks.length D _ jS jS (by obtain⟨es,clock,hb,Ft,hs,hD⟩:=Y;exact⟨es,clock,(Below.heap_alloc _ _ B J).trans hb,Ft,hs,hD⟩)
 have cS:=AnyZI.sorted_in Tryz.xe Fence.wide 5 trivial trivial trivial trivial rfl jO (ru _) (enters_of func102 jK rfl) 103 #[.pointer (some ⟨W.heap.size,0,none⟩)] trivial (enters_of func103 jK rfl) _ _ (by rw[U];unfold maxLen;omega) (by rw[U];omega) _ I;refine((ajc (n:=5)).1 cS).mono ?_;rintro e w' ⟨v,ss,rfl,hS,C,T,hb⟩;have hp:ss.Perm ks:=hS.trans Z;rw[hp.length_eq,mergeSort_of_perm_i hp] at C;exact⟨v,rfl,ownsRow_base_a C jS,((aG _ W).alloc (aR _) _).trans (hb.mono jS)⟩
theorem rq{s:ByteArray}(hs:s.size<=1000000):keyOf prog 9 (.string s)=some (.string s.data.toList):=by
 have h:s.size<=maxLen:=by unfold maxLen;omega
 unfold keyOf mapKey;simp[underlying9,h]
theorem vT {B:Nat}{S:List (Value×Value)}{ks:List ByteArray}(h:Zz W B S)(hk:S.map (·.1)=ks.map Value.string)(hw:∀s∈ks,s.size<=1000000)(hl:ks.length<=1000000):∃D:DataW Unit,W.ownsMap prog 9 Rc B ks.length D/\(strKeys D).Perm (ks.map (·.data.toList))/\Maps.size D=ks.length:=by
 have hlen:S.length=ks.length:=by have:=ax List.length hk;simpa using this
 have hS:∀p∈S,∃n∈ks,p.1=.string n:=λp hp=>by
  have:p.1∈ks.map Value.string:=by rw[<-hk];exact ah.2 ⟨p,hp,rfl⟩
  obtain⟨n,hn,e⟩:=ah.1 this;exact⟨n,hn,e.symm⟩
 obtain⟨D,I,C⟩:=h.owns (P:=prog) (k:=9) (λp hp=>by obtain⟨n,hn,e⟩:=hS p hp;exact⟨_,by rw[e];exact rq (hw n hn)⟩) (by unfold maxLen;omega)
 rw[hlen] at I;refine⟨.map D,I,?_,?_⟩
 ·show(D.map λp=>Go.strOf p.1).Perm _;refine(C.map _).trans (List.Perm.of_eq ?_);rw[akd]
  have e:∀p∈S,(λq:Lit×DataW Unit=>Go.strOf q.1) (((keyOf prog 9 p.1).getD (.bool false),.lit (.bool true)))=(match p.1 with | .string n=>n.data.toList|_=>[]):=λp hp=>by obtain⟨n,hn,e⟩:=hS p hp;rw[e,rq (hw n hn)];rfl
  rw[asb (g:=λp:Value×Value=>(match p.1 with | .string n=>n.data.toList|_=>[])) (λp hp=>e p hp)];have e2:S.map (λp:Value×Value=>(match p.1 with | .string n=>n.data.toList|_=>[]))=(S.map (·.1)).map (λv:Value=>(match v with | .string n=>n.data.toList|_=>[])):=by rw[akd];rfl
  rw[e2,hk,akd];rfl
 ·show D.length=_;rw[C.length_eq,aab,hlen]
theorem rp(m:Nat):AnyZ.SortsIn prog Tryz.Pr Fence.wide m:=
 ⟨λblk off cap ss W D hblk C=>ajc.2 (AnyM.slices_Sort_string Tryz.sortStr blk off cap ss W D hblk C),
  λp cap W=>ajc.2 (AnyM.slices_Sort_string_none Tryz.sortStr p cap W)⟩
theorem vS(C:Option Nat)(W:World):Calls prog 89 #[.map C] W λe w'=>e=.returned (.func (.func 142) #[] #[.pointer (some ⟨W.heap.size,0,none⟩)])/\w'=W.alloc (.cells #[.map C] 191):=
 (ajc (n:=5)).1 (AnyZ.keys_in Tryz.ze Fence.wide 5 trivial rfl C W)
def kZ(ks:List ByteArray)(W:World)(e:Ending)(w':World):Prop:=∃(v:Value) (ss:List ByteArray),e=.returned v/\ss.Perm ks/\w'.ownsRow W.heap.size 9 1 v ss.length (ss.map Value.string)/\Below W.heap.size W w'
theorem DG {B:Nat}{S:List (Value×Value)}{ks:List ByteArray}(h:Zz W B S)(hk:S.map (·.1)=ks.map Value.string)(hw:∀s∈ks,s.size<=1000000)(hl:ks.length<=1000000):
 Calls prog 88 #[.func (.func 142) #[] #[.pointer (some ⟨W.heap.size,0,none⟩)]] (W.alloc (.cells #[.map (some B)] 191)) (kZ ks W):=by
 obtain⟨D,Z,h2,Y⟩:=vT h hk hw hl;have J:=Z.lt
 have I:SeqGives Fence.wide 2 prog 142 #[.pointer (some ⟨W.heap.size,0,none⟩)] encStr (λss=>ss.Perm (strKeys D)) (Maps.size D) (W.alloc (.cells #[.map (some B)] 191)):=
  AnyZ.keys_gives (ρ:=Tryz.MB) {Tryz.ze with} Fence.wide _ trivial rfl jO W.heap.size B ks.length D _ jS jS (by obtain⟨es,clock,hb,Ft,hs,hD⟩:=Z;exact⟨es,clock,(Below.heap_alloc _ _ B J).trans hb,Ft,hs,hD⟩)
 have cS:=AnyZ.sorted_in Tryz.xd Fence.wide 5 trivial trivial trivial trivial rfl jO (rp _) (enters_of func132 jK rfl) 142 #[.pointer (some ⟨W.heap.size,0,none⟩)] trivial (enters_of func142 jK rfl) _ _ (by rw[Y];unfold maxLen;omega) (by rw[Y];omega) _ I;refine((ajc (n:=5)).1 cS).mono ?_;rintro e w' ⟨v,ss,rfl,hS,C,T,hb⟩;have hp:(ss.mergeSort (λx y=>decide (x<=y))).Perm (ks.map (·.data.toList)):=(List.mergeSort_perm _ _).trans (hS.trans h2);have U:∀l:List UInt8,encStr l=.string ⟨l.toArray⟩:=λl=>rfl
 refine⟨v,(ss.mergeSort (λx y=>decide (x<=y))).map λl=>⟨l.toArray⟩,rfl,?_,?_,((aG _ W).alloc (aR _) _).trans (hb.mono jS)⟩;·have:=hp.map (λl:List UInt8=>(⟨l.toArray⟩:ByteArray));rw[akd] at this;refine this.trans (List.Perm.of_eq ?_);rw[asb (g:=id) (λs _=>by cases s;simp)];exact List.map_id _
 ·rw[aab,akd,List.length_mergeSort];exact ownsRow_base_a C jS
end Go.Proofs.YtclgigmgbebhgaaGreatDoor
