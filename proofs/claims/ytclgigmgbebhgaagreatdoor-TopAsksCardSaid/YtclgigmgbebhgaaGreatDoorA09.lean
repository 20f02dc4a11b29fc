/- TopAsks: part 9: TopRes6 TopRes7 SysRows SysFind SysBs SysNum SysRef SysRName SysRow SysRight SysLaw TopKeys TopKeysS. -/
import Derived.Shelf.SlicesQ.IndexFunc
import Derived.Lib.Bytealg
import Derived.WalkSmall
import Derived.OwnWalk
import Derived.Lib.AppendZeros
import Derived.Great.Walk
import Derived.Shelf.SlIter.Sorted
import Derived.Test.YtclgigmgbebhgaaGreatDoorA08
set_option linter.unusedVariables false
set_option linter.unusedSimpArgs false
set_option maxRecDepth 100000
set_option maxHeartbeats 16000000
namespace Go.Proofs.YtclgigmgbebhgaaGreatDoor
open Tryz
open Go Go.Proofs Go.RowKit Go.Maps Go.WideMaps Go.ChangeMaps
theorem El{d:Nat}(l:List Z3)(r:Z3):strike d (l++[r])=if r.2=d then strike d l else l++[r]:=by
 unfold strike;rw[List.reverse_append];show(List.dropWhile _ (r::l.reverse)).reverse=_;rw[aqa];by_cases h:r.2=d;·rw[aH (by simpa using h),aH h]
 ·rw[aN (by simpa using h),aN h,awe,axd]
theorem sD{N L a c d:Nat}{la:Option Addr}{rs:List Z3}(hL:rs.length=L)(XA:L<=1000)(hcs:∀r∈rs,r.1.length<=1000/\∀x∈r.1,x.m<YO/\x.v<YO)(w:World)(h:UC N w (.slice la L c) rs)(hN:N<=w.heap.size):
 Calls prog 39 #[.int .i64 a,.slice la L c,.int .u32 d] w λe w'=>∃v us,e=.returned v/\Yi w.heap.size w' v (Yt a d rs) us/\(Yt a d rs).length<=L/\Below w.heap.size w w':=by
 have HL:=aT hL;have HM:=aT h;have HC:=aT hcs;clear hL h hcs;go_enter func39,ntmps39;go_upto_region 2 with fail;go_cut [11,12,13] (λs11 s12 cY wx=>s11=.slice la L c/\s12=.int .i64 (L:Int)/\cY=.int .i64 0/\w=wx)
 case first=>
  go_wp2_with fail;go_meet;exact⟨rfl,rfl,rfl,rfl⟩
 case rest=>
 obtain⟨rfl,rfl,rfl,rfl⟩:=hcut;rename_i hB;refine hB _ _ ?_;clear hB;go_cut [7] from 9 to 41 (λs wx=>∃(v:Value) (us:List Value) (l:List Z3),v=s/\Hid (Yi w.heap.size wx v l us)/\Hid (Xg a rs=l)/\l.length<=L/\Hid (Below w.heap.size w wx))
 case first=>
  go_upto_region 3 with fail;go_loopg [7,13] (L+1) (λgg s7 cY wr=>∃(i:Nat) (v:Value) (us:List Value) (l:List Z3),i<=L/\L-i<gg/\cY=.int .i64 (i:Int)/\v=s7/\l.length<=i/\Hid (Yi w.heap.size wr v l us)/\Hid (Xg a rs=l++Xg a (rs.drop i))/\Hid (Below w.heap.size w wr));case atStart=>exact⟨0,.slice none 0 0,[],[],abb _,jO,rfl,rfl,aP _,Yi.nil _ _,(by show _=_;rfl),aG _ _⟩
  case round=>
   obtain⟨i,v,us,l,tM,VM,rfl,rfl,hll,HR,HS,Z⟩:=hrel;have Cq:=jZ i;have JS:=jW i;by_cases hlt:i<L
   ·have Zc:(i:Int)<(L:Int):=by omega
    obtain⟨r,hr⟩:∃r,rs[i]? =some r:=⟨_,aM (by rw[HL.out];exact hlt)⟩;obtain⟨la2,c2,e,hrow⟩:=HM.out;injection e with e1 e3 e2;subst e1 e2;clear e3;obtain⟨g,off,u,rfl,Va,y0,y1,hcm⟩:=hrow i r hr;obtain⟨hk0,hb0⟩:=HC.out r (ag hr);have y0:=ZZ Z.out hN Va y0;have y1:=ZZ Z.out hN Va y1;have CS:=aT (hcm.below Z.out hN);have gV:=aT (drop_cons hr);have cX:=aT hb0;clear hrow hr hcm hb0;obtain⟨cs,code⟩:=r;dsimp only at*;obtain⟨ua,uc,rfl⟩:∃ua uc,u=.slice ua cs.length uc:=by obtain⟨ua,uc,e,_⟩:=CS.out;exact⟨ua,uc,e⟩
    obtain⟨K,hK⟩:=jX cs.length;rw[hK] at CS y0 hk0;have HK:=aT hK;clear hK;have C:=aT (Z8.new wr TQ #[.slice ua K uc,.int .u32 code]);have Cp:=aT (HR.out.Zs ((aG _ _).alloc (aP _) (.cells #[.slice ua K uc,.int .u32 code] TQ)));have D:=aT (Z.out.alloc Z.out.size (.cells #[.slice ua K uc,.int .u32 code] TQ));have T:=aT (CS.out.below (Yk wr (.cells #[.slice ua K uc,.int .u32 code] TQ)) (aO hN Z.out.size));have HWr:=Z.out.size;have J:Hid (v.ownBlock≠some wr.heap.size):=λe=>asb _ (HR.out.row.lt _ e).2
    go_upto_region 5 with fail;clear HR Z CS y0 y1;generalize hwa:wr.alloc (.cells #[.slice ua K uc,.int .u32 code] TQ)=wa at*;have hsz:wr.heap.size<wa.heap.size:=by rw[<-hwa,ai];omega
    clear hwa;obtain⟨P,hP⟩:=jX wr.heap.size;rw[hP] at C J hsz ⊢;have sy:Hid (w.heap.size<=P):=by show _<=_;rw[<-hP];exact HWr
    clear hP;go_upto_if 18 with fail
    go_cut [10] from 14 to 41 (λs10 wx=>(s10=.bool false/\Hid (Xg a rs=l++Xg a (rs.drop (i+1)))/\Hid (Yi w.heap.size wx v l us)/\Hid (Below w.heap.size w wx))\/(s10=.bool true/\∃(ns:List Z5) (na:Option Addr) (M nc:Nat),M<=1000/\Hid (ns.length=M)/\Hid (Xg a rs=l++(if M=0 then [(ns,code)] else(ns,code)::Xg a (rs.drop (i+1))))/\Hid (I3 w.heap.size P w wx v l us ns code na M nc none none)))
    case first=>
     by_cases ha:a=2
     ·have haz:((a:Int) == 2)=true:=by rw[ahc];omega
      have HA:=aT ha;clear ha;have HN:=aT (Es (cs:=cs) (cd:=code) HK.out hk0 cX.out wa T.out (acd (by have:=hsz;have:=sy.out;omega)));obtain⟨⟨p0,p1⟩,_⟩:=XJ C.out;go_wp2_with fail;refine HN.out.mono ?_;rintro e w2 ⟨ap7,hb⟩;have I:=aT (C.out.below hb C.out.lt);have Y:=aT (Cp.out.Zs hb);have X1:=aT (D.out.trans (hb.mono D.out.size));clear hb HN Cp D C p0 p1;obtain⟨_,f0,f1⟩:=XJ I.out;rcases ap7 with⟨hno,rfl⟩|⟨x,ns,hns,rfl,hx⟩
      ·have A:Hid (Xg a rs=l++Xg a (rs.drop (i+1))):=by
        show _=_;rw[HS.out,gV.out];unfold Xg;rw[aH HA.out,aH HA.out];show l++(match ZP Zk cs with|none=>YJ (rs.drop (i+1))|some []=>[([],code)]|some ns=>(ns,code)::YJ (rs.drop (i+1)))=_;rw[hno]
       clear hno;go_wp2_with fail;go_meet;exact .inl ⟨rfl,A,(Y.out.lF I.out J.out 0 _).lF (I.out.set 0 _) J.out 1 _,RP X1.out sy.out _ _⟩
      ·obtain⟨xa,xc,rfl⟩:=ZY hx;have HX:=aT hx;have CB:Hid (ns.length<=1000):=aO (TD hns) (by rw[HK.out];exact hk0)
       have A:Hid (Xg a rs=l++(if ns.length=0 then [(ns,code)] else(ns,code)::Xg a (rs.drop (i+1)))):=by show _=_;rw[HS.out,gV.out];unfold Xg;rw[aH HA.out,aH HA.out];show l++(match ZP Zk cs with|none=>YJ (rs.drop (i+1))|some []=>[([],code)]|some ns=>(ns,code)::YJ (rs.drop (i+1)))=_;rw[hns];cases ns<;>rfl
       clear hns hx;obtain⟨M,hM⟩:=jX ns.length;have CA:=aT hM;have xG:Hid (w2.ownsRow wa.heap.size TC 4 (.slice xa M xc) ns.length (ns.flatMap cL)):=by rw[<-hM];exact HX.out
       rw[hM] at A CB ⊢;clear hM HX;go_wp2_with fail;go_meet;refine .inr ⟨rfl,ns,xa,M,xc,CB.out,CA,A,⟨(Y.out.lF I.out J.out 0 _).lF (I.out.set 0 _) J.out 1 _,RP X1.out sy.out _ _,(RP X1.out sy.out _ _).size,KZ I.out _ _,J.out,λ_=> ?_,λx e=>(by cases e),λb x e=>(by cases e)⟩⟩;have h2:=ZW (ZW xG.out I.out jD 0 (.slice xa M xc)) (I.out.set 0 _) jD 1 (.int .u32 code);exact Tz h2
     ·have haz:((a:Int) == 2)=false:=by rw[af];omega
      have HA:=aT ha;clear ha;go_wp2_with fail;go_meet;refine .inr ⟨rfl,cs,ua,K,uc,hk0,HK,?_,?_⟩
      ·show _=_;rw[HS.out,gV.out];unfold Xg;rw[aN HA.out,aN HA.out];show l++(if cs=[] then [(cs,code)] else(cs,code)::UX (rs.drop (i+1)))=_;by_cases h0:cs=[];·rw[aH h0,aH (by rw[<-HK.out,h0];rfl)]
       ·rw[aN h0,aN (by rw[<-HK.out];exact λe=>h0 (alb.1 e))]
      ·exact⟨Cp.out,D.out,D.out.size,C.out,J.out,λ_=>T.out.mono (aO hN D.out.size),λx e=>(by cases e),λb x e=>(by cases e)⟩
    case rest=>
     rcases hcut with⟨rfl,A,Y,X1⟩|⟨rfl,ns,na,M,nc,hM,HMl,A,HSe⟩
     ·clear Cp D C T;go_wp2_with fail;go_roundg (L-i);case measure=>omega
      case rel=>exact⟨i+1,v,us,l,jO,jO,by go_num,rfl,jO,Y,A,X1⟩
     ·clear Cp D C T;obtain⟨p0,p1⟩:=HSe.out.S;have ux:=aT HSe.out.drew;go_upto_region 9 with fail
      go_region_held_law (λw'=>w'.cell? ⟨P,0,none⟩=some (.slice na M nc)/\w'.cell? ⟨P,1,none⟩=some (.int .u32 code)) (first|exact I3.S (ajc (by (first|assumption|exact ux|exact aT (I3.Xm (ajc jA) rfl))))|exact(XJ U.out.2.2.1).1) (first
       |(go_at_call 92;refine(I3.clone (ajc (by (first|assumption|exact ux|exact aT (I3.Xm (ajc jA) rfl)))) HMl.out jO).mono ?_;rintro e w7 ⟨xa,xc,rfl,h7⟩;have L5:=aT h7;clear h7)
       |(refine I3.step (ajc (by (first|assumption|exact ux|exact aT (I3.Xm (ajc jA) rfl)))) rfl _ _ rfl rfl rfl jO ?_;intro gb2 ae6 w8 h8;have U:=aT h8;clear h8))
      obtain⟨⟨p0,p1⟩,_⟩:=XJ U.out.2.2.1;by_cases h0:M=0
      ·have mi:((M:Int) == 0)=true:=by rw[ahc];omega
       have HE:Hid (Xg a rs=l++[(ns,code)]):=by have h:=A.out;rwa [aH h0] at h
       clear h0;go_wp2_with fail;go_meet;exact⟨_,_,_,rfl,U.out.1,HE,by rw[ay];simp;omega,U.out.2.1⟩
      ·have mi:((M:Int) == 0)=false:=by rw[af];omega
       have HE:Hid (Xg a rs=(l++[(ns,code)])++Xg a (rs.drop (i+1))):=by have h:=A.out;rw[aN h0] at h;show _=_;rw[h,aba];rfl
       clear h0;go_wp2_with fail;go_roundg (L-i);case measure=>omega
       case rel=>exact⟨i+1,_,_,l++[(ns,code)],jO,jO,by go_num,rfl,by rw[ay];simp;omega,U.out.1,HE,U.out.2.1⟩
   ·obtain rfl:i=L:=by omega
    have Zc:¬(i:Int)<(i:Int):=jO;have A:Hid (Xg a rs=l):=by have h:=HS.out;rwa [anc (by rw[HL.out];exact aP _),wV,ade] at h
    go_wp2_with fail;go_meet;exact⟨v,us,l,rfl,HR,A,hll,Z⟩
 case rest=>
  obtain⟨v,us,l,rfl,HR,HS,hll,Z⟩:=hcut;have HO:Hid (Yt a d rs=strike d l):=by show _=_;rw[sF,HS.out]
  obtain⟨va0,vc0,rfl⟩:=ZY HR.out.row;clear HS;go_wp2_with fail;go_loopg [7] (l.length+1) (λgg s7 wr=>∃(m:Nat) (va:Option Addr) (vc:Nat),s7=.slice va m vc/\m<=l.length/\m<gg/\Hid (Yi w.heap.size wr (.slice va m vc) (l.take m) (us.take m))/\Hid (Yt a d rs=strike d (l.take m))/\Hid (Below w.heap.size w wr));case atStart=>exact⟨l.length,va0,vc0,rfl,aP _,jO,(by show Yi _ _ _ _ _;rw[List.take_length,<-HR.out.len,List.take_length,HR.out.len];exact HR.out),(by rw[List.take_length];exact HO),Z⟩
  case round=>
   obtain⟨m,va,vc,rfl,hm,VM,HRm,HOm,HBm⟩:=hrel;clear HR HO Z;by_cases CU:m=0
   ·subst CU
    have HE:Hid (Yt a d rs=l.take 0):=by show _=_;rw[HOm.out];rfl
    go_wp2_with fail;go_ret;exact⟨_,us.take 0,rfl,by rw[HE.out];exact HRm.out,by rw[HE.out];simp,HBm.out⟩
   ·obtain⟨e,he⟩:=jX (m-1);have hmz:decide ((0:Int)<(m:Int))=true:=by simp;omega
    have ap8:(0:Int)<(m:Int):=jO;have zw:decide (0<m)=true:=ace jO;have ap9:0<m:=jO;have dp:IntKind.i64.wrap ((m:Int)-1)=(e:Int):=by rw[aJ _ jO];omega
    have b0:=jZ e;have b1:(e:Int)<(m:Int):=jO;have uw:e<l.length:=jO;obtain⟨r,hr⟩:∃r,l[e]? =some r:=⟨_,aM uw⟩;have hr2:(l.take m)[e]? =some r:=by rw[aif,aH jO];exact hr
    obtain⟨g,u,rfl,hg,NL,hu,y0,y1⟩:=HRm.out.cell hr2;have hmc:m<=vc:=(LP (a:=some ⟨g,0,none⟩) (n:=m) (by have h:=HRm.out.row;rw[abg,Nat.min_eq_left hm] at h;exact h)).1
    have Ek:Hid (l.take m=l.take e++[r]):=by show _=_;rw[show m=e+1 from jO];exact VT hr
    have HST:Hid (strike d (l.take m)=if r.2=d then strike d (l.take e) else l.take m):=by show strike d (l.take m)=_;rw[Ek.out];exact El _ _
    have hem:e<=l.length/\e<m:=jO;have sl:=λW=>Em W g m vc e jO
    clear he hr hr2 hu;by_cases hd:r.2=d
    ·have wZ:Hid (Yt a d rs=strike d (l.take e)):=by
      show _=_;rw[HOm.out,HST.out,aH hd]
     have Y:Hid (Yi w.heap.size wr (.slice (some ⟨g,0,none⟩) e vc) (l.take e) (us.take e)):=by have h:=HRm.out.take (m:=e) (by rw[abg];omega);rw[List.take_take,List.take_take,Nat.min_eq_left jO] at h;exact h
     rw[hd] at y1;clear hd HST Ek;go_wp2_with fail;go_roundg m;case measure=>omega
     case rel=>exact⟨e,some ⟨g,0,none⟩,vc,rfl,hem.1,jO,Y,wZ,HBm⟩
    ·have HE:Hid (Yt a d rs=l.take m):=by
      show _=_;rw[HOm.out,HST.out,aN hd]
     have hdz:((r.2:Int) == (d:Int))=false:=by rw[af];omega
     generalize r.2=rd at*;clear HST Ek;go_wp2_with fail;go_ret;exact⟨_,us.take m,rfl,by rw[HE.out];exact HRm.out,by rw[HE.out,abg];omega,HBm.out⟩
end Go.Proofs.YtclgigmgbebhgaaGreatDoor
namespace Go.Proofs.YtclgigmgbebhgaaGreatDoor
open Tryz
open Go Go.Proofs Go.RowKit Go.Shelf Go.Sort
theorem zj(x:Int)(w:World):Calls prog 98 #[.int .u32 x] w λe w'=>e=.returned (.bool false)/\w'=w:=by
 go_enter func98,ntmps98;go_wp2_with fail;go_ret;exact⟨jS,rfl⟩
theorem Ej(x y:Int)(w:World):Calls prog 44 #[.int .u32 x,.int .u32 y] w λe w'=>e=.returned (.int .i64 (WR x y))/\w'=w:=by
 generalize hS:WR x y=S;have A:=aT hS;clear hS;go_enter func44,ntmps44;go_wp2_with fail;refine(zj _ _).mono ?_;rintro e C ⟨rfl,rfl⟩;go_wp2_with fail;refine(zj _ _).mono ?_;rintro e C ⟨rfl,rfl⟩;by_cases I:x<y;·go_wp2_with fail;go_ret;exact⟨OT (by rw[<-A.out];unfold WR;split<;>(try split)<;>omega),rfl⟩
 ·by_cases D:y<x;·go_wp2_with fail;go_ret;exact⟨OT (by rw[<-A.out];unfold WR;split<;>(try split)<;>omega),rfl⟩
  ·go_wp2_with fail;go_ret;exact⟨OT (by rw[<-A.out];unfold WR;split<;>(try split)<;>omega),rfl⟩
abbrev Oy:Nat:=123
structure L3 where
 (n:Nat)
 (a:Option Addr)
 (m c:Nat)
 rs:List Z3
 us:List Value
instance:Inhabited L3:=⟨⟨0,none,0,0,[],[]⟩⟩
def JJ(x:L3):List Value:=[.int .u32 x.n,.slice x.a x.m x.c]
def encS(x:Nat×Nat):List Value:=[.int .u32 x.1,.int .u32 x.2]
theorem aq0(x y:L3)(W:World):Calls prog 43 #[.agg #[.int .u32 x.n,.slice x.a x.m x.c],.agg #[.int .u32 y.n,.slice y.a y.m y.c]] W λe w'=>e=.returned (.int .i64 (WR (x.n:Int) (y.n:Int)))/\∃q A,w'=grow (W.drewN q) A:=by
 go_enter func43,ntmps43;go_wp2_with fail;refine(Ej _ _ _).mono ?_;rintro e C ⟨rfl,rfl⟩;go_wp2_with fail;go_ret;exact⟨rfl,0,_,by rw[Go.Sort.alloc_eq_grow,Go.Sort.alloc_eq_grow,Go.Sort.grow_grow];rfl⟩
theorem aq1(x y:Nat×Nat)(W:World):Calls prog 46 #[.agg #[.int .u32 x.1,.int .u32 x.2],.agg #[.int .u32 y.1,.int .u32 y.2]] W λe w'=>e=.returned (.int .i64 (WR (x.1:Int) (y.1:Int)))/\∃q A,w'=grow (W.drewN q) A:=by
 go_enter func46,ntmps46;go_wp2_with fail;refine(Ej _ _ _).mono ?_;rintro e C ⟨rfl,rfl⟩;go_wp2_with fail;go_ret;exact⟨rfl,0,_,by rw[Go.Sort.alloc_eq_grow,Go.Sort.alloc_eq_grow,Go.Sort.grow_grow];rfl⟩
theorem ltZ{α:Type}(f:α->Nat)(x y:α):ltOf (λx y:α=>WR (f x:Int) (f y:Int)) x y=decide (f x<f y):=by
 unfold ltOf WR;by_cases h:f x<f y;·simp[h]
 ·have A:¬(f x:Int)<(f y:Int):=by omega
  simp only[aN A,h];split<;>simp
theorem af4{α:Type}(f:α->Nat):SWO (ltOf λx y:α=>WR (f x:Int) (f y:Int)) where
 irrefl x:=by rw[ltZ];simp
 trans x y z h1 h2:=by rw[ltZ] at*;simp at*;omega
 ntrans x y z h1 h2:=by rw[ltZ] at*;simp at*;omega
theorem wU{base n:Nat}{v:Value}{l:List L3}(w:World)(hl:l.length=n)(hn:n<=1000000)(C:w.ownsRow base OG 2 v n (l.flatMap JJ)):
 Calls prog 42 #[v,.func (.func 43) #[] #[]] w λe w'=>e=.returned (.tuple #[])/\∃d':List L3,d'.Perm l/\d'.Pairwise (λa b=>a.n<=b.n)/\w'.ownsRow base OG 2 v n (d'.flatMap JJ)/\RowKit.Below base w w'/\w.heap.size<=w'.heap.size/\∀j o,w.heap[j]? =some o->v.ownBlock≠some j->w'.heap[j]? =some o:=by
 have h:=OH Tryz.xE 2 (λ_=>jK) (λ_=>jK) JJ (λ_=>rfl) (λx v hv=>by unfold JJ at hv;simp at hv;rcases hv with rfl|rfl<;>rfl) (λx y=>WR (x.n:Int) (y.n:Int)) (af4 L3.n) 43 #[] (enters_of func43 jK rfl) (λx y W=>aq0 x y W) w hl C hn
 refine h.mono ?_;rintro e w' ⟨rfl,d',I,D,J⟩;refine⟨rfl,d',I,D.imp (λ{a b} A=> ?_),J⟩;rw[ltZ L3.n] at A;simpa using A
theorem wT{base n:Nat}{v:Value}{l:List (Nat×Nat)}(w:World)(hl:l.length=n)(hn:n<=1000000)(C:w.ownsRow base Oy 2 v n (l.flatMap encS)):
 Calls prog 45 #[v,.func (.func 46) #[] #[]] w λe w'=>e=.returned (.tuple #[])/\∃d':List (Nat×Nat),d'.Perm l/\d'.Pairwise (λa b=>a.1<=b.1)/\w'.ownsRow base Oy 2 v n (d'.flatMap encS)/\RowKit.Below base w w'/\w.heap.size<=w'.heap.size/\∀j o,w.heap[j]? =some o->v.ownBlock≠some j->w'.heap[j]? =some o:=by
 have h:=OH Tryz.lW 2 (λ_=>jK) (λ_=>jK) encS (λ_=>rfl) (λx v hv=>by unfold encS at hv;simp at hv;rcases hv with rfl|rfl<;>rfl) (λx y=>WR (x.1:Int) (y.1:Int)) (af4 Prod.fst) 46 #[] (enters_of func46 jK rfl) (λx y W=>aq1 x y W) w hl C hn
 refine h.mono ?_;rintro e w' ⟨rfl,d',I,D,J⟩;refine⟨rfl,d',I,D.imp (λ{a b} A=> ?_),J⟩;rw[ltZ Prod.fst] at A;simpa using A
end Go.Proofs.YtclgigmgbebhgaaGreatDoor
namespace Go.Proofs.YtclgigmgbebhgaaGreatDoor.Z4
open Tryz
open Go Go.Proofs Go.RowKit
variable {off j:Nat} {W W':World}
structure Z0 where
 name:ByteArray
 n0:Int
 n1:Int
 n2:Int
 n3:Int
 n4:Int
 Ys:Int
 sub:Int
def Z0.zero:Z0:=⟨⟨#[]⟩,0,0,0,0,0,0,0⟩
instance:Inhabited Z0:=⟨Z0.zero⟩
def Z0.cells(r:Z0):List Value:=[.string r.name,.int .i64 r.n0,.int .i64 r.n1,.int .i64 r.n2,.int .i64 r.n3,.int .i64 r.n4,.int .i64 r.Ys,.int .i64 r.sub]
def Tx(W:World)(b off:Nat)(l:List Z0):Prop:=∀j,j<l.length->∀i v,(l[j]!).cells[i]? =some v->W.cell? ⟨b,off+j*8+i,none⟩=some v
def VS(W:World)(sv:Value)(l:List Z0):Prop:=
 ∃a c,sv=.slice a l.length c/\(l=[]\/∃b off,a=some ⟨b,off,none⟩/\b<W.heap.size/\Tx W b off l)
theorem Tx.below {b:Nat}{l:List Z0}(h:Tx W b off l)(hb:Below W.heap.size W W')(A:b<W.heap.size):Tx W' b off l:=
 λj C i v hv=>(hb.cell (p:=⟨b,off+j*8+i,none⟩) A).trans (h j C i v hv)
theorem VS.below {sv:Value}{l:List Z0}(h:VS W sv l)(hb:Below W.heap.size W W'):VS W' sv l:=by
 obtain⟨a,c,rfl,h⟩:=h;refine⟨a,c,rfl,?_⟩;rcases h with h|⟨b,off,rfl,A,hr⟩;·exact .inl h
 ·exact .inr ⟨b,off,rfl,acf A hb.size,hr.below hb A⟩
def firstIdx(p:Z0->Bool):List Z0->Int
 |[]=>-1
 |x::r=>if p x=true then 0 else if firstIdx p r<0 then -1 else firstIdx p r+1
theorem Tw(p:Z0->Bool):∀(l:List Z0) (k:Nat),k<l.length->(∀j,j<k->p l[j]! =false)->p l[k]! =true->firstIdx p l=k
 |[],k,h,_,_=>by simp at h
 |x::r,0,_,_,h=>by simp at h;simp[firstIdx,h]
 |x::r,k+1,hk,hm,h=>by
  have A:p x=false:=by simpa using hm 0 jO
  have C:=Tw p r k (by simpa using hk) (λj D=>by simpa using hm (j+1) jO) (by simpa using h);simp[firstIdx,A,C];omega
theorem PG(p:Z0->Bool):∀(l:List Z0),(∀j,j<l.length->p l[j]! =false)->firstIdx p l= -1
 |[],_=>rfl
 |x::r,hm=>by
  have C:p x=false:=by simpa using hm 0 jS
  have A:=PG p r (λj D=>by simpa using hm (j+1) (by simpa using D));simp[firstIdx,C,A]
theorem RL(p:Z0->Bool):∀(l:List Z0),firstIdx p l= -1\/(0<=firstIdx p l/\firstIdx p l<l.length)
 |[]=>.inl rfl
 |x::r=>by
  have A:=RL p r;simp only[firstIdx,aj];split;·right;omega
  ·split;·left;rfl
   ·right;omega
theorem Tx.sx {b:Nat}{l:List Z0}(h:Tx W b off l) (A:j<l.length):W.cell? ⟨b,off+j*8,none⟩=some (.string (l[j]!).name):=by
 have:=h j A 0 _ rfl;simpa using this
theorem Ox(a b:ByteArray)(w:World):
 Calls prog 145 #[.string a,.string b] w λe w'=>e=.returned (.int .i64 (Lib.compareBytes a.data.toList b.data.toList))/\w=w':=by
 go_enter func145,ntmps145;go_wp2;rw[run_callFunc_extern func224 jK jK jK (e:=Extern.BytealgCompare.compare) jK,Lib.run_compareString];simp only[Result.andThen];rw[Oper.upon_value];go_wp2;go_ret;exact⟨rfl,rfl⟩
theorem Ei(a b:ByteArray)(w:World):
 Calls prog 95 #[.string a,.string b] w λe w'=>e=.returned (.int .i64 (Lib.compareBytes a.data.toList b.data.toList))/\w=w':=by
 go_enter func95,ntmps95
 go_wp2_with (go_at_call 145;refine(Ox _ _ _).mono ?_;rintro e w' ⟨rfl,rfl⟩)
 go_ret;exact⟨rfl,rfl⟩
def Vk(t:ByteArray)(r:Z0):Int:=Lib.compareBytes r.name.data.toList t.data.toList
theorem I2(t:ByteArray)(r:Z0)(w:World):
 Calls prog 94 #[.agg #[.string r.name,.int .i64 r.n0,.int .i64 r.n1,.int .i64 r.n2,.int .i64 r.n3,.int .i64 r.n4,.int .i64 r.Ys,.int .i64 r.sub],.string t] w
  λe w'=>e=.returned (.int .i64 (Vk t r))/\Below w.heap.size w w':=by
 go_enter func94,ntmps94
 go_wp2_with (go_at_call 95;refine(Ei _ _ _).mono ?_;rintro e w' ⟨rfl,rfl⟩)
 go_ret;exact⟨rfl,(aG _ w).alloc (aP _) _⟩
def zi(t:ByteArray)(l:List Z0)(i:Nat):Prop:=
 i<=l.length/\(∀k,k<i->Vk t l[k]! <0)/\(∀k,i<=k->k<l.length->0<=Vk t l[k]!)
def TX(t:ByteArray)(l:List Z0)(i:Nat):Bool:=decide (i<l.length)&&Vk t l[i]! == 0
def su(t:ByteArray)(l:List Z0)(w:World)(e:Ending)(w':World):Prop:=
 ∃i:Nat,zi t l i/\e=.returned (.tuple #[.int .i64 i,.bool (TX t l i)])/\Below w.heap.size w w'
theorem af5(t:ByteArray)(b off c:Nat)(zs:List Z0)(w:World)(Le:zs.length<=1000000)(hb:b<w.heap.size)(hc:Tx w b off zs)
 (I:∀x y,x<=y->y<zs.length->Vk t zs[y]! <0->Vk t zs[x]! <0):
 Calls prog 93 #[.slice (some ⟨b,off,none⟩) zs.length c,.string t,.func (.func 94) #[] #[]] w (su t zs w):=by
 have Hc:=aT hc;have Hm:=aT I;clear hc I;obtain⟨n,hn⟩:=jX zs.length;rw[hn] at Le ⊢;have U:=aT hn;clear hn;go_enter func93,ntmps93;go_wp2;go_loopg [9,10] n (λgg s9 s10 wr=>∃i j:Nat,i<=j/\j<=n/\j-i<=gg/\s9=.int .i64 i/\s10=.int .i64 j/\Hid (Below w.heap.size w wr)/\Hid (∀k,k<i->Vk t zs[k]! <0)/\Hid (∀k,j<=k->k<n->0<=Vk t zs[k]!));case atStart=>exact⟨0,n,abb _,aP _,jO,rfl,rfl,aG _ w,λj hj=>absurd hj (ake _),λk h1 h2=>absurd h1 jO⟩
 case round=>
  obtain⟨i,j,cW,hjn,hg,rfl,rfl,Y,L,R⟩:=hrel;by_cases hlt:i<j
  ·have Zc:(i:Int)<(j:Int):=by omega
   have C:=(Hc.below Y hb) ((i+j)/2) (by rw[U.out];omega);have c0:=C 0 _ rfl;have c1:=C 1 _ rfl;have c2:=C 2 _ rfl;have c3:=C 3 _ rfl;have c4:=C 4 _ rfl;have c5:=C 5 _ rfl;have c6:=C 6 _ rfl;have c7:=C 7 _ rfl;simp only[aec] at c0;clear C;have A:=I2 t zs[(i+j)/2]! wr;generalize hy:zs[(i+j)/2]! =y at A c0 c1 c2 c3 c4 c5 c6 c7;have Hy:=aT hy;clear hy;generalize hv:Vk t y=v at A;have Hv:=aT hv;clear hv;have D:=aT A;clear A;by_cases J:v<0
   ·have Z:decide (v<0)=true:=by simpa using J
    go_wp2_with fail;refine D.mono ?_;rintro e w' ⟨rfl,T⟩;go_wp2;go_roundg (j-((i+j)/2+1));case measure=>omega
    case rel=>
     refine⟨(i+j)/2+1,j,jO,hjn,jO,by congr 1,rfl,Y.trans (T.mono Y.size),(show Hid _ from λk hk=> ?_),R⟩;exact Hm k ((i+j)/2) jO (by rw[U.out];omega) (by rw[Hy.out,Hv.out];exact J)
   ·have Z:decide (v<0)=false:=by simpa using J
    go_wp2_with fail;refine D.mono ?_;rintro e w' ⟨rfl,T⟩;go_wp2;go_roundg ((i+j)/2-i);case measure=>omega
    case rel=>
     refine⟨i,(i+j)/2,jO,jO,jO,rfl,by congr 1,Y.trans (T.mono Y.size),L,(show Hid _ from λk hk lJ=> ?_)⟩;refine Int.not_lt.1 (λPd=> ?_);have:=Hm ((i+j)/2) k hk (by rw[U.out];exact lJ) Pd;rw[Hy.out,Hv.out] at this;omega
  ·obtain rfl:i=j:=by omega
   have hji:¬(i:Int)<(i:Int):=jO;by_cases hin:i<n
   ·have aq2:(i:Int)<(n:Int):=by omega
    have C:=(Hc.below Y hb) i (by rw[U.out];omega);have c0:=C 0 _ rfl;have c1:=C 1 _ rfl;have c2:=C 2 _ rfl;have c3:=C 3 _ rfl;have c4:=C 4 _ rfl;have c5:=C 5 _ rfl;have c6:=C 6 _ rfl;have c7:=C 7 _ rfl;simp only[aec] at c0;clear C;have A:=I2 t zs[i]! wr;generalize hy:zs[i]! =y at A c0 c1 c2 c3 c4 c5 c6 c7;have Hy:=aT hy;clear hy;generalize hv:Vk t y=v at A;have Hv:=aT hv;clear hv;have D:=aT A;clear A;go_wp2_with fail;refine D.mono ?_;rintro e w' ⟨rfl,T⟩;go_wp2;go_ret2;refine⟨i,⟨by rw[U.out];omega,L,λk h1 h2=>R k h1 (by rw[U.out] at h2;exact h2)⟩,?_,Y.trans (T.mono Y.size)⟩;have e:TX t zs i=(v == 0):=by unfold TX;rw[U.out,Hy.out,Hv.out];simp[hin]
    rw[e];rfl
   ·have aq2:¬(i:Int)<(n:Int):=by omega
    go_wp2;go_ret2;refine⟨i,⟨by rw[U.out];omega,L,λk h1 h2=>R k h1 (by rw[U.out] at h2;exact h2)⟩,?_,Y⟩;have e:TX t zs i=false:=by unfold TX;rw[U.out];simp[hin]
    rw[e];rfl
theorem cV(t:ByteArray)(sv:Value)(zs:List Z0)(w:World)(C:zs.length<=1000000)(J:VS w sv zs)
 (A:∀x y,x<=y->y<zs.length->Vk t zs[y]! <0->Vk t zs[x]! <0):
 Calls prog 93 #[sv,.string t,.func (.func 94) #[] #[]] w (su t zs w):=by
 obtain⟨a,c,rfl,h⟩:=J;rcases h with rfl|⟨b,off,rfl,I,hr⟩
 ·clear A C;go_enter func93,ntmps93;go_wp2
  go_loop [9,10] (λT D=>T=.int .i64 0/\D=.int .i64 0) (λ_ _=>0)
  case atStart=>exact⟨rfl,rfl⟩
  case round=>
   obtain⟨rfl,rfl⟩:=hrel;go_wp2;go_ret2;exact⟨0,⟨aP _,λk hk=>absurd hk (ake _),λk _ hk=>absurd hk jS⟩,rfl,aG _ _⟩
 ·exact af5 t b off c zs w C I hr A
def Z0.val(r:Z0):Value:=.agg #[.string r.name,.int .i64 r.n0,.int .i64 r.n1,.int .i64 r.n2,.int .i64 r.n3,.int .i64 r.n4,.int .i64 r.Ys,.int .i64 r.sub]
def sr(t:ByteArray)(l:List Z0)(w:World)(e:Ending)(w':World):Prop:=
 ∃i:Nat,zi t l i/\Below w.heap.size w w'/\
  ((TX t l i=true/\e=.returned (.tuple #[(l[i]!).val,.int .i64 i,.bool true]))\/(TX t l i=false/\e=.returned (.tuple #[Z0.zero.val,.int .i64 0,.bool false])))
theorem sq(t:ByteArray)(sv:Value)(l:List Z0)(w:World)(T:l.length<=1000000)(D:VS w sv l)
 (I:∀x y,x<=y->y<l.length->Vk t l[y]! <0->Vk t l[x]! <0):
 Calls prog 41 #[sv,.string t] w (sr t l w):=by
 have hz:=(aG w.heap.size w).alloc (aP _) (.cells #[.string ⟨#[]⟩,.int .i64 0,.int .i64 0,.int .i64 0,.int .i64 0,.int .i64 0,.int .i64 0,.int .i64 0] 40);have hR0:=D.below hz;have hbs:=cV t sv l _ T hR0 I;obtain⟨a,c,rfl,h⟩:=hR0;have Hbs:=aT hbs;have Hh:=aT h;clear hbs D h I;go_enter func41,ntmps41;go_wp2_with fail;refine Hbs.mono ?_;rintro e w1 ⟨i,hA,rfl,U⟩;have A:=(Z8.new w 40 #[.string ⟨#[]⟩,.int .i64 0,.int .i64 0,.int .i64 0,.int .i64 0,.int .i64 0,.int .i64 0,.int .i64 0]).below U jS;have Z:Below w.heap.size w w1:=hz.trans (U.mono jS);have HA:=aT hA;clear hA;cases Y:TX t l i with
 |false=>
  have Hq:=aT Y;clear Y;have z0:=A.frozen 0;have z1:=A.frozen 1;have z2:=A.frozen 2;have z3:=A.frozen 3;have z4:=A.frozen 4;have z5:=A.frozen 5;have z6:=A.frozen 6;have z7:=A.frozen 7;have y0:=A.cell 0;have y1:=A.cell 1;have y2:=A.cell 2;have y3:=A.cell 3;have y4:=A.cell 4;have y5:=A.cell 5;have y6:=A.cell 6;have y7:=A.cell 7;simp only[ak,aL,aF] at y0 y1 y2 y3 y4 y5 y6 y7;go_wp2;have C:=((((((((A.set 0 (.string ⟨#[]⟩)).set 1 (.int .i64 0)).set 2 (.int .i64 0)).set 3 (.int .i64 0)).set 4 (.int .i64 0)).set 5 (.int .i64 0)).set 6 (.int .i64 0)).set 7 (.int .i64 0));have d0:=C.cell 0;have d1:=C.cell 1;have d2:=C.cell 2;have d3:=C.cell 3;have d4:=C.cell 4;have d5:=C.cell 5;have d6:=C.cell 6;have d7:=C.cell 7;simp at d0 d1 d2 d3 d4 d5 d6 d7;refine aaf (v:=.tuple #[.agg #[.string ⟨#[]⟩,.int .i64 0,.int .i64 0,.int .i64 0,.int .i64 0,.int .i64 0,.int .i64 0,.int .i64 0],.int .i64 0,.bool false]) (by simp[results,Tryz.results41,go_sem,d0,d1,d2,d3,d4,d5,d6,d7]) rfl ⟨i,HA,((((((((Z.setCell (p:=⟨w.heap.size,0,none⟩) jS _).setCell (p:=⟨w.heap.size,1,none⟩) jS _).setCell (p:=⟨w.heap.size,2,none⟩) jS _).setCell (p:=⟨w.heap.size,3,none⟩) jS _).setCell (p:=⟨w.heap.size,4,none⟩) jS _).setCell (p:=⟨w.heap.size,5,none⟩) jS _).setCell (p:=⟨w.heap.size,6,none⟩) jS _).setCell (p:=⟨w.heap.size,7,none⟩) jS _),.inr ⟨Hq,rfl⟩⟩
 |true=>
  have J:i<l.length:=by unfold TX at Y;simp at Y;exact Y.1
  obtain⟨b,off,rfl,hlt,hr⟩:∃b off,a=some ⟨b,off,none⟩/\b<(w.alloc (.cells #[.string ⟨#[]⟩,.int .i64 0,.int .i64 0,.int .i64 0,.int .i64 0,.int .i64 0,.int .i64 0,.int .i64 0] 40)).heap.size/\Tx (w.alloc (.cells #[.string ⟨#[]⟩,.int .i64 0,.int .i64 0,.int .i64 0,.int .i64 0,.int .i64 0,.int .i64 0,.int .i64 0] 40)) b off l:=by
   rcases Hh.out with h|h;·rw[h] at J;simp at J
   ·exact h
  have D:=hr.below U hlt i J;have Hq:=aT Y;have c0:=D 0 _ rfl;have c1:=D 1 _ rfl;have c2:=D 2 _ rfl;have c3:=D 3 _ rfl;have c4:=D 4 _ rfl;have c5:=D 5 _ rfl;have c6:=D 6 _ rfl;have c7:=D 7 _ rfl;simp only[aec] at c0;clear D hr Y Hh;generalize hy:l[i]! =y at c0 c1 c2 c3 c4 c5 c6 c7;have Hy:=aT hy;clear hy;have h0i:=jZ i;have hiz:(i:Int)<(l.length:Int):=jO;generalize hn:l.length=n at J hiz T ⊢;have Hn:=aT hn;clear hn;have z0:=A.frozen 0;have z1:=A.frozen 1;have z2:=A.frozen 2;have z3:=A.frozen 3;have z4:=A.frozen 4;have z5:=A.frozen 5;have z6:=A.frozen 6;have z7:=A.frozen 7;have y0:=A.cell 0;have y1:=A.cell 1;have y2:=A.cell 2;have y3:=A.cell 3;have y4:=A.cell 4;have y5:=A.cell 5;have y6:=A.cell 6;have y7:=A.cell 7;simp only[ak,aL,aF] at y0 y1 y2 y3 y4 y5 y6 y7;go_wp2;have C:=((((((((A.set 0 (.string y.name)).set 1 (.int .i64 y.n0)).set 2 (.int .i64 y.n1)).set 3 (.int .i64 y.n2)).set 4 (.int .i64 y.n3)).set 5 (.int .i64 y.n4)).set 6 (.int .i64 y.Ys)).set 7 (.int .i64 y.sub));have d0:=C.cell 0;have d1:=C.cell 1;have d2:=C.cell 2;have d3:=C.cell 3;have d4:=C.cell 4;have d5:=C.cell 5;have d6:=C.cell 6;have d7:=C.cell 7;simp at d0 d1 d2 d3 d4 d5 d6 d7;refine aaf (v:=.tuple #[.agg #[.string y.name,.int .i64 y.n0,.int .i64 y.n1,.int .i64 y.n2,.int .i64 y.n3,.int .i64 y.n4,.int .i64 y.Ys,.int .i64 y.sub],.int .i64 i,.bool true]) (by simp[results,Tryz.results41,go_sem,d0,d1,d2,d3,d4,d5,d6,d7]) rfl ⟨i,HA,((((((((Z.setCell (p:=⟨w.heap.size,0,none⟩) jS _).setCell (p:=⟨w.heap.size,1,none⟩) jS _).setCell (p:=⟨w.heap.size,2,none⟩) jS _).setCell (p:=⟨w.heap.size,3,none⟩) jS _).setCell (p:=⟨w.heap.size,4,none⟩) jS _).setCell (p:=⟨w.heap.size,5,none⟩) jS _).setCell (p:=⟨w.heap.size,6,none⟩) jS _).setCell (p:=⟨w.heap.size,7,none⟩) jS _),.inl ⟨Hq,by rw[Hy.out];rfl⟩⟩
def Z0.num(r:Z0)(a:Nat):Int:=match a with
 |0=>r.n0|1=>r.n1|2=>r.n2|3=>r.n3|_=>r.n4
def numOf(l:List Z0)(a i:Nat):Int:=if (l[i]!).num a= -1 then -1-(i:Int) else(l[i]!).num a
def Uy(t:ByteArray)(r:Z0):Bool:=r.name.toList == t.toList
def Pa(q:Nat->Bool):Nat->Nat->Int
 |_,0=>-1
 |i,f+1=>if q i=true then(i:Int) else Pa q (i+1) f
def cU(n:Nat):Prop:=(97<=n/\n<=122)\/(48<=n/\n<=57)\/n=95
def YF(s:ByteArray):Prop:=
 s.size<=30/\(∃h:0<s.size,97<=(s[0]'h).toNat/\(s[0]'h).toNat<=122)/\¬s.toList=[100,101,102,97,117,108,116]/\¬s.toList=[120,51,50]/\∀j (h:j<s.size),cU (s[j]'h).toNat
def NU(x:Int):Prop:=-1<=x/\x<=1073741823
def PE(r:Z0):Prop:=0<=r.Ys/\r.Ys<=2/\(r.Ys=0->r.sub=0)/\(0<r.Ys->1<=r.sub/\r.sub<=255)
def PD(r:Z0):Prop:=(∀a,a<5->NU (r.num a))/\PE r
def SA(r:Z0):Prop:=r.n2=102\/r.n2=117
def Ow(x r:Z0):Prop:=(∃a,a<5/\0<=r.num a/\x.num a=r.num a)\/(0<r.Ys/\x.Ys=r.Ys/\x.sub=r.sub)
def Tv(l:List Z0)(i:Nat):Prop:=0<i/\Op.bytesLess (l[i-1]!).name.toList (l[i]!).name.toList=false
def Xb(l:List Z0)(i:Nat)(v:Int):Prop:=
 (v=13/\¬YF (l[i]!).name)\/
 (YF (l[i]!).name/\
   ((v=15/\Tv l i)\/
    (¬Tv l i/\
      ((v=16/\¬PD l[i]!)\/
       (PD l[i]! /\
         ((v=17/\SA l[i]!)\/
          (¬SA l[i]! /\
            ((v=15/\∃k,k<i/\Ow l[k]! l[i]!)\/(v=0/\∀k,k<i->¬Ow l[k]! l[i]!)))))))))
def Ci(n:Nat)(l:List Z0)(a e:Int):Prop:=
 (400<n/\a=0/\e=3)\/
 (n<=400/\
   ((∃i:Nat,i<n/\a=i/\e≠0/\Xb l i e/\∀j,j<i->Xb l j 0)\/
    (a=0/\e=0/\∀j,j<n->Xb l j 0)))
def KR(n:Nat)(l:List Z0)(w:World)(e:Ending)(w':World):Prop:=
 ∃a v:Int,e=.returned (.tuple #[.int .i64 a,.int .i64 v])/\Ci n l a v/\Below w.heap.size w w'
def I1(l:List Z0)(w:World)(e:Ending)(w':World):Prop:=KR l.length l w e w'
theorem sk{a b:UInt8}(C:¬a<b)(A:¬b<a):a=b:=by
 rw[ata] at C A;exact UInt8.toNat_inj.1 jO
theorem af6{a b:UInt8}(h:a<b):(a == b)=false:=by
 rw[ata] at h;simp only[af,ne_eq];intro e;subst e;omega
theorem Ch{a b:UInt8}(h:b<a):(a == b)=false:=by
 rw[ata] at h;simp only[af,ne_eq];intro e;subst e;omega
theorem Eh{a b:UInt8}(h:a<b):¬b<a:=by
 rw[ata] at h ⊢;omega
theorem sj:∀a b:List UInt8,Lib.compareBytes a b<0↔Op.bytesLess a b=true
 |[],[]=>by simp[Lib.compareBytes,Op.bytesLess]
 |[],_::_=>by simp[Lib.compareBytes,Op.bytesLess]
 |_::_,[]=>by simp[Lib.compareBytes,Op.bytesLess]
 |a::xs,b::ys=>by
  have D:=sj xs ys;simp only[Lib.compareBytes,Op.bytesLess];by_cases A:a<b;·simp[A]
  ·by_cases C:b<a;·simp[A,C,Ch C]
   ·obtain rfl:=sk A C;simp[A,D]
theorem si:∀a b:List UInt8,0<Lib.compareBytes a b↔Op.bytesLess b a=true
 |[],[]=>by simp[Lib.compareBytes,Op.bytesLess]
 |[],_::_=>by simp[Lib.compareBytes,Op.bytesLess]
 |_::_,[]=>by simp[Lib.compareBytes,Op.bytesLess]
 |a::xs,b::ys=>by
  have D:=si xs ys;simp only[Lib.compareBytes,Op.bytesLess];by_cases A:a<b;·simp[A,Eh A,Ch A]
  ·by_cases C:b<a;·simp[A,C]
   ·obtain rfl:=sk A C;simp[A,D]
theorem sf:∀a b:List UInt8,Lib.compareBytes a b=0↔a=b
 |[],[]=>by simp[Lib.compareBytes]
 |[],_::_=>by simp[Lib.compareBytes]
 |_::_,[]=>by simp[Lib.compareBytes]
 |a::xs,b::ys=>by
  have D:=sf xs ys;simp only[Lib.compareBytes];by_cases A:a<b;·have:=af6 A;simp only[af,ne_eq] at this;simp[A,this]
  ·by_cases C:b<a;·have:=Ch C;simp only[af,ne_eq] at this;simp[A,C,this]
   ·obtain rfl:=sk A C;simp[D]
theorem Nw:∀a:List UInt8,Op.bytesLess a a=false
 |[]=>rfl
 |a::xs=>by
  have A:=Nw xs;have:¬a<a:=λh=>Eh h h
  simp[Op.bytesLess,A,this]
theorem Ov:∀a b c:List UInt8,Op.bytesLess a b=true->Op.bytesLess b c=true->Op.bytesLess a c=true
 |_,_,[],_,h=>by simp[Op.bytesLess] at h
 |[],_,_::_,_,_=>rfl
 |_::_,[],_::_,h,_=>by simp[Op.bytesLess] at h
 |a::xs,b::ys,c::zs,C,A=>by
  simp only[Op.bytesLess,asg,adg,aeg,ahc] at C A ⊢;rcases C with C|⟨rfl,C⟩
  ·rcases A with A|⟨rfl,A⟩
   ·left
    rw[ata] at C A ⊢;omega
   ·exact .inl C
  ·rcases A with A|⟨rfl,A⟩;·exact .inl A
   ·exact .inr ⟨rfl,Ov xs ys zs C A⟩
def Zv(l:List Z0):Prop:=∀j,j<l.length->Xb l j 0
theorem cT{l:List Z0} (h:Xb l j 0):YF (l[j]!).name/\¬Tv l j/\PD l[j]! /\¬SA l[j]! /\∀k,k<j->¬Ow l[k]! l[j]! :=by
 rcases h with⟨h,_⟩|⟨n,⟨h,_⟩|⟨g,⟨h,_⟩|⟨r,⟨h,_⟩|⟨m,⟨h,_⟩|⟨_,c⟩⟩⟩⟩⟩;·omega
 ·omega
 ·omega
 ·omega
 ·omega
 ·exact⟨n,g,r,m,c⟩
theorem gU{l:List Z0}(h:Zv l)(j:Nat)(A:j+1<l.length):Op.bytesLess (l[j]!).name.toList (l[j+1]!).name.toList=true:=by
 have:=(cT (h (j+1) A)).2.1;cases e:Op.bytesLess (l[j]!).name.toList (l[j+1]!).name.toList with
 |true=>rfl
 |false=>exact absurd ⟨jO,by simpa using e⟩ this
theorem gT{l:List Z0}(h:Zv l)(i:Nat):∀d,i+d+1<l.length->Op.bytesLess (l[i]!).name.toList (l[i+d+1]!).name.toList=true
 |0,A=>gU h i A
 |d+1,A=>Ov _ _ _ (gT h i d jO) (gU h (i+d+1) A)
theorem lz{l:List Z0}(h:Zv l){i:Nat}(A:i<j)(C:j<l.length):Op.bytesLess (l[i]!).name.toList (l[j]!).name.toList=true:=by
 have:=gT h i (j-i-1) jO;rwa [show i+(j-i-1)+1=j from jO] at this
theorem ly(t:ByteArray)(r:Z0):Vk t r<0↔Op.bytesLess r.name.toList t.toList=true:=by
 unfold Vk;rw[sj,aha,aha]
theorem zh(t:ByteArray)(r:Z0):0<Vk t r↔Op.bytesLess t.toList r.name.toList=true:=by
 unfold Vk;rw[si,aha,aha]
theorem GK(t:ByteArray)(r:Z0):Vk t r=0↔Uy t r=true:=by
 unfold Vk Uy;rw[sf,aha,aha,ahc]
theorem lx{l:List Z0}(h:Zv l)(t:ByteArray):∀x y,x<=y->y<l.length->Vk t l[y]! <0->Vk t l[x]! <0:=by
 intro x y C hy A;by_cases e:x=y;·subst e;exact A
 ·rw[ly] at A ⊢;exact Ov _ _ _ (lz h jO hy) A
theorem KQ{l:List Z0}{t:ByteArray}{i:Nat}(hA:zi t l i)(A:TX t l i=true):firstIdx (Uy t) l=i:=by
 unfold TX at A;simp only[aeg,adg,ahc] at A;refine Tw _ l i A.1 (λj C=> ?_) ((GK _ _).1 A.2);have:=hA.2.1 j C;cases e:Uy t l[j]! with
 |false=>rfl
 |true=>rw[(GK _ _).2 e] at this;omega
theorem Nv{l:List Z0}(h:Zv l){t:ByteArray}{i:Nat}(hA:zi t l i)(D:TX t l i=false):firstIdx (Uy t) l= -1:=by
 refine PG _ l (λj U=> ?_);cases e:Uy t l[j]! with
 |false=>rfl
 |true=>
  exfalso;have e0:=(GK _ _).2 e;by_cases I:j<i;·have:=hA.2.1 j I;omega
  ·have hi:i<l.length:=by omega
   have Y:=hA.2.2 i (aP _) hi;have C:Vk t l[i]! ≠0:=λe1=>by unfold TX at D;rw[e1,ace hi] at D;simp at D
   by_cases A:j=i;·subst A;exact C e0
   ·have T:=(zh t l[i]!).1 jO;have J:=Ov _ _ _ T (lz h (i:=i) (j:=j) jO U);have:=(zh t l[j]!).2 J;omega
def LM(t:ByteArray)(l:List Z0):Value:=
 if firstIdx (Uy t) l<0 then .tuple #[Z0.zero.val,.int .i64 0,.bool false] else .tuple #[(l[(firstIdx (Uy t) l).toNat]!).val,.int .i64 (firstIdx (Uy t) l),.bool true]
theorem find_ok(t:ByteArray)(sv:Value)(l:List Z0)(w:World)(A:l.length<=1000000)(J:VS w sv l)(D:Zv l):
 Calls prog 41 #[sv,.string t] w λe w'=>e=.returned (LM t l)/\Below w.heap.size w w':=by
 refine(sq t sv l w A J (lx D t)).mono ?_;rintro e w' ⟨i,hA,I,⟨C,rfl⟩|⟨C,rfl⟩⟩;·refine⟨?_,I⟩;unfold LM;rw[KQ hA C,aN jO];simp
 ·refine⟨?_,I⟩;unfold LM;rw[Nv D hA C,aH jO]
theorem least(q:Nat->Bool):∀n,(∀j,j<n->q j=false)\/∃k,k<n/\q k=true/\∀j,j<k->q j=false
 |0=>.inl (λj A=>absurd A (ake j))
 |n+1=>by
  rcases least q n with h|⟨k,hk,D,C⟩
  ·cases e:q n with
   |true=>exact .inr ⟨n,jO,e,h⟩
   |false=>
    refine .inl (λj A=> ?_);by_cases I:j=n;·subst I;exact e
    ·exact h j jO
  ·exact .inr ⟨k,jO,D,C⟩
end Go.Proofs.YtclgigmgbebhgaaGreatDoor.Z4
namespace Go.Proofs.YtclgigmgbebhgaaGreatDoor
open Tryz
open Go Go.Proofs Go.RowKit Go.Maps Go.WideMaps Go.ChangeMaps Go.Sort Go.Shelf
variable {ks:List Int} {W:World}
open Go.WideElems (Fit rd rg pl rd_key rd_val rg_of)
def Rc:Value->Option (DataW Unit×List MemPlace):=λ_=>some (.lit (.bool true),[])
theorem ZB.owns{P:Program}{k:TypeId} {B:Nat}{S:List (Value×Value)}(h:ZB W B S)(hS:∀p∈S,∃l,keyOf P k p.1=some l)(hl:S.length<=maxLen):∃D:List (Lit×DataW Unit),W.ownsMap P k Rc B S.length (.map D)/\D.Perm (S.map λp=>((keyOf P k p.1).getD (.bool false),.lit (.bool true))):=by
 obtain⟨es,clock,hb,A,C⟩:=h;have hlen:es.size=S.length:=by rw[<-A,aac,ang]
 have hF:Fit P k Rc es clock:=⟨jO,C,λx hx=>by obtain⟨l,hl⟩:=hS (x.key,x.val) (by rw[<-A];exact ah.2 ⟨x,hx,rfl⟩);exact⟨(l,.lit (.bool true)),by unfold WideElems.rd;rw[hl];rfl⟩⟩
 refine⟨_,⟨es,clock,hb,hF,jO,rfl⟩,?_⟩;refine(Go.WideShapes.sorted_perm _).trans ?_;rw[<-A,akb];refine List.Perm.of_eq (asc λx hx=> ?_);obtain⟨l,hl⟩:=hS (x.key,x.val) (by rw[<-A];exact ah.2 ⟨x,hx,rfl⟩);have e:WideElems.rd P k Rc x=some (l,.lit (.bool true)):=by unfold WideElems.rd;rw[show keyOf P k x.key=some l from hl];rfl
 rw[rg_of e];show _=((keyOf P k x.key).getD (.bool false),_);rw[show keyOf P k x.key=some l from hl];rfl
theorem af7{n:Int}(h:(Lit.int .i64 n).wf=true):keyOf prog 3 (.int .i64 n)=some (.int .i64 n):=keyOf_int_mk underlying3 h
theorem wS {B:Nat}{S:List (Value×Value)} (h:ZB W B S)(hk:S.map (·.1)=ks.map encZ)(hw:∀n∈ks,(Lit.int .i64 n).wf=true)(hl:ks.length<=1000000):∃D:DataW Unit,W.ownsMap prog 3 Rc B ks.length D/\(intKeys D).Perm ks/\Maps.size D=ks.length:=by
 have hlen:S.length=ks.length:=by have:=ax List.length hk;simpa using this
 have hS:∀p∈S,∃n∈ks,p.1=encZ n:=λp hp=>by
  have:p.1∈ks.map encZ:=by rw[<-hk];exact ah.2 ⟨p,hp,rfl⟩
  obtain⟨n,hn,e⟩:=ah.1 this;exact⟨n,hn,e.symm⟩
 obtain⟨D,C,A⟩:=h.owns (P:=prog) (k:=3) (λp hp=>by obtain⟨n,hn,e⟩:=hS p hp;exact⟨_,by rw[e];exact af7 (hw n hn)⟩) (by unfold maxLen;omega)
 rw[hlen] at C;refine⟨.map D,C,?_,?_⟩
 ·show(D.map λp=>Go.intOf p.1).Perm ks;refine(A.map _).trans (List.Perm.of_eq ?_);rw[akb]
  have e:∀p∈S,(λq:Lit×DataW Unit=>Go.intOf q.1) (((keyOf prog 3 p.1).getD (.bool false),.lit (.bool true)))=(match p.1 with | .int _ n=>n|_=>0):=λp hp=>by obtain⟨n,hn,e⟩:=hS p hp;rw[e,show keyOf prog 3 (encZ n)=some (.int .i64 n) from af7 (hw n hn)];rfl
  rw[asc (g:=λp:Value×Value=>(match p.1 with | .int _ n=>n|_=>0)) (λp hp=>e p hp)];have e2:S.map (λp:Value×Value=>(match p.1 with | .int _ n=>n|_=>0))=(S.map (·.1)).map (λv:Value=>(match v with | .int _ n=>n|_=>0)):=by rw[akb];rfl
  rw[e2,hk,akb];exact List.map_id _
 ·show D.length=_;rw[A.length_eq,aac,hlen]
theorem se(m:Nat):AnyZI.SortsIn prog Tryz.PK Fence.wide m:=
 ⟨λblk off cap ss W C hblk A=>ajb.2 (AnyM.slices_Sort_int Tryz.sortInt blk off cap ss W C hblk A),
  λp cap W=>ajb.2 (AnyM.slices_Sort_int_none Tryz.sortInt p cap W)⟩
theorem wR(A:Option Nat)(W:World):Calls prog 52 #[.map A] W λe w'=>e=.returned (.func (.func 103) #[] #[.pointer (some ⟨W.heap.size,0,none⟩)])/\w'=W.alloc (.cells #[.map A] 140):=
 (ajb (n:=5)).1 (AnyZI.keys_in Tryz.zr Fence.wide 5 trivial rfl A W)
theorem Eg {B:Nat}{S:List (Value×Value)} (h:ZB W B S)(hk:S.map (·.1)=ks.map encZ)(hw:∀n∈ks,(Lit.int .i64 n).wf=true)(hl:ks.length<=1000000):
 Calls prog 51 #[.func (.func 103) #[] #[.pointer (some ⟨W.heap.size,0,none⟩)]] (W.alloc (.cells #[.map (some B)] 140)) λe w'=>∃v,e=.returned v/\w'.ownsRow W.heap.size 3 1 v ks.length ((ks.mergeSort leI).map encZ)/\Below W.heap.size W w':=by
 obtain⟨D,J,Y,U⟩:=wS h hk hw hl;have I:=J.lt
 have C:SeqGives Fence.wide 2 prog 103 #[.pointer (some ⟨W.heap.size,0,none⟩)] encZ (λss=>ss.Perm (intKeys D)) (Maps.size D) (W.alloc (.cells #[.map (some B)] 140)):=
  AnyZI.keys_gives (ρ:=Tryz.MZ) {Tryz.zr with} Fence.wide _ trivial rfl jO W.heap.size B ks.length D _ jS jS (by obtain⟨es,clock,hb,Ft,hs,hD⟩:=J;exact⟨es,clock,(Below.heap_alloc _ _ B I).trans hb,Ft,hs,hD⟩)
 have Z:=AnyZI.sorted_in Tryz.xD Fence.wide 5 trivial trivial trivial trivial rfl jO (se _) (enters_of func102 jK rfl) 103 #[.pointer (some ⟨W.heap.size,0,none⟩)] trivial (enters_of func103 jK rfl) _ _ (by rw[U];unfold maxLen;omega) (by rw[U];omega) _ C;refine((ajb (n:=5)).1 Z).mono ?_;rintro e w' ⟨v,ss,rfl,hS,A,T,hb⟩;have hp:ss.Perm ks:=hS.trans Y;rw[hp.length_eq,mergeSort_of_perm_i hp] at A;exact⟨v,rfl,ownsRow_base_a A jS,((aG _ W).alloc (aP _) _).trans (hb.mono jS)⟩
theorem r9{s:ByteArray}(hs:s.size<=1000000):keyOf prog 9 (.string s)=some (.string s.data.toList):=by
 have h:s.size<=maxLen:=by unfold maxLen;omega
 unfold keyOf mapKey;simp[underlying9,h]
theorem wQ {B:Nat}{S:List (Value×Value)}{ks:List ByteArray}(h:ZB W B S)(hk:S.map (·.1)=ks.map Value.string)(hw:∀s∈ks,s.size<=1000000)(hl:ks.length<=1000000):∃D:DataW Unit,W.ownsMap prog 9 Rc B ks.length D/\(strKeys D).Perm (ks.map (·.data.toList))/\Maps.size D=ks.length:=by
 have hlen:S.length=ks.length:=by have:=ax List.length hk;simpa using this
 have hS:∀p∈S,∃n∈ks,p.1=.string n:=λp hp=>by
  have:p.1∈ks.map Value.string:=by rw[<-hk];exact ah.2 ⟨p,hp,rfl⟩
  obtain⟨n,hn,e⟩:=ah.1 this;exact⟨n,hn,e.symm⟩
 obtain⟨D,C,A⟩:=h.owns (P:=prog) (k:=9) (λp hp=>by obtain⟨n,hn,e⟩:=hS p hp;exact⟨_,by rw[e];exact r9 (hw n hn)⟩) (by unfold maxLen;omega)
 rw[hlen] at C;refine⟨.map D,C,?_,?_⟩
 ·show(D.map λp=>Go.strOf p.1).Perm _;refine(A.map _).trans (List.Perm.of_eq ?_);rw[akb]
  have e:∀p∈S,(λq:Lit×DataW Unit=>Go.strOf q.1) (((keyOf prog 9 p.1).getD (.bool false),.lit (.bool true)))=(match p.1 with | .string n=>n.data.toList|_=>[]):=λp hp=>by obtain⟨n,hn,e⟩:=hS p hp;rw[e,r9 (hw n hn)];rfl
  rw[asc (g:=λp:Value×Value=>(match p.1 with | .string n=>n.data.toList|_=>[])) (λp hp=>e p hp)];have e2:S.map (λp:Value×Value=>(match p.1 with | .string n=>n.data.toList|_=>[]))=(S.map (·.1)).map (λv:Value=>(match v with | .string n=>n.data.toList|_=>[])):=by rw[akb];rfl
  rw[e2,hk,akb];rfl
 ·show D.length=_;rw[A.length_eq,aac,hlen]
theorem rZ(m:Nat):AnyZ.SortsIn prog Tryz.PJ Fence.wide m:=
 ⟨λblk off cap ss W C hblk A=>ajb.2 (AnyM.slices_Sort_string Tryz.sortStr blk off cap ss W C hblk A),
  λp cap W=>ajb.2 (AnyM.slices_Sort_string_none Tryz.sortStr p cap W)⟩
theorem wP(A:Option Nat)(W:World):Calls prog 89 #[.map A] W λe w'=>e=.returned (.func (.func 142) #[] #[.pointer (some ⟨W.heap.size,0,none⟩)])/\w'=W.alloc (.cells #[.map A] 191):=
 (ajb (n:=5)).1 (AnyZ.keys_in Tryz.zq Fence.wide 5 trivial rfl A W)
def lu(ks:List ByteArray)(W:World)(e:Ending)(w':World):Prop:=∃(v:Value) (ss:List ByteArray),e=.returned v/\ss.Perm ks/\w'.ownsRow W.heap.size 9 1 v ss.length (ss.map Value.string)/\Below W.heap.size W w'
theorem Ef {B:Nat}{S:List (Value×Value)}{ks:List ByteArray}(h:ZB W B S)(hk:S.map (·.1)=ks.map Value.string)(hw:∀s∈ks,s.size<=1000000)(hl:ks.length<=1000000):
 Calls prog 88 #[.func (.func 142) #[] #[.pointer (some ⟨W.heap.size,0,none⟩)]] (W.alloc (.cells #[.map (some B)] 191)) (lu ks W):=by
 obtain⟨D,J,Z,Y⟩:=wQ h hk hw hl;have I:=J.lt
 have A:SeqGives Fence.wide 2 prog 142 #[.pointer (some ⟨W.heap.size,0,none⟩)] encStr (λss=>ss.Perm (strKeys D)) (Maps.size D) (W.alloc (.cells #[.map (some B)] 191)):=
  AnyZ.keys_gives (ρ:=Tryz.MX) {Tryz.zq with} Fence.wide _ trivial rfl jO W.heap.size B ks.length D _ jS jS (by obtain⟨es,clock,hb,Ft,hs,hD⟩:=J;exact⟨es,clock,(Below.heap_alloc _ _ B I).trans hb,Ft,hs,hD⟩)
 have cS:=AnyZ.sorted_in Tryz.xz Fence.wide 5 trivial trivial trivial trivial rfl jO (rZ _) (enters_of func132 jK rfl) 142 #[.pointer (some ⟨W.heap.size,0,none⟩)] trivial (enters_of func142 jK rfl) _ _ (by rw[Y];unfold maxLen;omega) (by rw[Y];omega) _ A;refine((ajb (n:=5)).1 cS).mono ?_;rintro e w' ⟨v,ss,rfl,hS,C,U,hb⟩;have hp:(ss.mergeSort (λx y=>decide (x<=y))).Perm (ks.map (·.data.toList)):=(List.mergeSort_perm _ _).trans (hS.trans Z);have T:∀l:List UInt8,encStr l=.string ⟨l.toArray⟩:=λl=>rfl
 refine⟨v,(ss.mergeSort (λx y=>decide (x<=y))).map λl=>⟨l.toArray⟩,rfl,?_,?_,((aG _ W).alloc (aP _) _).trans (hb.mono jS)⟩;·have:=hp.map (λl:List UInt8=>(⟨l.toArray⟩:ByteArray));rw[akb] at this;refine this.trans (List.Perm.of_eq ?_);rw[asc (g:=id) (λs _=>by cases s;simp)];exact List.map_id _
 ·rw[aac,akb,List.length_mergeSort];exact ownsRow_base_a C jS
end Go.Proofs.YtclgigmgbebhgaaGreatDoor
