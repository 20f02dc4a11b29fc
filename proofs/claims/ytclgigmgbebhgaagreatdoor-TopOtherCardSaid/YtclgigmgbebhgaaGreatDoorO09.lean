/- TopOther: part 9: TopRes6 TopRes7 SysRows SysFind SysBs SysNum SysRef SysOf SysRName SysRow SysRight SysLaw TopKeys. -/
import Derived.Shelf.SlicesQ.IndexFunc
import Derived.Lib.Bytealg
import Derived.WalkSmall
import Derived.OwnWalk
import Derived.Lib.AppendZeros
import Derived.Great.Walk
import Derived.Test.YtclgigmgbebhgaaGreatDoorO08
set_option linter.unusedVariables false
set_option linter.unusedSimpArgs false
set_option maxRecDepth 100000
set_option maxHeartbeats 16000000
namespace Go.Proofs.YtclgigmgbebhgaaGreatDoor
open Tryz
open Go Go.Proofs Go.RowKit Go.Maps Go.WideMaps Go.ChangeMaps
theorem DR{d:Nat}(l:List Z3)(r:Z3):strike d (l++[r])=if r.2=d then strike d l else l++[r]:=by
 unfold strike;rw[List.reverse_append];show(List.dropWhile _ (r::l.reverse)).reverse=_;rw[aqb];by_cases h:r.2=d;·rw[aG (by simpa using h),aG h]
 ·rw[aN (by simpa using h),aN h,awg,axf]
theorem rS{N L a c d:Nat}{la:Option Addr}{rs:List Z3}(hL:rs.length=L)(Xl:L<=1000)(hcs:∀r∈rs,r.1.length<=1000/\∀x∈r.1,x.m<Yf/\x.v<Yf)(w:World)(h:Ux N w (.slice la L c) rs)(hN:N<=w.heap.size):
 Calls prog 39 #[.int .i64 a,.slice la L c,.int .u32 d] w λe w'=>∃v us,e=.returned v/\Yk w.heap.size w' v (Yu a d rs) us/\(Yu a d rs).length<=L/\Below w.heap.size w w':=by
 have HL:=aT hL;have HM:=aT h;have HC:=aT hcs;clear hL h hcs;go_enter func39,ntmps39;go_upto_region 2 with fail;go_cut [11,12,13] (λs11 s12 kS wx=>s11=.slice la L c/\s12=.int .i64 (L:Int)/\kS=.int .i64 0/\w=wx)
 case first=>
  go_wp2_with fail;go_meet;exact⟨rfl,rfl,rfl,rfl⟩
 case rest=>
 obtain⟨rfl,rfl,rfl,rfl⟩:=hcut;rename_i hB;refine hB _ _ ?_;clear hB;go_cut [7] from 9 to 41 (λs wx=>∃(v:Value) (us:List Value) (l:List Z3),v=s/\Hid (Yk w.heap.size wx v l us)/\Hid (Xd a rs=l)/\l.length<=L/\Hid (Below w.heap.size w wx))
 case first=>
  go_upto_region 3 with fail;go_loopg [7,13] (L+1) (λgg s7 kS wr=>∃(i:Nat) (v:Value) (us:List Value) (l:List Z3),i<=L/\L-i<gg/\kS=.int .i64 (i:Int)/\v=s7/\l.length<=i/\Hid (Yk w.heap.size wr v l us)/\Hid (Xd a rs=l++Xd a (rs.drop i))/\Hid (Below w.heap.size w wr));case atStart=>exact⟨0,.slice none 0 0,[],[],abc _,jO,rfl,rfl,aR _,Yk.nil _ _,(by show _=_;rfl),aH _ _⟩
  case round=>
   obtain⟨i,v,us,l,zm,VP,rfl,rfl,hll,HR,HS,Z⟩:=hrel;have yU:=jZ i;have Jz:=jW i;by_cases hlt:i<L
   ·have Y8:(i:Int)<(L:Int):=by omega
    obtain⟨r,hr⟩:∃r,rs[i]? =some r:=⟨_,aM (by rw[HL.out];exact hlt)⟩;obtain⟨la2,c2,e,hrow⟩:=HM.out;injection e with e1 e3 e2;subst e1 e2;clear e3;obtain⟨g,off,u,rfl,U7,y0,y1,hcm⟩:=hrow i r hr;obtain⟨hk0,hb0⟩:=HC.out r (af hr);have y0:=ZY Z.out hN U7 y0;have y1:=ZY Z.out hN U7 y1;have Ci:=aT (hcm.below Z.out hN);have fW:=aT (drop_cons hr);have mU:=aT hb0;clear hrow hr hcm hb0;obtain⟨cs,code⟩:=r;dsimp only at*;obtain⟨ua,uc,rfl⟩:∃ua uc,u=.slice ua cs.length uc:=by obtain⟨ua,uc,e,_⟩:=Ci.out;exact⟨ua,uc,e⟩
    obtain⟨K,hK⟩:=jX cs.length;rw[hK] at Ci y0 hk0;have HK:=aT hK;clear hK;have D:=aT (Z7.new wr TQ #[.slice ua K uc,.int .u32 code]);have Jr:=aT (HR.out.Zs ((aH _ _).alloc (aR _) (.cells #[.slice ua K uc,.int .u32 code] TQ)));have I:=aT (Z.out.alloc Z.out.size (.cells #[.slice ua K uc,.int .u32 code] TQ));have T:=aT (Ci.out.below (Yl wr (.cells #[.slice ua K uc,.int .u32 code] TQ)) (aO hN Z.out.size));have HWr:=Z.out.size;have J:Hid (v.ownBlock≠some wr.heap.size):=λe=>asc _ (HR.out.row.lt _ e).2
    go_upto_region 5 with fail;clear HR Z Ci y0 y1;generalize hwa:wr.alloc (.cells #[.slice ua K uc,.int .u32 code] TQ)=wa at*;have hsz:wr.heap.size<wa.heap.size:=by rw[<-hwa,ah];omega
    clear hwa;obtain⟨P,hP⟩:=jX wr.heap.size;rw[hP] at D J hsz ⊢;have rR:Hid (w.heap.size<=P):=by show _<=_;rw[<-hP];exact HWr
    clear hP;go_upto_if 18 with fail
    go_cut [10] from 14 to 41 (λs10 wx=>(s10=.bool false/\Hid (Xd a rs=l++Xd a (rs.drop (i+1)))/\Hid (Yk w.heap.size wx v l us)/\Hid (Below w.heap.size w wx))\/(s10=.bool true/\∃(ns:List Z5) (na:Option Addr) (M nc:Nat),M<=1000/\Hid (ns.length=M)/\Hid (Xd a rs=l++(if M=0 then [(ns,code)] else(ns,code)::Xd a (rs.drop (i+1))))/\Hid (Iz w.heap.size P w wx v l us ns code na M nc none none)))
    case first=>
     by_cases ha:a=2
     ·have haz:((a:Int) == 2)=true:=by rw[ahd];omega
      have HA:=aT ha;clear ha;have HN:=aT (DZ (cs:=cs) (cd:=code) HK.out hk0 mU.out wa T.out (ace (by have:=hsz;have:=rR.out;omega)));obtain⟨⟨p0,p1⟩,_⟩:=XK D.out;go_wp2_with fail;refine HN.out.mono ?_;rintro e w2 ⟨au2,hb⟩;have C:=aT (D.out.below hb D.out.lt);have Y:=aT (Jr.out.Zs hb);have XA:=aT (I.out.trans (hb.mono I.out.size));clear hb HN Jr I D p0 p1;obtain⟨_,f0,f1⟩:=XK C.out;rcases au2 with⟨hno,rfl⟩|⟨x,ns,hns,rfl,hx⟩
      ·have A:Hid (Xd a rs=l++Xd a (rs.drop (i+1))):=by
        show _=_;rw[HS.out,fW.out];unfold Xd;rw[aG HA.out,aG HA.out];show l++(match ZO Zk cs with|none=>YJ (rs.drop (i+1))|some []=>[([],code)]|some ns=>(ns,code)::YJ (rs.drop (i+1)))=_;rw[hno]
       clear hno;go_wp2_with fail;go_meet;exact .inl ⟨rfl,A,(Y.out.kU C.out J.out 0 _).kU (C.out.set 0 _) J.out 1 _,RO XA.out rR.out _ _⟩
      ·obtain⟨xa,xc,rfl⟩:=Z1 hx;have HX:=aT hx;have BM:Hid (ns.length<=1000):=aO (Tz hns) (by rw[HK.out];exact hk0)
       have A:Hid (Xd a rs=l++(if ns.length=0 then [(ns,code)] else(ns,code)::Xd a (rs.drop (i+1)))):=by show _=_;rw[HS.out,fW.out];unfold Xd;rw[aG HA.out,aG HA.out];show l++(match ZO Zk cs with|none=>YJ (rs.drop (i+1))|some []=>[([],code)]|some ns=>(ns,code)::YJ (rs.drop (i+1)))=_;rw[hns];cases ns<;>rfl
       clear hns hx;obtain⟨M,hM⟩:=jX ns.length;have tY:=aT hM;have xd:Hid (w2.ownsRow wa.heap.size TC 4 (.slice xa M xc) ns.length (ns.flatMap cL)):=by rw[<-hM];exact HX.out
       rw[hM] at A BM ⊢;clear hM HX;go_wp2_with fail;go_meet;refine .inr ⟨rfl,ns,xa,M,xc,BM.out,tY,A,⟨(Y.out.kU C.out J.out 0 _).kU (C.out.set 0 _) J.out 1 _,RO XA.out rR.out _ _,(RO XA.out rR.out _ _).size,KG C.out _ _,J.out,λ_=> ?_,λx e=>(by cases e),λb x e=>(by cases e)⟩⟩;have h2:=ZV (ZV xd.out C.out jD 0 (.slice xa M xc)) (C.out.set 0 _) jD 1 (.int .u32 code);exact Tx h2
     ·have haz:((a:Int) == 2)=false:=by rw[ae];omega
      have HA:=aT ha;clear ha;go_wp2_with fail;go_meet;refine .inr ⟨rfl,cs,ua,K,uc,hk0,HK,?_,?_⟩
      ·show _=_;rw[HS.out,fW.out];unfold Xd;rw[aN HA.out,aN HA.out];show l++(if cs=[] then [(cs,code)] else(cs,code)::UR (rs.drop (i+1)))=_;by_cases h0:cs=[];·rw[aG h0,aG (by rw[<-HK.out,h0];rfl)]
       ·rw[aN h0,aN (by rw[<-HK.out];exact λe=>h0 (ahf.1 e))]
      ·exact⟨Jr.out,I.out,I.out.size,D.out,J.out,λ_=>T.out.mono (aO hN I.out.size),λx e=>(by cases e),λb x e=>(by cases e)⟩
    case rest=>
     rcases hcut with⟨rfl,A,Y,XA⟩|⟨rfl,ns,na,M,nc,hM,HMl,A,HSe⟩
     ·clear Jr I D T;go_wp2_with fail;go_roundg (L-i);case measure=>omega
      case rel=>exact⟨i+1,v,us,l,jO,jO,by go_num,rfl,jO,Y,A,XA⟩
     ·clear Jr I D T;obtain⟨p0,p1⟩:=HSe.out.S;have tW:=aT HSe.out.drew;go_upto_region 9 with fail
      go_region_held_law (λw'=>w'.cell? ⟨P,0,none⟩=some (.slice na M nc)/\w'.cell? ⟨P,1,none⟩=some (.int .u32 code)) (first|exact Iz.S (ajc (by (first|assumption|exact tW|exact aT (Iz.Xk (ajc jA) rfl))))|exact(XK U.out.2.2.1).1) (first
       |(go_at_call 92;refine(Iz.clone (ajc (by (first|assumption|exact tW|exact aT (Iz.Xk (ajc jA) rfl)))) HMl.out jO).mono ?_;rintro e w7 ⟨xa,xc,rfl,h7⟩;have LN:=aT h7;clear h7)
       |(refine Iz.step (ajc (by (first|assumption|exact tW|exact aT (Iz.Xk (ajc jA) rfl)))) rfl _ _ rfl rfl rfl jO ?_;intro gb2 ag9 w8 h8;have U:=aT h8;clear h8))
      obtain⟨⟨p0,p1⟩,_⟩:=XK U.out.2.2.1;by_cases h0:M=0
      ·have lQ:((M:Int) == 0)=true:=by rw[ahd];omega
       have HE:Hid (Xd a rs=l++[(ns,code)]):=by have h:=A.out;rwa [aG h0] at h
       clear h0;go_wp2_with fail;go_meet;exact⟨_,_,_,rfl,U.out.1,HE,by rw[ay];simp;omega,U.out.2.1⟩
      ·have lQ:((M:Int) == 0)=false:=by rw[ae];omega
       have HE:Hid (Xd a rs=(l++[(ns,code)])++Xd a (rs.drop (i+1))):=by have h:=A.out;rw[aN h0] at h;show _=_;rw[h,aba];rfl
       clear h0;go_wp2_with fail;go_roundg (L-i);case measure=>omega
       case rel=>exact⟨i+1,_,_,l++[(ns,code)],jO,jO,by go_num,rfl,by rw[ay];simp;omega,U.out.1,HE,U.out.2.1⟩
   ·obtain rfl:i=L:=by omega
    have Y8:¬(i:Int)<(i:Int):=jO;have A:Hid (Xd a rs=l):=by have h:=HS.out;rwa [anc (by rw[HL.out];exact aR _),wE,ade] at h
    go_wp2_with fail;go_meet;exact⟨v,us,l,rfl,HR,A,hll,Z⟩
 case rest=>
  obtain⟨v,us,l,rfl,HR,HS,hll,Z⟩:=hcut;have HO:Hid (Yu a d rs=strike d l):=by show _=_;rw[rT,HS.out]
  obtain⟨va0,vc0,rfl⟩:=Z1 HR.out.row;clear HS;go_wp2_with fail;go_loopg [7] (l.length+1) (λgg s7 wr=>∃(m:Nat) (va:Option Addr) (vc:Nat),s7=.slice va m vc/\m<=l.length/\m<gg/\Hid (Yk w.heap.size wr (.slice va m vc) (l.take m) (us.take m))/\Hid (Yu a d rs=strike d (l.take m))/\Hid (Below w.heap.size w wr));case atStart=>exact⟨l.length,va0,vc0,rfl,aR _,jO,(by show Yk _ _ _ _ _;rw[List.take_length,<-HR.out.len,List.take_length,HR.out.len];exact HR.out),(by rw[List.take_length];exact HO),Z⟩
  case round=>
   obtain⟨m,va,vc,rfl,hm,VP,HRm,HOm,HBm⟩:=hrel;clear HR HO Z;by_cases Cj:m=0
   ·subst Cj
    have HE:Hid (Yu a d rs=l.take 0):=by show _=_;rw[HOm.out];rfl
    go_wp2_with fail;go_ret;exact⟨_,us.take 0,rfl,by rw[HE.out];exact HRm.out,by rw[HE.out];simp,HBm.out⟩
   ·obtain⟨e,he⟩:=jX (m-1);have hmz:decide ((0:Int)<(m:Int))=true:=by simp;omega
    have au3:(0:Int)<(m:Int):=jO;have zi:decide (0<m)=true:=adb jO;have au4:0<m:=jO;have ct:IntKind.i64.wrap ((m:Int)-1)=(e:Int):=by rw[aJ _ jO];omega
    have b0:=jZ e;have b1:(e:Int)<(m:Int):=jO;have tV:e<l.length:=jO;obtain⟨r,hr⟩:∃r,l[e]? =some r:=⟨_,aM tV⟩;have hr2:(l.take m)[e]? =some r:=by rw[aie,aG jO];exact hr
    obtain⟨g,u,rfl,hg,Ju,hu,y0,y1⟩:=HRm.out.cell hr2;have hmc:m<=vc:=(Lt (a:=some ⟨g,0,none⟩) (n:=m) (by have h:=HRm.out.row;rw[abg,Nat.min_eq_left hm] at h;exact h)).1
    have wD:Hid (l.take m=l.take e++[r]):=by show _=_;rw[show m=e+1 from jO];exact VS hr
    have HST:Hid (strike d (l.take m)=if r.2=d then strike d (l.take e) else l.take m):=by show strike d (l.take m)=_;rw[wD.out];exact DR _ _
    have hem:e<=l.length/\e<m:=jO;have sl:=λW=>DT W g m vc e jO
    clear he hr hr2 hu;by_cases hd:r.2=d
    ·have Cg:Hid (Yu a d rs=strike d (l.take e)):=by
      show _=_;rw[HOm.out,HST.out,aG hd]
     have Y:Hid (Yk w.heap.size wr (.slice (some ⟨g,0,none⟩) e vc) (l.take e) (us.take e)):=by have h:=HRm.out.take (m:=e) (by rw[abg];omega);rw[List.take_take,List.take_take,Nat.min_eq_left jO] at h;exact h
     rw[hd] at y1;clear hd HST wD;go_wp2_with fail;go_roundg m;case measure=>omega
     case rel=>exact⟨e,some ⟨g,0,none⟩,vc,rfl,hem.1,jO,Y,Cg,HBm⟩
    ·have HE:Hid (Yu a d rs=l.take m):=by
      show _=_;rw[HOm.out,HST.out,aN hd]
     have hdz:((r.2:Int) == (d:Int))=false:=by rw[ae];omega
     generalize r.2=rd at*;clear HST wD;go_wp2_with fail;go_ret;exact⟨_,us.take m,rfl,by rw[HE.out];exact HRm.out,by rw[HE.out,abg];omega,HBm.out⟩
end Go.Proofs.YtclgigmgbebhgaaGreatDoor
namespace Go.Proofs.YtclgigmgbebhgaaGreatDoor
open Tryz
open Go Go.Proofs Go.RowKit Go.Shelf Go.Sort
theorem yP(x:Int)(w:World):Calls prog 98 #[.int .u32 x] w λe w'=>e=.returned (.bool false)/\w'=w:=by
 go_enter func98,ntmps98;go_wp2_with fail;go_ret;exact⟨jS,rfl⟩
theorem DO(x y:Int)(w:World):Calls prog 44 #[.int .u32 x,.int .u32 y] w λe w'=>e=.returned (.int .i64 (WL x y))/\w'=w:=by
 generalize hS:WL x y=S;have A:=aT hS;clear hS;go_enter func44,ntmps44;go_wp2_with fail;refine(yP _ _).mono ?_;rintro e C ⟨rfl,rfl⟩;go_wp2_with fail;refine(yP _ _).mono ?_;rintro e C ⟨rfl,rfl⟩;by_cases D:x<y;·go_wp2_with fail;go_ret;exact⟨OL (by rw[<-A.out];unfold WL;split<;>(try split)<;>omega),rfl⟩
 ·by_cases I:y<x;·go_wp2_with fail;go_ret;exact⟨OL (by rw[<-A.out];unfold WL;split<;>(try split)<;>omega),rfl⟩
  ·go_wp2_with fail;go_ret;exact⟨OL (by rw[<-A.out];unfold WL;split<;>(try split)<;>omega),rfl⟩
abbrev Ot:Nat:=123
structure LJ where
 (n:Nat)
 (a:Option Addr)
 (m c:Nat)
 rs:List Z3
 us:List Value
instance:Inhabited LJ:=⟨⟨0,none,0,0,[],[]⟩⟩
def Jq(x:LJ):List Value:=[.int .u32 x.n,.slice x.a x.m x.c]
def encS(x:Nat×Nat):List Value:=[.int .u32 x.1,.int .u32 x.2]
theorem au5(x y:LJ)(W:World):Calls prog 43 #[.agg #[.int .u32 x.n,.slice x.a x.m x.c],.agg #[.int .u32 y.n,.slice y.a y.m y.c]] W λe w'=>e=.returned (.int .i64 (WL (x.n:Int) (y.n:Int)))/\∃q A,w'=grow (W.drewN q) A:=by
 go_enter func43,ntmps43;go_wp2_with fail;refine(DO _ _ _).mono ?_;rintro e C ⟨rfl,rfl⟩;go_wp2_with fail;go_ret;exact⟨rfl,0,_,by rw[Go.Sort.alloc_eq_grow,Go.Sort.alloc_eq_grow,Go.Sort.grow_grow];rfl⟩
theorem au6(x y:Nat×Nat)(W:World):Calls prog 46 #[.agg #[.int .u32 x.1,.int .u32 x.2],.agg #[.int .u32 y.1,.int .u32 y.2]] W λe w'=>e=.returned (.int .i64 (WL (x.1:Int) (y.1:Int)))/\∃q A,w'=grow (W.drewN q) A:=by
 go_enter func46,ntmps46;go_wp2_with fail;refine(DO _ _ _).mono ?_;rintro e C ⟨rfl,rfl⟩;go_wp2_with fail;go_ret;exact⟨rfl,0,_,by rw[Go.Sort.alloc_eq_grow,Go.Sort.alloc_eq_grow,Go.Sort.grow_grow];rfl⟩
theorem ltZ{α:Type}(f:α->Nat)(x y:α):ltOf (λx y:α=>WL (f x:Int) (f y:Int)) x y=decide (f x<f y):=by
 unfold ltOf WL;by_cases h:f x<f y;·simp[h]
 ·have A:¬(f x:Int)<(f y:Int):=by omega
  simp only[aN A,h];split<;>simp
theorem ah7{α:Type}(f:α->Nat):SWO (ltOf λx y:α=>WL (f x:Int) (f y:Int)) where
 irrefl x:=by rw[ltZ];simp
 trans x y z h1 h2:=by rw[ltZ] at*;simp at*;omega
 ntrans x y z h1 h2:=by rw[ltZ] at*;simp at*;omega
theorem wC{base n:Nat}{v:Value}{l:List LJ}(w:World)(hl:l.length=n)(hn:n<=1000000)(C:w.ownsRow base Oy 2 v n (l.flatMap Jq)):
 Calls prog 42 #[v,.func (.func 43) #[] #[]] w λe w'=>e=.returned (.tuple #[])/\∃d':List LJ,d'.Perm l/\d'.Pairwise (λa b=>a.n<=b.n)/\w'.ownsRow base Oy 2 v n (d'.flatMap Jq)/\RowKit.Below base w w'/\w.heap.size<=w'.heap.size/\∀j o,w.heap[j]? =some o->v.ownBlock≠some j->w'.heap[j]? =some o:=by
 have h:=Oz Tryz.wZ 2 (λ_=>jK) (λ_=>jK) Jq (λ_=>rfl) (λx v hv=>by unfold Jq at hv;simp at hv;rcases hv with rfl|rfl<;>rfl) (λx y=>WL (x.n:Int) (y.n:Int)) (ah7 LJ.n) 43 #[] (enters_of func43 jK rfl) (λx y W=>au5 x y W) w hl C hn
 refine h.mono ?_;rintro e w' ⟨rfl,d',D,J,I⟩;refine⟨rfl,d',D,J.imp (λ{a b} A=> ?_),I⟩;rw[ltZ LJ.n] at A;simpa using A
theorem wA{base n:Nat}{v:Value}{l:List (Nat×Nat)}(w:World)(hl:l.length=n)(hn:n<=1000000)(C:w.ownsRow base Ot 2 v n (l.flatMap encS)):
 Calls prog 45 #[v,.func (.func 46) #[] #[]] w λe w'=>e=.returned (.tuple #[])/\∃d':List (Nat×Nat),d'.Perm l/\d'.Pairwise (λa b=>a.1<=b.1)/\w'.ownsRow base Ot 2 v n (d'.flatMap encS)/\RowKit.Below base w w'/\w.heap.size<=w'.heap.size/\∀j o,w.heap[j]? =some o->v.ownBlock≠some j->w'.heap[j]? =some o:=by
 have h:=Oz Tryz.lG 2 (λ_=>jK) (λ_=>jK) encS (λ_=>rfl) (λx v hv=>by unfold encS at hv;simp at hv;rcases hv with rfl|rfl<;>rfl) (λx y=>WL (x.1:Int) (y.1:Int)) (ah7 Prod.fst) 46 #[] (enters_of func46 jK rfl) (λx y W=>au6 x y W) w hl C hn
 refine h.mono ?_;rintro e w' ⟨rfl,d',D,J,I⟩;refine⟨rfl,d',D,J.imp (λ{a b} A=> ?_),I⟩;rw[ltZ Prod.fst] at A;simpa using A
end Go.Proofs.YtclgigmgbebhgaaGreatDoor
namespace Go.Proofs.YtclgigmgbebhgaaGreatDoor.Z4
open Tryz
open Go Go.Proofs Go.RowKit
variable {off j:Nat} {W W':World}
structure Z2 where
 name:ByteArray
 n0:Int
 n1:Int
 n2:Int
 n3:Int
 n4:Int
 Yv:Int
 sub:Int
def Z2.zero:Z2:=⟨⟨#[]⟩,0,0,0,0,0,0,0⟩
instance:Inhabited Z2:=⟨Z2.zero⟩
def Z2.cells(r:Z2):List Value:=[.string r.name,.int .i64 r.n0,.int .i64 r.n1,.int .i64 r.n2,.int .i64 r.n3,.int .i64 r.n4,.int .i64 r.Yv,.int .i64 r.sub]
def Vi(W:World)(b off:Nat)(l:List Z2):Prop:=∀j,j<l.length->∀i v,(l[j]!).cells[i]? =some v->W.cell? ⟨b,off+j*8+i,none⟩=some v
def X2(W:World)(sv:Value)(l:List Z2):Prop:=
 ∃a c,sv=.slice a l.length c/\(l=[]\/∃b off,a=some ⟨b,off,none⟩/\b<W.heap.size/\Vi W b off l)
theorem Vi.below {b:Nat}{l:List Z2}(h:Vi W b off l)(hb:Below W.heap.size W W')(A:b<W.heap.size):Vi W' b off l:=
 λj C i v hv=>(hb.cell (p:=⟨b,off+j*8+i,none⟩) A).trans (h j C i v hv)
theorem X2.below {sv:Value}{l:List Z2}(h:X2 W sv l)(hb:Below W.heap.size W W'):X2 W' sv l:=by
 obtain⟨a,c,rfl,h⟩:=h;refine⟨a,c,rfl,?_⟩;rcases h with h|⟨b,off,rfl,A,hr⟩;·exact .inl h
 ·exact .inr ⟨b,off,rfl,adf A hb.size,hr.below hb A⟩
def firstIdx(p:Z2->Bool):List Z2->Int
 |[]=>-1
 |x::r=>if p x=true then 0 else if firstIdx p r<0 then -1 else firstIdx p r+1
theorem Tv(p:Z2->Bool):∀(l:List Z2) (k:Nat),k<l.length->(∀j,j<k->p l[j]! =false)->p l[k]! =true->firstIdx p l=k
 |[],k,h,_,_=>by simp at h
 |x::r,0,_,_,h=>by simp at h;simp[firstIdx,h]
 |x::r,k+1,hk,hm,h=>by
  have C:p x=false:=by simpa using hm 0 jO
  have A:=Tv p r k (by simpa using hk) (λj D=>by simpa using hm (j+1) jO) (by simpa using h);simp[firstIdx,C,A];omega
theorem PJ(p:Z2->Bool):∀(l:List Z2),(∀j,j<l.length->p l[j]! =false)->firstIdx p l= -1
 |[],_=>rfl
 |x::r,hm=>by
  have D:p x=false:=by simpa using hm 0 jS
  have C:=PJ p r (λj A=>by simpa using hm (j+1) (by simpa using A));simp[firstIdx,D,C]
theorem RJ(p:Z2->Bool):∀(l:List Z2),firstIdx p l= -1\/(0<=firstIdx p l/\firstIdx p l<l.length)
 |[]=>.inl rfl
 |x::r=>by
  have A:=RJ p r;simp only[firstIdx,aj];split;·right;omega
  ·split;·left;rfl
   ·right;omega
theorem Vi.rQ {b:Nat}{l:List Z2}(h:Vi W b off l) (A:j<l.length):W.cell? ⟨b,off+j*8,none⟩=some (.string (l[j]!).name):=by
 have:=h j A 0 _ rfl;simpa using this
theorem Oq(a b:ByteArray)(w:World):
 Calls prog 145 #[.string a,.string b] w λe w'=>e=.returned (.int .i64 (Lib.compareBytes a.data.toList b.data.toList))/\w=w':=by
 go_enter func145,ntmps145;go_wp2;rw[run_callFunc_extern func224 jK jK jK (e:=Extern.BytealgCompare.compare) jK,Lib.run_compareString];simp only[Result.andThen];rw[Oper.upon_value];go_wp2;go_ret;exact⟨rfl,rfl⟩
theorem DN(a b:ByteArray)(w:World):
 Calls prog 95 #[.string a,.string b] w λe w'=>e=.returned (.int .i64 (Lib.compareBytes a.data.toList b.data.toList))/\w=w':=by
 go_enter func95,ntmps95
 go_wp2_with (go_at_call 145;refine(Oq _ _ _).mono ?_;rintro e w' ⟨rfl,rfl⟩)
 go_ret;exact⟨rfl,rfl⟩
def Vh(t:ByteArray)(r:Z2):Int:=Lib.compareBytes r.name.data.toList t.data.toList
theorem Iy(t:ByteArray)(r:Z2)(w:World):
 Calls prog 94 #[.agg #[.string r.name,.int .i64 r.n0,.int .i64 r.n1,.int .i64 r.n2,.int .i64 r.n3,.int .i64 r.n4,.int .i64 r.Yv,.int .i64 r.sub],.string t] w
  λe w'=>e=.returned (.int .i64 (Vh t r))/\Below w.heap.size w w':=by
 go_enter func94,ntmps94
 go_wp2_with (go_at_call 95;refine(DN _ _ _).mono ?_;rintro e w' ⟨rfl,rfl⟩)
 go_ret;exact⟨rfl,(aH _ w).alloc (aR _) _⟩
def yO(t:ByteArray)(l:List Z2)(i:Nat):Prop:=
 i<=l.length/\(∀k,k<i->Vh t l[k]! <0)/\(∀k,i<=k->k<l.length->0<=Vh t l[k]!)
def TV(t:ByteArray)(l:List Z2)(i:Nat):Bool:=decide (i<l.length)&&Vh t l[i]! == 0
def rP(t:ByteArray)(l:List Z2)(w:World)(e:Ending)(w':World):Prop:=
 ∃i:Nat,yO t l i/\e=.returned (.tuple #[.int .i64 i,.bool (TV t l i)])/\Below w.heap.size w w'
theorem ah8(t:ByteArray)(b off c:Nat)(zs:List Z2)(w:World)(Pb:zs.length<=1000000)(hb:b<w.heap.size)(hc:Vi w b off zs)
 (I:∀x y,x<=y->y<zs.length->Vh t zs[y]! <0->Vh t zs[x]! <0):
 Calls prog 93 #[.slice (some ⟨b,off,none⟩) zs.length c,.string t,.func (.func 94) #[] #[]] w (rP t zs w):=by
 have Hc:=aT hc;have Hm:=aT I;clear hc I;obtain⟨n,hn⟩:=jX zs.length;rw[hn] at Pb ⊢;have U:=aT hn;clear hn;go_enter func93,ntmps93;go_wp2;go_loopg [9,10] n (λgg s9 s10 wr=>∃i j:Nat,i<=j/\j<=n/\j-i<=gg/\s9=.int .i64 i/\s10=.int .i64 j/\Hid (Below w.heap.size w wr)/\Hid (∀k,k<i->Vh t zs[k]! <0)/\Hid (∀k,j<=k->k<n->0<=Vh t zs[k]!));case atStart=>exact⟨0,n,abc _,aR _,jO,rfl,rfl,aH _ w,λj hj=>absurd hj (ajd _),λk h1 h2=>absurd h1 jO⟩
 case round=>
  obtain⟨i,j,bU,hjn,hg,rfl,rfl,Y,L,R⟩:=hrel;by_cases hlt:i<j
  ·have Y8:(i:Int)<(j:Int):=by omega
   have D:=(Hc.below Y hb) ((i+j)/2) (by rw[U.out];omega);have c0:=D 0 _ rfl;have c1:=D 1 _ rfl;have c2:=D 2 _ rfl;have c3:=D 3 _ rfl;have c4:=D 4 _ rfl;have c5:=D 5 _ rfl;have c6:=D 6 _ rfl;have c7:=D 7 _ rfl;simp only[aeb] at c0;clear D;have A:=Iy t zs[(i+j)/2]! wr;generalize hy:zs[(i+j)/2]! =y at A c0 c1 c2 c3 c4 c5 c6 c7;have Hy:=aT hy;clear hy;generalize hv:Vh t y=v at A;have Hv:=aT hv;clear hv;have C:=aT A;clear A;by_cases T:v<0
   ·have Z:decide (v<0)=true:=by simpa using T
    go_wp2_with fail;refine C.mono ?_;rintro e w' ⟨rfl,J⟩;go_wp2;go_roundg (j-((i+j)/2+1));case measure=>omega
    case rel=>
     refine⟨(i+j)/2+1,j,jO,hjn,jO,by congr 1,rfl,Y.trans (J.mono Y.size),(show Hid _ from λk hk=> ?_),R⟩;exact Hm k ((i+j)/2) jO (by rw[U.out];omega) (by rw[Hy.out,Hv.out];exact T)
   ·have Z:decide (v<0)=false:=by simpa using T
    go_wp2_with fail;refine C.mono ?_;rintro e w' ⟨rfl,J⟩;go_wp2;go_roundg ((i+j)/2-i);case measure=>omega
    case rel=>
     refine⟨i,(i+j)/2,jO,jO,jO,rfl,by congr 1,Y.trans (J.mono Y.size),L,(show Hid _ from λk hk kY=> ?_)⟩;refine Int.not_lt.1 (λRQ=> ?_);have:=Hm ((i+j)/2) k hk (by rw[U.out];exact kY) RQ;rw[Hy.out,Hv.out] at this;omega
  ·obtain rfl:i=j:=by omega
   have hji:¬(i:Int)<(i:Int):=jO;by_cases hin:i<n
   ·have au7:(i:Int)<(n:Int):=by omega
    have D:=(Hc.below Y hb) i (by rw[U.out];omega);have c0:=D 0 _ rfl;have c1:=D 1 _ rfl;have c2:=D 2 _ rfl;have c3:=D 3 _ rfl;have c4:=D 4 _ rfl;have c5:=D 5 _ rfl;have c6:=D 6 _ rfl;have c7:=D 7 _ rfl;simp only[aeb] at c0;clear D;have A:=Iy t zs[i]! wr;generalize hy:zs[i]! =y at A c0 c1 c2 c3 c4 c5 c6 c7;have Hy:=aT hy;clear hy;generalize hv:Vh t y=v at A;have Hv:=aT hv;clear hv;have C:=aT A;clear A;go_wp2_with fail;refine C.mono ?_;rintro e w' ⟨rfl,J⟩;go_wp2;go_ret2;refine⟨i,⟨by rw[U.out];omega,L,λk h1 h2=>R k h1 (by rw[U.out] at h2;exact h2)⟩,?_,Y.trans (J.mono Y.size)⟩;have e:TV t zs i=(v == 0):=by unfold TV;rw[U.out,Hy.out,Hv.out];simp[hin]
    rw[e];rfl
   ·have au7:¬(i:Int)<(n:Int):=by omega
    go_wp2;go_ret2;refine⟨i,⟨by rw[U.out];omega,L,λk h1 h2=>R k h1 (by rw[U.out] at h2;exact h2)⟩,?_,Y⟩;have e:TV t zs i=false:=by unfold TV;rw[U.out];simp[hin]
    rw[e];rfl
theorem bS(t:ByteArray)(sv:Value)(zs:List Z2)(w:World)(C:zs.length<=1000000)(T:X2 w sv zs)
 (A:∀x y,x<=y->y<zs.length->Vh t zs[y]! <0->Vh t zs[x]! <0):
 Calls prog 93 #[sv,.string t,.func (.func 94) #[] #[]] w (rP t zs w):=by
 obtain⟨a,c,rfl,h⟩:=T;rcases h with rfl|⟨b,off,rfl,I,hr⟩
 ·clear A C;go_enter func93,ntmps93;go_wp2
  go_loop [9,10] (λJ D=>J=.int .i64 0/\D=.int .i64 0) (λ_ _=>0)
  case atStart=>exact⟨rfl,rfl⟩
  case round=>
   obtain⟨rfl,rfl⟩:=hrel;go_wp2;go_ret2;exact⟨0,⟨aR _,λk hk=>absurd hk (ajd _),λk _ hk=>absurd hk jS⟩,rfl,aH _ _⟩
 ·exact ah8 t b off c zs w C I hr A
def Z2.val(r:Z2):Value:=.agg #[.string r.name,.int .i64 r.n0,.int .i64 r.n1,.int .i64 r.n2,.int .i64 r.n3,.int .i64 r.n4,.int .i64 r.Yv,.int .i64 r.sub]
def rO(t:ByteArray)(l:List Z2)(w:World)(e:Ending)(w':World):Prop:=
 ∃i:Nat,yO t l i/\Below w.heap.size w w'/\
  ((TV t l i=true/\e=.returned (.tuple #[(l[i]!).val,.int .i64 i,.bool true]))\/(TV t l i=false/\e=.returned (.tuple #[Z2.zero.val,.int .i64 0,.bool false])))
theorem rN(t:ByteArray)(sv:Value)(l:List Z2)(w:World)(T:l.length<=1000000)(D:X2 w sv l)
 (I:∀x y,x<=y->y<l.length->Vh t l[y]! <0->Vh t l[x]! <0):
 Calls prog 41 #[sv,.string t] w (rO t l w):=by
 have hz:=(aH w.heap.size w).alloc (aR _) (.cells #[.string ⟨#[]⟩,.int .i64 0,.int .i64 0,.int .i64 0,.int .i64 0,.int .i64 0,.int .i64 0,.int .i64 0] 40);have Z:=D.below hz;have hbs:=bS t sv l _ T Z I;obtain⟨a,c,rfl,h⟩:=Z;have Hbs:=aT hbs;have Hh:=aT h;clear hbs D h I;go_enter func41,ntmps41;go_wp2_with fail;refine Hbs.mono ?_;rintro e w1 ⟨i,hA,rfl,U⟩;have A:=(Z7.new w 40 #[.string ⟨#[]⟩,.int .i64 0,.int .i64 0,.int .i64 0,.int .i64 0,.int .i64 0,.int .i64 0,.int .i64 0]).below U jS;have Cl:Below w.heap.size w w1:=hz.trans (U.mono jS);have HA:=aT hA;clear hA;cases Y:TV t l i with
 |false=>
  have Hq:=aT Y;clear Y;have z0:=A.frozen 0;have z1:=A.frozen 1;have z2:=A.frozen 2;have z3:=A.frozen 3;have z4:=A.frozen 4;have z5:=A.frozen 5;have z6:=A.frozen 6;have z7:=A.frozen 7;have y0:=A.cell 0;have y1:=A.cell 1;have y2:=A.cell 2;have y3:=A.cell 3;have y4:=A.cell 4;have y5:=A.cell 5;have y6:=A.cell 6;have y7:=A.cell 7;simp only[ak,aL,aF] at y0 y1 y2 y3 y4 y5 y6 y7;go_wp2;have C:=((((((((A.set 0 (.string ⟨#[]⟩)).set 1 (.int .i64 0)).set 2 (.int .i64 0)).set 3 (.int .i64 0)).set 4 (.int .i64 0)).set 5 (.int .i64 0)).set 6 (.int .i64 0)).set 7 (.int .i64 0));have d0:=C.cell 0;have d1:=C.cell 1;have d2:=C.cell 2;have d3:=C.cell 3;have d4:=C.cell 4;have d5:=C.cell 5;have d6:=C.cell 6;have d7:=C.cell 7;simp at d0 d1 d2 d3 d4 d5 d6 d7;refine aag (v:=.tuple #[.agg #[.string ⟨#[]⟩,.int .i64 0,.int .i64 0,.int .i64 0,.int .i64 0,.int .i64 0,.int .i64 0,.int .i64 0],.int .i64 0,.bool false]) (by simp[results,Tryz.results41,go_sem,d0,d1,d2,d3,d4,d5,d6,d7]) rfl ⟨i,HA,((((((((Cl.setCell (p:=⟨w.heap.size,0,none⟩) jS _).setCell (p:=⟨w.heap.size,1,none⟩) jS _).setCell (p:=⟨w.heap.size,2,none⟩) jS _).setCell (p:=⟨w.heap.size,3,none⟩) jS _).setCell (p:=⟨w.heap.size,4,none⟩) jS _).setCell (p:=⟨w.heap.size,5,none⟩) jS _).setCell (p:=⟨w.heap.size,6,none⟩) jS _).setCell (p:=⟨w.heap.size,7,none⟩) jS _),.inr ⟨Hq,rfl⟩⟩
 |true=>
  have J:i<l.length:=by unfold TV at Y;simp at Y;exact Y.1
  obtain⟨b,off,rfl,hlt,hr⟩:∃b off,a=some ⟨b,off,none⟩/\b<(w.alloc (.cells #[.string ⟨#[]⟩,.int .i64 0,.int .i64 0,.int .i64 0,.int .i64 0,.int .i64 0,.int .i64 0,.int .i64 0] 40)).heap.size/\Vi (w.alloc (.cells #[.string ⟨#[]⟩,.int .i64 0,.int .i64 0,.int .i64 0,.int .i64 0,.int .i64 0,.int .i64 0,.int .i64 0] 40)) b off l:=by
   rcases Hh.out with h|h;·rw[h] at J;simp at J
   ·exact h
  have D:=hr.below U hlt i J;have Hq:=aT Y;have c0:=D 0 _ rfl;have c1:=D 1 _ rfl;have c2:=D 2 _ rfl;have c3:=D 3 _ rfl;have c4:=D 4 _ rfl;have c5:=D 5 _ rfl;have c6:=D 6 _ rfl;have c7:=D 7 _ rfl;simp only[aeb] at c0;clear D hr Y Hh;generalize hy:l[i]! =y at c0 c1 c2 c3 c4 c5 c6 c7;have Hy:=aT hy;clear hy;have h0i:=jZ i;have hiz:(i:Int)<(l.length:Int):=jO;generalize hn:l.length=n at J hiz T ⊢;have Hn:=aT hn;clear hn;have z0:=A.frozen 0;have z1:=A.frozen 1;have z2:=A.frozen 2;have z3:=A.frozen 3;have z4:=A.frozen 4;have z5:=A.frozen 5;have z6:=A.frozen 6;have z7:=A.frozen 7;have y0:=A.cell 0;have y1:=A.cell 1;have y2:=A.cell 2;have y3:=A.cell 3;have y4:=A.cell 4;have y5:=A.cell 5;have y6:=A.cell 6;have y7:=A.cell 7;simp only[ak,aL,aF] at y0 y1 y2 y3 y4 y5 y6 y7;go_wp2;have C:=((((((((A.set 0 (.string y.name)).set 1 (.int .i64 y.n0)).set 2 (.int .i64 y.n1)).set 3 (.int .i64 y.n2)).set 4 (.int .i64 y.n3)).set 5 (.int .i64 y.n4)).set 6 (.int .i64 y.Yv)).set 7 (.int .i64 y.sub));have d0:=C.cell 0;have d1:=C.cell 1;have d2:=C.cell 2;have d3:=C.cell 3;have d4:=C.cell 4;have d5:=C.cell 5;have d6:=C.cell 6;have d7:=C.cell 7;simp at d0 d1 d2 d3 d4 d5 d6 d7;refine aag (v:=.tuple #[.agg #[.string y.name,.int .i64 y.n0,.int .i64 y.n1,.int .i64 y.n2,.int .i64 y.n3,.int .i64 y.n4,.int .i64 y.Yv,.int .i64 y.sub],.int .i64 i,.bool true]) (by simp[results,Tryz.results41,go_sem,d0,d1,d2,d3,d4,d5,d6,d7]) rfl ⟨i,HA,((((((((Cl.setCell (p:=⟨w.heap.size,0,none⟩) jS _).setCell (p:=⟨w.heap.size,1,none⟩) jS _).setCell (p:=⟨w.heap.size,2,none⟩) jS _).setCell (p:=⟨w.heap.size,3,none⟩) jS _).setCell (p:=⟨w.heap.size,4,none⟩) jS _).setCell (p:=⟨w.heap.size,5,none⟩) jS _).setCell (p:=⟨w.heap.size,6,none⟩) jS _).setCell (p:=⟨w.heap.size,7,none⟩) jS _),.inl ⟨Hq,by rw[Hy.out];rfl⟩⟩
def Z2.num(r:Z2)(a:Nat):Int:=match a with
 |0=>r.n0|1=>r.n1|2=>r.n2|3=>r.n3|_=>r.n4
def numOf(l:List Z2)(a i:Nat):Int:=if (l[i]!).num a= -1 then -1-(i:Int) else(l[i]!).num a
def RI(t:ByteArray)(r:Z2):Bool:=r.name.toList == t.toList
def O6(q:Nat->Bool):Nat->Nat->Int
 |_,0=>-1
 |i,f+1=>if q i=true then(i:Int) else O6 q (i+1) f
theorem kR:(prog.info? 40).map (λi=>(i.zero,i.size,i.bytes))=some (some (.agg #[.string ⟨#[]⟩,.int .i64 0,.int .i64 0,.int .i64 0,.int .i64 0,.int .i64 0,.int .i64 0,.int .i64 0]),8,72):=jK
def flat(l:List Z2):List Value:=l.flatMap Z2.cells
theorem QZ(r:Z2):r.cells.length=8:=rfl
theorem flat_get:∀(l:List Z2) (j:Nat),j<l.length->∀i,i<8->(flat l)[j*8+i]? =(l[j]!).cells[i]?
 |[],j,h,_,_=>by simp at h
 |x::r,0,_,i,hi=>by simp only[flat,acd,Nat.zero_mul,aca];rw[abb (by rw[QZ];exact hi)];simp
 |x::r,j+1,h,i,hi=>by have A:=flat_get r j (by simpa using h) i hi;simp only[flat,acd] at A ⊢;rw[aae (by rw[QZ];omega),QZ,show(j+1)*8+i-8=j*8+i from jO,A];simp
theorem wm(l:List Z2)(k:Nat)(hk:k<l.length):flat (l.take k)++(l[k]!).cells=flat (l.take (k+1)):=by
 unfold flat;rw[List.take_succ_eq_append_getElem hk,acb,show l[k]! =l[k] by simp[hk]];simp
theorem DM {base:Nat}{e:TypeId}{v:Value}{l:List Z2}(h:W.ownsRow base e 8 v l.length (flat l)):X2 W v l/\(l=[]\/∃g cap,v=.slice (some ⟨g,0,none⟩) l.length cap/\base<=g):=by
 have hl:=h.lt;rcases h.2 with⟨rfl,D⟩|⟨g,cap,I,rfl,A,J,_⟩
 ·have:l=[]:=akc D;subst this;exact⟨⟨none,0,rfl,.inl rfl⟩,.inl rfl⟩
 ·refine⟨⟨_,cap,rfl,.inr ⟨g,0,rfl,(hl g rfl).2,λj C i u hu=> ?_⟩⟩,.inr ⟨g,cap,rfl,A⟩⟩
  have hi:i<8:=by have:=(au.1 hu).1;rw[QZ] at this;exact this
  have:=h.cells (g:=g) rfl (j*8+i) u (by rw[flat_get l j C i hi];exact hu);have e:(⟨g,0,none⟩:Addr).add (j*8+i)=⟨g,0+j*8+i,none⟩:=by rw[Addr.add_lit,amd]
  rw[<-e];exact this
theorem ah9(W:World)(y:Z2):∀j u,y.cells[j]? =some u->((W.alloc (.cells #[.string y.name,.int .i64 y.n0,.int .i64 y.n1,.int .i64 y.n2,.int .i64 y.n3,.int .i64 y.n4,.int .i64 y.Yv,.int .i64 y.sub] 40)).drew).cell? ((⟨W.heap.size,0,none⟩:Addr).add j)=some u:=by
 intro j u h;rw[Addr.add_lit,aca];have:=(Z7.new W 40 #[.string y.name,.int .i64 y.n0,.int .i64 y.n1,.int .i64 y.n2,.int .i64 y.n3,.int .i64 y.n4,.int .i64 y.Yv,.int .i64 y.sub]).cell j;refine Eq.trans this ?_;rw[<-h];simp[Z2.cells]
theorem au8(y:Z2):∀u∈y.cells,u.oneCell'=true:=by
 intro u hu;simp[Z2.cells] at hu;rcases hu with rfl|rfl|rfl|rfl|rfl|rfl|rfl|rfl<;>rfl
theorem UF {o:Obj}{a:Addr}{v:Value}(h:W.cell? a=some v):(W.alloc o).drew.cell? a=some v:=(aea W o none).cell h jS
def bR(n:Nat):Prop:=(97<=n/\n<=122)\/(48<=n/\n<=57)\/n=95
def Yj(s:ByteArray):Prop:=
 s.size<=30/\(∃h:0<s.size,97<=(s[0]'h).toNat/\(s[0]'h).toNat<=122)/\¬s.toList=[100,101,102,97,117,108,116]/\¬s.toList=[120,51,50]/\∀j (h:j<s.size),bR (s[j]'h).toNat
def Oo(x:Int):Prop:=-1<=x/\x<=1073741823
def PH(r:Z2):Prop:=0<=r.Yv/\r.Yv<=2/\(r.Yv=0->r.sub=0)/\(0<r.Yv->1<=r.sub/\r.sub<=255)
def Om(r:Z2):Prop:=(∀a,a<5->Oo (r.num a))/\PH r
def PG(r:Z2):Prop:=r.n2=102\/r.n2=117
def Ol(x r:Z2):Prop:=(∃a,a<5/\0<=r.num a/\x.num a=r.num a)\/(0<r.Yv/\x.Yv=r.Yv/\x.sub=r.sub)
def Tu(l:List Z2)(i:Nat):Prop:=0<i/\Op.bytesLess (l[i-1]!).name.toList (l[i]!).name.toList=false
def W6(l:List Z2)(i:Nat)(v:Int):Prop:=
 (v=13/\¬Yj (l[i]!).name)\/
 (Yj (l[i]!).name/\
   ((v=15/\Tu l i)\/
    (¬Tu l i/\
      ((v=16/\¬Om l[i]!)\/
       (Om l[i]! /\
         ((v=17/\PG l[i]!)\/
          (¬PG l[i]! /\
            ((v=15/\∃k,k<i/\Ol l[k]! l[i]!)\/(v=0/\∀k,k<i->¬Ol l[k]! l[i]!)))))))))
def Br(n:Nat)(l:List Z2)(a e:Int):Prop:=
 (400<n/\a=0/\e=3)\/
 (n<=400/\
   ((∃i:Nat,i<n/\a=i/\e≠0/\W6 l i e/\∀j,j<i->W6 l j 0)\/
    (a=0/\e=0/\∀j,j<n->W6 l j 0)))
def Ky(n:Nat)(l:List Z2)(w:World)(e:Ending)(w':World):Prop:=
 ∃a v:Int,e=.returned (.tuple #[.int .i64 a,.int .i64 v])/\Br n l a v/\Below w.heap.size w w'
def Iw(l:List Z2)(w:World)(e:Ending)(w':World):Prop:=Ky l.length l w e w'
theorem rM{a b:UInt8}(A:¬a<b)(C:¬b<a):a=b:=by
 rw[atc] at A C;exact UInt8.toNat_inj.1 jO
theorem ai0{a b:UInt8}(h:a<b):(a == b)=false:=by
 rw[atc] at h;simp only[ae,ne_eq];intro e;subst e;omega
theorem Bq{a b:UInt8}(h:b<a):(a == b)=false:=by
 rw[atc] at h;simp only[ae,ne_eq];intro e;subst e;omega
theorem DK{a b:UInt8}(h:a<b):¬b<a:=by
 rw[atc] at h ⊢;omega
theorem rL:∀a b:List UInt8,Lib.compareBytes a b<0↔Op.bytesLess a b=true
 |[],[]=>by simp[Lib.compareBytes,Op.bytesLess]
 |[],_::_=>by simp[Lib.compareBytes,Op.bytesLess]
 |_::_,[]=>by simp[Lib.compareBytes,Op.bytesLess]
 |a::xs,b::ys=>by
  have D:=rL xs ys;simp only[Lib.compareBytes,Op.bytesLess];by_cases A:a<b;·simp[A]
  ·by_cases C:b<a;·simp[A,C,Bq C]
   ·obtain rfl:=rM A C;simp[A,D]
theorem rK:∀a b:List UInt8,0<Lib.compareBytes a b↔Op.bytesLess b a=true
 |[],[]=>by simp[Lib.compareBytes,Op.bytesLess]
 |[],_::_=>by simp[Lib.compareBytes,Op.bytesLess]
 |_::_,[]=>by simp[Lib.compareBytes,Op.bytesLess]
 |a::xs,b::ys=>by
  have D:=rK xs ys;simp only[Lib.compareBytes,Op.bytesLess];by_cases A:a<b;·simp[A,DK A,Bq A]
  ·by_cases C:b<a;·simp[A,C]
   ·obtain rfl:=rM A C;simp[A,D]
theorem rJ:∀a b:List UInt8,Lib.compareBytes a b=0↔a=b
 |[],[]=>by simp[Lib.compareBytes]
 |[],_::_=>by simp[Lib.compareBytes]
 |_::_,[]=>by simp[Lib.compareBytes]
 |a::xs,b::ys=>by
  have D:=rJ xs ys;simp only[Lib.compareBytes];by_cases A:a<b;·have:=ai0 A;simp only[ae,ne_eq] at this;simp[A,this]
  ·by_cases C:b<a;·have:=Bq C;simp only[ae,ne_eq] at this;simp[A,C,this]
   ·obtain rfl:=rM A C;simp[D]
theorem Nn:∀a:List UInt8,Op.bytesLess a a=false
 |[]=>rfl
 |a::xs=>by
  have A:=Nn xs;have:¬a<a:=λh=>DK h h
  simp[Op.bytesLess,A,this]
theorem Oj:∀a b c:List UInt8,Op.bytesLess a b=true->Op.bytesLess b c=true->Op.bytesLess a c=true
 |_,_,[],_,h=>by simp[Op.bytesLess] at h
 |[],_,_::_,_,_=>rfl
 |_::_,[],_::_,h,_=>by simp[Op.bytesLess] at h
 |a::xs,b::ys,c::zs,C,A=>by
  simp only[Op.bytesLess,atb,aed,agc,ahd] at C A ⊢;rcases C with C|⟨rfl,C⟩
  ·rcases A with A|⟨rfl,A⟩
   ·left
    rw[atc] at C A ⊢;omega
   ·exact .inl C
  ·rcases A with A|⟨rfl,A⟩;·exact .inl A
   ·exact .inr ⟨rfl,Oj xs ys zs C A⟩
def Zt(l:List Z2):Prop:=∀j,j<l.length->W6 l j 0
theorem fV{l:List Z2} (h:W6 l j 0):Yj (l[j]!).name/\¬Tu l j/\Om l[j]! /\¬PG l[j]! /\∀k,k<j->¬Ol l[k]! l[j]! :=by
 rcases h with⟨h,_⟩|⟨n,⟨h,_⟩|⟨g,⟨h,_⟩|⟨r,⟨h,_⟩|⟨m,⟨h,_⟩|⟨_,c⟩⟩⟩⟩⟩;·omega
 ·omega
 ·omega
 ·omega
 ·omega
 ·exact⟨n,g,r,m,c⟩
theorem fU{l:List Z2}(h:Zt l)(j:Nat)(A:j+1<l.length):Op.bytesLess (l[j]!).name.toList (l[j+1]!).name.toList=true:=by
 have:=(fV (h (j+1) A)).2.1;cases e:Op.bytesLess (l[j]!).name.toList (l[j+1]!).name.toList with
 |true=>rfl
 |false=>exact absurd ⟨jO,by simpa using e⟩ this
theorem fT{l:List Z2}(h:Zt l)(i:Nat):∀d,i+d+1<l.length->Op.bytesLess (l[i]!).name.toList (l[i+d+1]!).name.toList=true
 |0,A=>fU h i A
 |d+1,A=>Oj _ _ _ (fT h i d jO) (fU h (i+d+1) A)
theorem kQ{l:List Z2}(h:Zt l){i:Nat}(A:i<j)(C:j<l.length):Op.bytesLess (l[i]!).name.toList (l[j]!).name.toList=true:=by
 have:=fT h i (j-i-1) jO;rwa [show i+(j-i-1)+1=j from jO] at this
theorem kP(t:ByteArray)(r:Z2):Vh t r<0↔Op.bytesLess r.name.toList t.toList=true:=by
 unfold Vh;rw[rL,aga,aga]
theorem yN(t:ByteArray)(r:Z2):0<Vh t r↔Op.bytesLess t.toList r.name.toList=true:=by
 unfold Vh;rw[rK,aga,aga]
theorem Gh(t:ByteArray)(r:Z2):Vh t r=0↔RI t r=true:=by
 unfold Vh RI;rw[rJ,aga,aga,ahd]
theorem kO{l:List Z2}(h:Zt l)(t:ByteArray):∀x y,x<=y->y<l.length->Vh t l[y]! <0->Vh t l[x]! <0:=by
 intro x y C hy A;by_cases e:x=y;·subst e;exact A
 ·rw[kP] at A ⊢;exact Oj _ _ _ (kQ h jO hy) A
theorem Kw{l:List Z2}{t:ByteArray}{i:Nat}(hA:yO t l i)(A:TV t l i=true):firstIdx (RI t) l=i:=by
 unfold TV at A;simp only[agc,aed,ahd] at A;refine Tv _ l i A.1 (λj C=> ?_) ((Gh _ _).1 A.2);have:=hA.2.1 j C;cases e:RI t l[j]! with
 |false=>rfl
 |true=>rw[(Gh _ _).2 e] at this;omega
theorem Nl{l:List Z2}(h:Zt l){t:ByteArray}{i:Nat}(hA:yO t l i)(D:TV t l i=false):firstIdx (RI t) l= -1:=by
 refine PJ _ l (λj T=> ?_);cases e:RI t l[j]! with
 |false=>rfl
 |true=>
  exfalso;have e0:=(Gh _ _).2 e;by_cases C:j<i;·have:=hA.2.1 j C;omega
  ·have hi:i<l.length:=by omega
   have Y:=hA.2.2 i (aR _) hi;have I:Vh t l[i]! ≠0:=λe1=>by unfold TV at D;rw[e1,adb hi] at D;simp at D
   by_cases A:j=i;·subst A;exact I e0
   ·have U:=(yN t l[i]!).1 jO;have J:=Oj _ _ _ U (kQ h (i:=i) (j:=j) jO T);have:=(yN t l[j]!).2 J;omega
def Lr(t:ByteArray)(l:List Z2):Value:=
 if firstIdx (RI t) l<0 then .tuple #[Z2.zero.val,.int .i64 0,.bool false] else .tuple #[(l[(firstIdx (RI t) l).toNat]!).val,.int .i64 (firstIdx (RI t) l),.bool true]
theorem find_ok(t:ByteArray)(sv:Value)(l:List Z2)(w:World)(A:l.length<=1000000)(J:X2 w sv l)(D:Zt l):
 Calls prog 41 #[sv,.string t] w λe w'=>e=.returned (Lr t l)/\Below w.heap.size w w':=by
 refine(rN t sv l w A J (kO D t)).mono ?_;rintro e w' ⟨i,hA,I,⟨C,rfl⟩|⟨C,rfl⟩⟩;·refine⟨?_,I⟩;unfold Lr;rw[Kw hA C,aN jO];simp
 ·refine⟨?_,I⟩;unfold Lr;rw[Nl D hA C,aG jO]
theorem least(q:Nat->Bool):∀n,(∀j,j<n->q j=false)\/∃k,k<n/\q k=true/\∀j,j<k->q j=false
 |0=>.inl (λj A=>absurd A (ajd j))
 |n+1=>by
  rcases least q n with h|⟨k,hk,C,I⟩
  ·cases e:q n with
   |true=>exact .inr ⟨n,jO,e,h⟩
   |false=>
    refine .inl (λj A=> ?_);by_cases D:j=n;·subst D;exact e
    ·exact h j jO
  ·exact .inr ⟨k,jO,C,I⟩
end Go.Proofs.YtclgigmgbebhgaaGreatDoor.Z4
namespace Go.Proofs.YtclgigmgbebhgaaGreatDoor
open Tryz
open Go Go.Proofs Go.RowKit Go.Maps Go.WideMaps Go.ChangeMaps Go.Sort Go.Shelf
variable {ks:List Int} {W:World}
open Go.WideElems (Fit rd rg pl rd_key rd_val rg_of)
def Rc:Value->Option (DataW Unit×List MemPlace):=λ_=>some (.lit (.bool true),[])
theorem ZB.owns{P:Program}{k:TypeId} {B:Nat}{S:List (Value×Value)}(h:ZB W B S)(hS:∀p∈S,∃l,keyOf P k p.1=some l)(hl:S.length<=maxLen):∃D:List (Lit×DataW Unit),W.ownsMap P k Rc B S.length (.map D)/\D.Perm (S.map λp=>((keyOf P k p.1).getD (.bool false),.lit (.bool true))):=by
 obtain⟨es,clock,hb,A,C⟩:=h;have hlen:es.size=S.length:=by rw[<-A,aad,ang]
 have hF:Fit P k Rc es clock:=⟨jO,C,λx hx=>by obtain⟨l,hl⟩:=hS (x.key,x.val) (by rw[<-A];exact ai.2 ⟨x,hx,rfl⟩);exact⟨(l,.lit (.bool true)),by unfold WideElems.rd;rw[hl];rfl⟩⟩
 refine⟨_,⟨es,clock,hb,hF,jO,rfl⟩,?_⟩;refine(Go.WideShapes.sorted_perm _).trans ?_;rw[<-A,akb];refine List.Perm.of_eq (asf λx hx=> ?_);obtain⟨l,hl⟩:=hS (x.key,x.val) (by rw[<-A];exact ai.2 ⟨x,hx,rfl⟩);have e:WideElems.rd P k Rc x=some (l,.lit (.bool true)):=by unfold WideElems.rd;rw[show keyOf P k x.key=some l from hl];rfl
 rw[rg_of e];show _=((keyOf P k x.key).getD (.bool false),_);rw[show keyOf P k x.key=some l from hl];rfl
theorem ai1{n:Int}(h:(Lit.int .i64 n).wf=true):keyOf prog 3 (.int .i64 n)=some (.int .i64 n):=keyOf_int_mk underlying3 h
theorem wj {B:Nat}{S:List (Value×Value)} (h:ZB W B S)(hk:S.map (·.1)=ks.map encZ)(hw:∀n∈ks,(Lit.int .i64 n).wf=true)(hl:ks.length<=1000000):∃D:DataW Unit,W.ownsMap prog 3 Rc B ks.length D/\(intKeys D).Perm ks/\Maps.size D=ks.length:=by
 have hlen:S.length=ks.length:=by have:=aq List.length hk;simpa using this
 have hS:∀p∈S,∃n∈ks,p.1=encZ n:=λp hp=>by
  have:p.1∈ks.map encZ:=by rw[<-hk];exact ai.2 ⟨p,hp,rfl⟩
  obtain⟨n,hn,e⟩:=ai.1 this;exact⟨n,hn,e.symm⟩
 obtain⟨D,A,C⟩:=h.owns (P:=prog) (k:=3) (λp hp=>by obtain⟨n,hn,e⟩:=hS p hp;exact⟨_,by rw[e];exact ai1 (hw n hn)⟩) (by unfold maxLen;omega)
 rw[hlen] at A;refine⟨.map D,A,?_,?_⟩
 ·show(D.map λp=>Go.intOf p.1).Perm ks;refine(C.map _).trans (List.Perm.of_eq ?_);rw[akb]
  have e:∀p∈S,(λq:Lit×DataW Unit=>Go.intOf q.1) (((keyOf prog 3 p.1).getD (.bool false),.lit (.bool true)))=(match p.1 with | .int _ n=>n|_=>0):=λp hp=>by obtain⟨n,hn,e⟩:=hS p hp;rw[e,show keyOf prog 3 (encZ n)=some (.int .i64 n) from ai1 (hw n hn)];rfl
  rw[asf (g:=λp:Value×Value=>(match p.1 with | .int _ n=>n|_=>0)) (λp hp=>e p hp)];have e2:S.map (λp:Value×Value=>(match p.1 with | .int _ n=>n|_=>0))=(S.map (·.1)).map (λv:Value=>(match v with | .int _ n=>n|_=>0)):=by rw[akb];rfl
  rw[e2,hk,akb];exact List.map_id _
 ·show D.length=_;rw[C.length_eq,aad,hlen]
theorem rI(m:Nat):AnyZI.SortsIn prog Tryz.PQ Fence.wide m:=
 ⟨λblk off cap ss W C hblk A=>aja.2 (AnyM.slices_Sort_int Tryz.sortInt blk off cap ss W C hblk A),
  λp cap W=>aja.2 (AnyM.slices_Sort_int_none Tryz.sortInt p cap W)⟩
theorem wh(A:Option Nat)(W:World):Calls prog 52 #[.map A] W λe w'=>e=.returned (.func (.func 103) #[] #[.pointer (some ⟨W.heap.size,0,none⟩)])/\w'=W.alloc (.cells #[.map A] 140):=
 (aja (n:=5)).1 (AnyZI.keys_in Tryz.ze Fence.wide 5 trivial rfl A W)
theorem DJ {B:Nat}{S:List (Value×Value)} (h:ZB W B S)(hk:S.map (·.1)=ks.map encZ)(hw:∀n∈ks,(Lit.int .i64 n).wf=true)(hl:ks.length<=1000000):
 Calls prog 51 #[.func (.func 103) #[] #[.pointer (some ⟨W.heap.size,0,none⟩)]] (W.alloc (.cells #[.map (some B)] 140)) λe w'=>∃v,e=.returned v/\w'.ownsRow W.heap.size 3 1 v ks.length ((ks.mergeSort leI).map encZ)/\Below W.heap.size W w':=by
 obtain⟨D,J,h2,T⟩:=wj h hk hw hl;have I:=J.lt
 have C:SeqGives Fence.wide 2 prog 103 #[.pointer (some ⟨W.heap.size,0,none⟩)] encZ (λss=>ss.Perm (intKeys D)) (Maps.size D) (W.alloc (.cells #[.map (some B)] 140)):=
  AnyZI.keys_gives (ρ:=Tryz.MN) {Tryz.ze with} Fence.wide _ trivial rfl jO W.heap.size B ks.length D _ jS jS (by obtain⟨es,clock,hb,Z,hs,Y⟩:=J;exact⟨es,clock,(Below.heap_alloc _ _ B I).trans hb,Z,hs,Y⟩)
 have cS:=AnyZI.sorted_in Tryz.wY Fence.wide 5 trivial trivial trivial trivial rfl jO (rI _) (enters_of func102 jK rfl) 103 #[.pointer (some ⟨W.heap.size,0,none⟩)] trivial (enters_of func103 jK rfl) _ _ (by rw[T];unfold maxLen;omega) (by rw[T];omega) _ C;refine((aja (n:=5)).1 cS).mono ?_;rintro e w' ⟨v,ss,rfl,hS,A,U,hb⟩;have hp:ss.Perm ks:=hS.trans h2;rw[hp.length_eq,mergeSort_of_perm_i hp] at A;exact⟨v,rfl,ownsRow_base_a A jS,((aH _ W).alloc (aR _) _).trans (hb.mono jS)⟩
end Go.Proofs.YtclgigmgbebhgaaGreatDoor
