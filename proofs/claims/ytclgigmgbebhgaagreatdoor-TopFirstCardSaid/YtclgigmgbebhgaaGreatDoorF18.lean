/- TopFirst: part 18: TopLayout TopLaid TopShape TopPl2 TopLenU. -/
import Derived.WalkMore
import Derived.Test.YtclgigmgbebhgaaGreatDoorF13
import Derived.Test.YtclgigmgbebhgaaGreatDoorF17
set_option linter.unusedVariables false
set_option linter.unusedSimpArgs false
set_option maxRecDepth 100000
set_option maxHeartbeats 16000000
namespace Go.Proofs.YtclgigmgbebhgaaGreatDoor
open Tryz
open Go Go.Proofs Go.RowKit
variable {K L:Nat}
def Dt(ZU far:Nat->Bool)(n:Nat):Nat:=if ZU n then 0 else if far n then 3 else 1
def ZB(ZU far:Nat->Bool):Nat->Nat
 |0=>0
 |n+1=>ZB ZU far n+Dt ZU far n
theorem qD(ZU far:Nat->Bool)(n:Nat):Dt ZU far n<=3:=by
 unfold Dt;split;·omega
 ·split<;>omega
theorem NU(ZU far:Nat->Bool):∀n,ZB ZU far n<=3*n
 |0=>aR _
 |n+1=>by have:=NU ZU far n;have:=qD ZU far n;show ZB ZU far n+Dt ZU far n<=_;omega
theorem YJ(ZU far:Nat->Bool):∀d n,ZB ZU far n<=ZB ZU far (n+d)
 |0,n=>aR _
 |d+1,n=>aO (YJ ZU far d n) (Nat.le_add_right _ _)
theorem qB(s:R9)(w:World):Calls prog 182 #[.agg #[.int .i64 s.i.mark,.int .u16 s.i.code,.int .u32 s.i.k,.int .i64 s.i.t,.int .i64 s.i.f,.int .i64 s.kind,.int .i64 s.yes,.int .i64 s.no,.bool s.far,.int .i64 s.at_,.bool s.ZU]] w λe w'=>e=.returned (.int .i64 ((if s.ZU then 0 else if s.far then 3 else 1:Nat):Int))/\Below w.heap.size w w':=by
 obtain⟨⟨D,xc,T,J,U⟩,k,y,n,fr,a,u⟩:=s;dsimp only;have I:=Z7.new w S8 #[.int .i64 D,.int .u16 xc,.int .u32 T,.int .i64 J,.int .i64 U,.int .i64 k,.int .i64 y,.int .i64 n,.bool fr,.int .i64 a,.bool u];obtain⟨_,_,_,_,_,_,_,_,Z,_,Y⟩:=I.q11;have C:=aT ((aG w.heap.size w).alloc (aR _) (.cells #[.int .i64 D,.int .u16 xc,.int .u32 T,.int .i64 J,.int .i64 U,.int .i64 k,.int .i64 y,.int .i64 n,.bool fr,.int .i64 a,.bool u] S8));clear I;cases u with
 |true=>
  go_enter func182,ntmps182;go_wp2_with fail;go_ret;exact⟨rfl,C⟩
 |false=>
  cases fr with
  |true=>
   go_enter func182,ntmps182;go_wp2_with fail;go_ret;exact⟨rfl,C⟩
  |false=>
   go_enter func182,ntmps182;go_wp2_with fail;go_ret;exact⟨rfl,C⟩
structure Vo(LO g c K:Nat)(l:List Z9)(ZU:Nat->Bool)(w W:World)(far:Nat->Bool)(at_:Nat->Nat):Prop where
 Zr:Below LO w W
 st:W.ownsRow LO S8 11 (.slice (some ⟨g,0,none⟩) K c) K ((Yo l K ZU far at_).flatMap Y0)
 lo:LO<=w.heap.size/\LO<=g
section
variable {LO g c K:Nat} {l:List Z9} {ZU:Nat->Bool} {w W W':World} {far:Nat->Bool} {at_:Nat->Nat}
theorem Vo.bl(h:Vo LO g c K l ZU w W far at_)(hb:Below W.heap.size W W'):Vo LO g c K l ZU w W' far at_:=⟨h.Zr.trans (hb.mono (aO h.lo.1 h.Zr.size)),ZC h.st hb,h.lo⟩
theorem Vo.Vv(h:Vo LO g c K l ZU w W far at_)(hk:(Z6 l).length=K){m:Nat}{x:Z9}(hx:(Z6 l)[m]? =some x)(j:Nat)(C:j<11):W.cell? ⟨g,m*11+j,none⟩=(Y0 (Zn l K ZU far at_ m x))[j]? :=by
 obtain⟨g',e,_,hc⟩:=X9 Y0 11 (λ_=>rfl) ((V0 _ _ _ _ _).trans hk) h.st (VZ hx);cases e;exact hc j C
theorem Vo.setAt{n a:Nat}{x:Z9}(h:Vo LO g c K l ZU w W far at_)(hx:(Z6 l)[n]? =some x):Vo LO g c K l ZU w (W.setCell ⟨g,n*11+9,none⟩ (.int .i64 a)) far (upd at_ n a):=by
 obtain⟨C,D⟩:=Vj (f:=Y0) (k:=11) (λ_=>rfl) h.st (i:=n) (j:=9) (u:=.int .i64 a) (x:=Zn l K ZU far at_ n x) (x':=Zn l K ZU far (upd at_ n a) n x) (VZ hx) jD (by unfold Zn Y0;rw[upd_same];rfl);rw[<-S7 (l:=l) (d:=K) (d':=K) (ZU:=ZU) (AV:=ZU) (far:=far) (J8:=far) (at_:=at_) (at':=upd at_ n a) hx (λm x hm=>by unfold Zn;rw[TF at_ a hm])] at C;exact⟨h.Zr.setCell (p:=⟨g,_,none⟩) h.lo.2 _,C,h.lo⟩
theorem Vo.bz{n:Nat}{b:Bool}{x:Z9}(h:Vo LO g c K l ZU w W far at_)(hx:(Z6 l)[n]? =some x):Vo LO g c K l ZU w (W.setCell ⟨g,n*11+8,none⟩ (.bool b)) (upd far n b) at_:=by
 obtain⟨C,D⟩:=Vj (f:=Y0) (k:=11) (λ_=>rfl) h.st (i:=n) (j:=8) (u:=.bool b) (x:=Zn l K ZU far at_ n x) (x':=Zn l K ZU (upd far n b) at_ n x) (VZ hx) jD (by unfold Zn Y0;rw[upd_same];rfl);rw[<-S7 (l:=l) (d:=K) (d':=K) (ZU:=ZU) (AV:=ZU) (far:=far) (J8:=upd far n b) (at_:=at_) (at':=at_) hx (λm x hm=>by unfold Zn;rw[TF far b hm])] at C;exact⟨h.Zr.setCell (p:=⟨g,_,none⟩) h.lo.2 _,C,h.lo⟩
theorem Vo.congr{J8:Nat->Bool}{at':Nat->Nat}(h:Vo LO g c K l ZU w W far at_)(hk:(Z6 l).length=K)(D:∀m,m<K->far m=J8 m)(C:∀m,m<K->at_ m=at' m):Vo LO g c K l ZU w W J8 at':=by
 have e:Yo l K ZU far at_=Yo l K ZU J8 at':=by
  apply agb;intro m;rw[Xt,Xt];cases hm:(Z6 l)[m]? with
  |none=>rfl
  |some x=>
   have:=(ak.1 hm).1;rw[hk] at this;show some (Zn _ _ _ _ _ _ _)=some (Zn _ _ _ _ _ _ _);unfold Zn;rw[D m this,C m this]
 exact⟨h.Zr,by rw[<-e];exact h.st,h.lo⟩
end
def Lb(l:List Z9)(ZU far:Nat->Bool)(m:Nat):Bool:=match (Z6 l)[m]? with
 |some x=> !ZU m && !far m&&YS x.code&&decide ((255:Int)<max (ZB ZU far (target l m x.t):Int) (ZB ZU far (target l m x.f):Int)-(ZB ZU far m:Int)-1)
 |none=>false
def Uc(l:List Z9)(ZU far:Nat->Bool)(n:Nat):Nat->Bool:=λm=>far m || (decide (m<n)&&Lb l ZU far m)
def cntF(far:Nat->Bool)(K:Nat):Nat:=((List.range K).filter far).length
theorem kq(far:Nat->Bool)(K:Nat):cntF far K<=K:=by
 unfold cntF;exact aO (atc _ _) (by rw[afe];exact aR _)
theorem qA{l:List Z9}{ZU far:Nat->Bool} (h:(List.range K).any (Lb l ZU far)=true):cntF far K+1<=cntF (Uc l ZU far K) K:=by
 have T:∀(p q:Nat->Bool) (L:List Nat),(∀m∈L,p m=true->q m=true)->(L.filter p).length<=(L.filter q).length/\((∃m∈L,p m=false/\q m=true)->(L.filter p).length+1<=(L.filter q).length):=by
  intro p q L
  induction L with
  |nil=>intro _;exact⟨aR _,λ⟨m,hm,_⟩=>by cases hm⟩
  |cons a L Y=>
   intro C;obtain⟨J,U⟩:=Y (λm hm=>C m (aff _ hm));have ha:=C a agd;rw[aoe,aoe];cases hp:p a with
   |true=>
    rw[aF rfl,aF (ha hp),ai,ai];refine⟨axb J,λ⟨m,hm,I,D⟩=>axb (U ⟨m,?_,I,D⟩)⟩;rcases abb.1 hm with rfl|hm;·rw[hp] at I;cases I
    ·exact hm
   |false=>
    rw[aN jD];cases Z:q a with
    |true=>
     rw[aF rfl,ai];exact⟨Nat.le_succ_of_le J,λ_=>axb J⟩
    |false=>
     rw[aN jD];refine⟨J,λ⟨m,hm,I,D⟩=>U ⟨m,?_,I,D⟩⟩;rcases abb.1 hm with rfl|hm;·rw[Z] at D;cases D
     ·exact hm
 obtain⟨m,hm,hn⟩:=aka.1 h;refine(T far (Uc l ZU far K) (List.range K) (λm _ h=>by unfold Uc;rw[h];rfl)).2 ⟨m,hm,?_,?_⟩
 ·unfold Lb at hn;split at hn;·simp only[aef,Bool.not_eq_true'] at hn;exact hn.1.1.2
  ·cases hn
 ·unfold Uc;rw[hn,acb (aib.1 hm)];simp
structure Mv(l:List Z9)(K:Nat)(ZU far:Nat->Bool):Prop where
 br:∀m x,(Z6 l)[m]? =some x->far m=true->YS x.code=true
 ak2:∀m x,(Z6 l)[m]? =some x->ZU m=false->far m=false->YS x.code=true->(max (ZB ZU far (target l m x.t):Int) (ZB ZU far (target l m x.f):Int)-(ZB ZU far m:Int)-1)<=255
theorem AR{LO g c:Nat}{l q:List Z9}{y:Z9}{ZU qz:Nat->Bool}(hK:(Z6 l).length=K)(Xo:K<=1000000)(hF:ZR l)(hO:∀x∈l,I6 x)(hl:l=q++[y])(hy:y.mark=0)(Dy:y.code=0x06)(ak3:∀m x,(Z6 l)[m]? =some x->qz m=true->YS x.code=true)(w:World)(at0:Nat->Nat)(hst:w.ownsRow LO S8 11 (.slice (some ⟨g,0,none⟩) K c) K ((Yo l K ZU qz at0).flatMap Y0))(VS:LO<=w.heap.size)(hg:LO<=g):
 Calls prog 112 #[.slice (some ⟨g,0,none⟩) K c] w λe w'=>∃far,e=.returned (.int .i64 (ZB ZU far K:Int))/\Mv l K ZU far/\w'.ownsRow LO S8 11 (.slice (some ⟨g,0,none⟩) K c) K ((Yo l K ZU far (ZB ZU far)).flatMap Y0)/\Below LO w w':=by
 have U:=aT hK;have bB:=aT (λ(n:Nat) (x:Z9) (hx:(Z6 l)[n]? =some x) (h6:x.code≠0x06) (m:Int) (hm:m=x.t\/m=x.f)=>J6 hF hl hy hx (λe=>h6 (by rw[e];exact Dy)) hm);have HO:=aT hO;have J:Hid (Vo LO g c K l ZU w w qz at0):=⟨aG _ _,hst,VS,hg⟩;have fO:=aT ak3;clear hK hF hO hl hy Dy hst ak3;go_enter func112,ntmps112;go_wp2_with fail;go_step3;go_wp2_with fail;go_step3;go_wp2_with fail;go_loopg [2] (K+2) (λgg rv wr=>∃(far:Nat->Bool) (at_:Nat->Nat),K+1-cntF far K<gg/\Hid (Vo LO g c K l ZU w wr far at_)/\Hid (∀m x,(Z6 l)[m]? =some x->far m=true->YS x.code=true));case atStart=>exact⟨qz,at0,jO,J,fO⟩
 case round=>
  obtain⟨far,at_,Vs,J,fO⟩:=hrel;go_upto_region 3 with fail;go_loopg [3,10] (K+1) (λgg av iv wr=>∃n:Nat,n<=K/\K-n<gg/\iv=.int .i64 (n:Int)/\av=.int .i64 (ZB ZU far n:Int)/\Hid (Vo LO g c K l ZU w wr far (λm=>if m<n then ZB ZU far m else at_ m)));case atStart=>exact⟨0,abd _,jO,rfl,rfl,J⟩
  case round=>
   obtain⟨n,hnK,mj,rfl,rfl,J⟩:=hrel;have n0:=jZ n;by_cases hlt:n<K
   ·have Zd:(n:Int)<(K:Int):=by omega
    have iw:=jW n;obtain⟨x,hx⟩:∃x,(Z6 l)[n]? =some x:=⟨_,aL (by rw[U.out];exact hlt)⟩;have y9:=J.Vv U hx 9 jD;unfold Y0 Zn at y9;simp only[aM,aH] at y9;have f9:=J.st.frozenAt (n*11+9);have hL2:=J.setAt (a:=ZB ZU far n) hx;obtain⟨s,hs⟩:=jX (Zn l K ZU far (upd (λm=>if m<n then ZB ZU far m else at_ m) n (ZB ZU far n)) n x);have hsz:(if s.ZU then 0 else if s.far then 3 else 1)=Dt ZU far n:=by rw[<-hs];rfl
    have hz:∀j,j<11->(wr.setCell ⟨g,n*11+9,none⟩ (.int .i64 (ZB ZU far n:Int))).cell? ⟨g,n*11+j,none⟩=(Y0 s)[j]? :=λj Z=>by rw[<-hs];exact hL2.Vv U hx j Z
    have z0:=hz 0 jD;have z1:=hz 1 jD;have z2:=hz 2 jD;have z3:=hz 3 jD;have z4:=hz 4 jD;have z5:=hz 5 jD;have z6:=hz 6 jD;have z7:=hz 7 jD;have z8:=hz 8 jD;have z9:=hz 9 jD;have Cg:=hz 10 jD;unfold Y0 at z0 z1 z2 z3 z4 z5 z6 z7 z8 z9 Cg;simp only[aM,aH,aec] at z0 z1 z2 z3 z4 z5 z6 z7 z8 z9 Cg;obtain⟨Sz,hSz⟩:=jX (Dt ZU far n);have Dx:ZB ZU far (n+1)=ZB ZU far n+Sz:=by rw[<-hSz];rfl
    have mS:=NU ZU far n;have tI:=qD ZU far n;rw[hSz] at tI hsz;obtain⟨P,hP⟩:=jX (ZB ZU far n);have aw:IntKind.i64.wrap ((P:Int)+(Sz:Int))=(P:Int)+(Sz:Int):=aJ _ jO;have D:Hid (Vo LO g c K l ZU w (wr.setCell ⟨g,n*11+9,none⟩ (.int .i64 P)) far (λm=>if m<n+1 then ZB ZU far m else at_ m)):=by
     rw[<-hP];refine hL2.congr U (λm _=>rfl) (λm _=> ?_);unfold upd;by_cases zj:m=n;·rw[aF zj,aF jO,zj]
     ·rw[aN zj];dsimp only;by_cases h:m<n;·rw[aF h,aF jO]
      ·rw[aN h,aN jO]
    have HPN:Hid ((ZB ZU far (n+1):Int)=(P:Int)+(Sz:Int)):=by rw[Dx,hP];exact ave _ _
    have gz:=aT hsz;rw[hP] at z0 z1 z2 z3 z4 z5 z6 z7 z8 z9 Cg ⊢;clear hz hs hL2 J hx Dx mS tI hP hSz hsz;go_wp2_with fail;refine(qB s _).mono ?_;rintro e w' ⟨rfl,hb⟩;rw[gz.out];have HL3:=aT (D.bl hb);clear hb D z0 z1 z2 z3 z4 z5 z6 z7 z8 z9 Cg y9 f9;go_wp2_with fail;go_roundg (K-n);case measure=>omega
    case rel=>exact⟨n+1,jO,jO,by go_num,by rw[HPN.out],HL3⟩
   ·obtain rfl:n=K:=by omega
    have Zd:¬(n:Int)<(n:Int):=jO;have HLp:Hid (Vo LO g c n l ZU w wr (Uc l ZU far 0) (ZB ZU far)):=J.congr U (λm _=>by unfold Uc;rw[aeg (akf m)];simp) (λm hm=>aF hm);clear J;go_upto_region 10 with fail;go_loopg [5,28] (n+1) (λgg mv iv wr=>∃m:Nat,m<=n/\n-m<gg/\iv=.int .i64 (m:Int)/\(∃mo,mv=.bool mo/\mo=(List.range m).any (Lb l ZU far))/\Hid (Vo LO g c n l ZU w wr (Uc l ZU far m) (ZB ZU far)));case atStart=>exact⟨0,abd _,jO,rfl,⟨_,rfl,rfl⟩,HLp⟩
    case round=>
     obtain⟨m,zj,ai0,rfl,⟨mo,rfl,bL⟩,J⟩:=hrel;have m0:=jZ m;by_cases Ro:m<n
     ·have Ir:(m:Int)<(n:Int):=by omega
      have iw:=jW m;have HMO:=aT bL;clear bL;obtain⟨x,hx⟩:∃x,(Z6 l)[m]? =some x:=⟨_,aL (by rw[U.out];exact Ro)⟩;have fN:Uc l ZU far m m=far m:=by unfold Uc;rw[aeg (asa m)];simp
      have hc5:=J.Vv U hx 5 jD;have hc8:=J.Vv U hx 8 jD;have Y:=J.Vv U hx 10 jD;unfold Y0 Zn at hc5 hc8 Y;simp only[aM,aH] at hc5 hc8 Y;rw[fN] at hc8;have ak4:(List.range (m+1)).any (Lb l ZU far)=(mo || Lb l ZU far m):=by rw[amc,List.any_append,<-HMO.out];simp
      have I:Lb l ZU far m=false->Vo LO g c n l ZU w wr (Uc l ZU far (m+1)) (ZB ZU far):=λh0=>J.congr U (λj _=>by
       unfold Uc;by_cases Z:j=m;·subst Z;rw[h0];simp
       ·rw[show decide (j<m+1)=decide (j<m) by rw[axf];omega]) (λ_ _=>rfl)
      have C:Lb l ZU far m=(!ZU m && !far m&&YS x.code&&decide ((255:Int)<max (ZB ZU far (target l m x.t):Int) (ZB ZU far (target l m x.f):Int)-(ZB ZU far m:Int)-1)):=by unfold Lb;rw[hx]
      have ko:=aT ak4;obtain⟨hc,_⟩:=(HO x (NV hx).1).2 (NV hx).2;clear ak4;cases hu:ZU m with
      |true=>
       rw[hu] at Y C;have h0:Lb l ZU far m=false:=by rw[C];rfl
       have D:=aT (I h0);have BS:Hid (mo=(List.range (m+1)).any (Lb l ZU far)):=by show _=_;rw[ko.out,h0,Bool.or_false]
       clear I C hx J fN h0;go_wp2_with fail;go_roundg (n-m);case measure=>omega
       case rel=>exact⟨m+1,jO,jO,by go_num,⟨_,rfl,BS⟩,D⟩
      |false=>
       cases hf:far m with
       |true=>
        rw[hu] at Y C;rw[hf] at hc8 C;have h0:Lb l ZU far m=false:=by rw[C];rfl
        have D:=aT (I h0);have BS:Hid (mo=(List.range (m+1)).any (Lb l ZU far)):=by show _=_;rw[ko.out,h0,Bool.or_false]
        clear I C hx J fN h0;go_wp2_with fail;go_roundg (n-m);case measure=>omega
        case rel=>exact⟨m+1,jO,jO,by go_num,⟨_,rfl,BS⟩,D⟩
       |false=>
        rw[hu] at Y C;rw[hf] at hc8 C;cases hb:YS x.code with
        |false=>
         rw[hb] at C;have h0:Lb l ZU far m=false:=by rw[C];rfl
         have D:=aT (I h0);have BS:Hid (mo=(List.range (m+1)).any (Lb l ZU far)):=by show _=_;rw[ko.out,h0,Bool.or_false]
         have F8:=Lc hc hb;obtain⟨KN,qy⟩:=jX (Zx x.code);rw[qy] at F8 hc5;have dI:(KN:Int)<25:=jO;clear I C hx J fN h0 hc qy F8;go_wp2_with fail;go_roundg (n-m);case measure=>omega
         case rel=>exact⟨m+1,jO,jO,by go_num,⟨_,rfl,BS⟩,D⟩
        |true=>
         have F8:=Ld hb;obtain⟨KN,qy⟩:=jX (Zx x.code);rw[qy] at F8 hc5;have dI:¬(KN:Int)<25:=jO;have bw:=J.Vv U hx 6 jD;have bu:=J.Vv U hx 7 jD;have mR:=J.Vv U hx 9 jD;unfold Y0 Zn at bw bu mR;simp only[aM,aH,Ro,if_true] at bw bu mR;have f8:=J.st.frozenAt (m*11+8);have h6:x.code≠0x06:=λe=>by rw[e] at hb;cases hb
         obtain⟨t1,t2⟩:=bB m x hx h6 x.t (.inl rfl);obtain⟨s1,s2⟩:=bB m x hx h6 x.f (.inr rfl);rw[show NW l m x=(target l m x.t:Int) by unfold NW;rw[aN h6]] at bw;rw[show AW l m x=(target l m x.f:Int) by unfold AW;rw[aF hb]] at bu;rw[hb] at C;obtain⟨T,hT⟩:=jX (target l m x.t);obtain⟨F,hF⟩:=jX (target l m x.f);rw[hT] at bw t1 t2 C;rw[hF] at bu s1 s2 C;rw[U.out] at t2 s2;obtain⟨xT,fM⟩:∃x,(Z6 l)[T]? =some x:=⟨_,aL (by rw[U.out];exact t2)⟩;obtain⟨xF,hxF⟩:∃x,(Z6 l)[F]? =some x:=⟨_,aL (by rw[U.out];exact s2)⟩;have hcT:=J.Vv U fM 9 jD;have hcF:=J.Vv U hxF 9 jD;unfold Y0 Zn at hcT hcF;simp only[aM,aH] at hcT hcF;have hs1:ZB ZU far (m+1)=ZB ZU far m+1:=by show _+Dt ZU far m=_;unfold Dt;rw[hu,hf];rfl
         have AQ:=YJ ZU far (T-(m+1)) (m+1);have qw:=YJ ZU far (F-(m+1)) (m+1);rw[show m+1+(T-(m+1))=T from jO,hs1] at AQ;rw[show m+1+(F-(m+1))=F from jO,hs1] at qw;have hpT:=NU ZU far T;have hpF:=NU ZU far F;obtain⟨PT,qu⟩:∃P,ZB ZU far T=P:=⟨_,rfl⟩;obtain⟨PF,hPF⟩:∃P,ZB ZU far F=P:=⟨_,rfl⟩;obtain⟨PM,hPM⟩:∃P,ZB ZU far m=P:=⟨_,rfl⟩;rw[qu] at hcT AQ hpT C;rw[hPF] at hcF qw hpF C;rw[hPM] at mR AQ qw C;simp only[Bool.not_false,Bool.true_and] at C;have T0:=jZ T;have T1:(T:Int)<(n:Int):=jO;have F0:=jZ F;have F1:(F:Int)<(n:Int):=jO;have hL2:=J.bz (b:=Lb l ZU far m) hx;have D:Hid (Vo LO g c n l ZU w (wr.setCell ⟨g,m*11+8,none⟩ (.bool (Lb l ZU far m))) (Uc l ZU far (m+1)) (ZB ZU far)):=hL2.congr U (λj _=>by
          unfold upd;by_cases Z:j=m;·subst Z;rw[aF rfl];unfold Uc;rw[hf,acb (amd j)];simp
          ·rw[aN Z];unfold Uc;rw[show decide (j<m+1)=decide (j<m) by rw[axf];omega]) (λ_ _=>rfl)
         have hval:(decide ((255:Int)<IntKind.i64.wrap (IntKind.i64.wrap ((if PT<PF then(PF:Int) else(PT:Int))-(PM:Int))-1)))=Lb l ZU far m:=by
          rw[C];by_cases bq:PT<PF;·have e1:IntKind.i64.wrap ((PF:Int)-(PM:Int))=(PF:Int)-(PM:Int):=aJ _ jO;rw[aF bq,e1,aJ _ jO,axf];omega
          ·have e1:IntKind.i64.wrap ((PT:Int)-(PM:Int))=(PT:Int)-(PM:Int):=aJ _ jO;rw[aN bq,e1,aJ _ jO,axf];omega
         obtain⟨NB,nC⟩:∃b,Lb l ZU far m=b:=⟨_,rfl⟩;rw[nC] at D hval;have hfr:Uc l ZU far (m+1) m=NB:=by unfold Uc;rw[hf,acb (amd m),nC];simp
         have c8:=D.Vv U hx 8 jD;unfold Y0 Zn at c8;simp only[aM,aH] at c8;rw[hfr] at c8;have HNB:=aT nC;have bn:=aT hval;clear hval hfr;have Ig:=aT c8;clear c8;clear I hx hL2 fN hc qy F8 t1 t2 s1 s2 fM hxF hs1 AQ qw hpT hpF qu hPF hPM hT hF nC C J;go_upto_region 14 with fail
         go_region_held3 (λw'=>w'.cell? ⟨g,m*11+6,none⟩=some (.int .i64 T)/\w'.cell? ⟨g,m*11+7,none⟩=some (.int .i64 F)/\w'.cell? ⟨g,m*11+9,none⟩=some (.int .i64 PM)/\w'.cell? ⟨g,T*11+9,none⟩=some (.int .i64 PT)/\w'.cell? ⟨g,F*11+9,none⟩=some (.int .i64 PF)) (first|exact⟨bw,bu,mR,hcT,hcF⟩|exact⟨(agf _ _ _ _ jS).trans bw,(agf _ _ _ _ jS).trans bu,(agf _ _ _ _ jS).trans mR,(agf _ _ _ _ (by simp<;>omega)).trans hcT,(agf _ _ _ _ (by simp<;>omega)).trans hcF⟩) (fail)
         first|rw[bn.out]|rw[show(max (PT:Int) (PF:Int))=(if PT<PF then(PF:Int) else(PT:Int)) by split<;>omega,bn.out]
         have HL3:Hid (Vo LO g c n l ZU w (wr.setCell ⟨g,m*11+8,none⟩ (.bool NB)).drew (Uc l ZU far (m+1)) (ZB ZU far)):=⟨D.Zr.drew,D.st.drew,D.lo⟩;have c8:=Ig.out;have BS:Hid ((mo || NB)=(List.range (m+1)).any (Lb l ZU far)):=by show _=_;rw[ko.out,HNB.out]
         clear D Ig bn hc5 bw bu hc8 mR Y hcT hcF f8;cases mo with
         |true=>
          go_wp2_with fail
          all_goals
           go_roundg (n-m);case measure=>omega
           case rel=>exact⟨m+1,jO,jO,by go_num,⟨_,rfl,by rw[<-BS.out];simp⟩,HL3⟩
         |false=>
          go_wp2_with fail
          all_goals
           go_roundg (n-m);case measure=>omega
           case rel=>exact⟨m+1,jO,jO,by go_num,⟨_,rfl,by rw[<-BS.out];simp⟩,HL3⟩
     ·obtain rfl:m=n:=by omega
      have Ir:¬(m:Int)<(m:Int):=jO;have HMO:=aT bL;clear bL;cases mo with
      |true=>
       have av1:=qA HMO.symm;have hle:=kq (Uc l ZU far m) m;have ax5:Hid (∀j x,(Z6 l)[j]? =some x->Uc l ZU far m j=true->YS x.code=true):=by
        intro j x hx Z;unfold Uc at Z;cases hf:far j with
        |true=>exact fO j x hx hf
        |false=>
         rw[hf] at Z;simp only[Bool.false_or,aef,adf] at Z;have h:=Z.2;unfold Lb at h;rw[hx] at h;simp only[aef] at h;exact h.1.2
       go_wp2_with fail;go_roundg (m+1-cntF far m);case measure=>omega
       case rel=>exact⟨_,_,jO,J,ax5⟩
      |false=>
       have hno:∀j,j<m->Lb l ZU far j=false:=λj Z=>by
        have h:=HMO.out;cases hn:Lb l ZU far j with
        |false=>rfl
        |true=>exact absurd (aka.2 ⟨j,aib.2 Z,hn⟩) (by rw[<-h];decide)
       have HLf:Hid (Vo LO g c m l ZU w wr far (ZB ZU far)):=J.congr U (λj Z=>by unfold Uc;rw[hno j Z];simp) (λ_ _=>rfl)
       have nA:Hid (Mv l m ZU far):=by refine⟨fO,λj x hx hu hf hb=> ?_⟩;have Z:=(ak.1 hx).1;rw[U.out] at Z;have h:=hno j Z;unfold Lb at h;rw[hx] at h;dsimp only at h;rw[hu,hf,hb] at h;simp only[Bool.not_false,Bool.true_and,apd] at h;omega
       clear hno J fO HMO;go_wp2_with fail
       first
        |(rw[Exit.noGoto_ret];go_ret;exact⟨far,rfl,nA,HLf.st,HLf.Zr⟩)
        |(go_ret;exact⟨far,rfl,nA,HLf.st,HLf.Zr⟩)
structure R8(l:List Z9)(L K:Nat):Prop where
 len:l.length=L
 ins:(Z6 l).length=K
 max:L<=1000000
 fL:ZR l
 ok:∀x∈l,I6 x
 last:∃q y,l=q++[y]/\y.mark=0/\y.code=0x06
theorem R8.pos{l:List Z9} (h:R8 l L K):1<=K/\K<=L:=by
 obtain⟨q,y,e,hy,_⟩:=h.last;constructor;·rw[<-h.ins,e,Yg,Yw hy,ay];exact Nat.le_add_left _ _
 ·rw[<-h.ins,<-h.len];unfold Z6;exact atc _ _
def yA(l:List Z9)(K:Nat)(w:World):Ending->World->Prop:=λe w'=>∃v is far,e=.returned (.tuple #[v,.int .i64 (ZB (λm=> !is m) far K:Int)])/\XF l is K/\Mv l K (λm=> !is m) far/\w'.ownsRow w.heap.size S8 11 v K ((Yo l K (λm=> !is m) far (ZB (λm=> !is m) far)).flatMap Y0)/\Below w.heap.size w w'
theorem qq{N:Nat}{l:List Z9}{c:Nat}{ad:Option Addr}(h:R8 l L K)(w:World)(hm:kA N w ad l)(hN:N<=w.heap.size):
 Calls prog 59 #[.slice ad L c] w (yA l K w):=by
 have C:=aT h;have HS:=aT (vC l L K c ad h.len h.ins h.max h.fL h.ok w hm hN);have hK:=h.pos;clear h hm hN;go_enter func59,ntmps59;go_wp2_with fail;refine HS.mono ?_;rintro e w1 ⟨v,rfl,ho,hb⟩;obtain⟨g,c2,rfl,hg,_⟩:=World.ownsRow.form ho jO;obtain⟨q,y,hl,hy,D⟩:=C.last;have hmx:=C.max;have HR:=aT (Du C.ins jO C.fL C.ok hl hy D w1 ho hb.size hg);have U:=aT hb;clear HS ho hb;go_wp2_with fail;refine HR.mono ?_;rintro e w2 ⟨rfl,is,T,ho,hb⟩;have hsz:=aO U.size hb.size;have I:=aT (AR (ZU:=λm=> !is m) (qz:=λ_=>false) C.ins jO C.fL C.ok hl hy D (λ_ _ _ h=>by cases h) w2 (λ_=>0) ho (by have:=hb.size;have:=U.size;omega) hg)
 have Z:=aT (U.trans hb);have HRT:=aT T;clear HR ho hb T U hl hy D hsz;go_wp2_with fail;refine I.mono ?_;rintro e w3 ⟨far,rfl,J,ho,hb⟩;have Y:=aT (And.intro J (And.intro ho (Z.trans hb)));clear J ho hb I;go_wp2_with fail;go_ret2;exact⟨_,is,far,rfl,HRT,Y.1,Y.2.1,Y.2.2⟩
theorem Hu{p:Nat}(s:R9)(hp:p+1<=s.at_)(hs:s.at_<=4000000)(w:World):Calls prog 60 #[.int .i64 p,.agg #[.int .i64 s.i.mark,.int .u16 s.i.code,.int .u32 s.i.k,.int .i64 s.i.t,.int .i64 s.i.f,.int .i64 s.kind,.int .i64 s.yes,.int .i64 s.no,.bool s.far,.int .i64 s.at_,.bool s.ZU]] w λe w'=>e=.returned (.agg #[.int .u16 5,.int .u8 0,.int .u8 0,.int .u32 ((s.at_-p-1:Nat):Int)])/\Below w.heap.size w w':=by
 obtain⟨⟨I,xc,T,J,U⟩,k,y,n,fr,a,u⟩:=s;dsimp only at hp hs ⊢;have Y:=Z7.new w S8 #[.int .i64 I,.int .u16 xc,.int .u32 T,.int .i64 J,.int .i64 U,.int .i64 k,.int .i64 y,.int .i64 n,.bool fr,.int .i64 a,.bool u];have c9:=Y.e9;have w1:IntKind.i64.wrap ((a:Int)-(p:Int))=(a:Int)-(p:Int):=aJ _ jO;have w2:IntKind.i64.wrap ((a:Int)-(p:Int)-1)=((a-p-1:Nat):Int):=by rw[aJ _ jO];omega
 have w3:IntKind.u32.wrap ((a-p-1:Nat):Int)=((a-p-1:Nat):Int):=awg _ jO;generalize a-p-1=D at*;have HB:=aT (λ(C o2:Obj)=>((aG w.heap.size w).alloc (aR _) C).alloc (by rw[aj];omega) o2);have HQ:Hid (∀C cs,Z7 ((w.alloc C).alloc (.cells cs 166)) (w.heap.size+1) 166 cs):=λC cs=>by have:=Z7.new (w.alloc C) 166 cs;rwa [aj] at this
 go_enter func60,ntmps60;go_wp2_with fail;have hq:=HQ (.cells #[.int .i64 I,.int .u16 xc,.int .u32 T,.int .i64 J,.int .i64 U,.int .i64 k,.int .i64 y,.int .i64 n,.bool fr,.int .i64 a,.bool u] S8) #[.int .u16 5,.int .u8 0,.int .u8 0,.int .u32 D];obtain⟨q0,Z,q2,q3⟩:=hq.q4;refine aaf (v:=.agg #[.int .u16 5,.int .u8 0,.int .u8 0,.int .u32 D]) ?_ rfl ⟨rfl,HB _ _⟩;simp[results,Tryz.f60,go_sem,q0,Z,q2,q3]
end Go.Proofs.YtclgigmgbebhgaaGreatDoor
namespace Go.Proofs.YtclgigmgbebhgaaGreatDoor
open Tryz
open Go Go.Proofs
variable {a m:Nat}
def Sh(x:Z9):Prop:=(x.mark≠0->x=Zq x.mark)/\(x.mark=0->codeOk x.code/\(x.t≠0->YS x.code=true\/x.code=0x05)/\(x.f≠0->YS x.code=true)/\(x.code=0x20->x.k%4=0/\x.k<64)/\x.k<4294967296)
def ZQ(l:List Z9):Prop:=∀x∈l,Sh x
theorem yz{m:Int}(h:m≠0):Sh (Zq m):=⟨λ_=>rfl,λe=>absurd e h⟩
theorem R7{c k:Nat}{t f:Int}(hb:YS c=true)(hk:k<4294967296):Sh (ins c k t f):=
 ⟨λh=>absurd rfl h,λ_=>⟨H9 (.inr (.inr (.inr (.inr hb)))),λ_=>.inl hb,λ_=>hb,λe=>absurd e (Pd hb).1,hk⟩⟩
theorem NT{k:Nat}(C:k%4=0)(hk:k<64):Sh (ins 0x20 k 0 0):=
 ⟨λh=>absurd rfl h,λ_=>⟨.inl rfl,λh=>absurd rfl h,λh=>absurd rfl h,λ_=>⟨C,hk⟩,by show k<_;omega⟩⟩
theorem qp{k:Nat}(hk:k<4294967296):Sh (ins 0x54 k 0 0):=
 ⟨λh=>absurd rfl h,λ_=>⟨.inr (.inl rfl),λh=>absurd rfl h,λh=>absurd rfl h,λh=>absurd (show(0x54:Nat)=0x20 from h) jD,hk⟩⟩
theorem La(t:Int):Sh (ins 0x05 0 t 0):=
 ⟨λh=>absurd rfl h,λ_=>⟨.inr (.inr (.inl rfl)),λ_=>.inr rfl,λh=>absurd rfl h,λh=>absurd (show(0x05:Nat)=0x20 from h) jD,by show 0<_;omega⟩⟩
theorem bj{k:Nat}(hk:k<4294967296):Sh (ins 0x06 k 0 0):=
 ⟨λh=>absurd rfl h,λ_=>⟨.inr (.inr (.inr (.inl rfl))),λh=>absurd rfl h,λh=>absurd rfl h,λh=>absurd (show(0x06:Nat)=0x20 from h) jD,hk⟩⟩
theorem ZQ.app{a b:List Z9}(ha:ZQ a)(hb:ZQ b):ZQ (a++b):=λx hx=>(abf.1 hx).elim (ha x) (hb x)
theorem ZQ.one{x:Z9}(h:Sh x):ZQ [x]:=λy hy=>by
 rcases aaa.1 hy with rfl;exact h
theorem ZQ.two{x y:Z9}(h:Sh x)(C:Sh y):ZQ [x,y]:=ZQ.app (ZQ.one h) (ZQ.one C)
theorem ZQ.three{x y z:Z9}(h:Sh x)(D:Sh y)(C:Sh z):ZQ [x,y,z]:=ZQ.app (ZQ.one h) (ZQ.two D C)
theorem ZQ.nil:ZQ []:=λx hx=>by cases hx
theorem ZQ.if_{b:Bool}{l:List Z9}(h:ZQ l):ZQ (if b=true then l else []):=by
 cases b;·exact ZQ.nil
 ·exact h
theorem fK{v:Nat}(h:v<YN):hi v<4294967296:=by
 unfold hi;unfold YN at h;omega
theorem fJ(v:Nat):lo v<4294967296:=avf _ jD
theorem bg (h:a<=5):Yv a%4=0/\Yv a<64:=by unfold Yv;omega
theorem km (h:a<=5):Y5 a%4=0/\Y5 a<64:=by unfold Y5;omega
theorem kj{c:Z5}{wide:Bool}{yes no:Int}(h:c.nf):ZQ (XC c wide yes no):=by
 obtain⟨ha,_,_,hm,hv⟩:=h;have L:=bg ha;have H:=km ha;have J:=NT L.1 L.2;have I:=NT H.1 H.2;have e:=λ(t f:Int) (k:Nat) (hk:k<4294967296)=>R7 (c:=0x15) (t:=t) (f:=f) rfl hk
 have g:=λ(t f:Int) (k:Nat) (hk:k<4294967296)=>R7 (c:=0x25) (t:=t) (f:=f) rfl hk
 have q:=λ(t f:Int) (k:Nat) (hk:k<4294967296)=>R7 (c:=0x35) (t:=t) (f:=f) rfl hk
 have C:=fK hv;have D:=fJ c.v;have T:=fK hm;have U:=fJ c.m;have same:∀y n,ZQ (Ry (Y5 c.a) (Yv c.a) (hi c.v) (lo c.v) wide y n):=λy n=>(ZQ.if_ (ZQ.two I (e _ _ _ C))).app (ZQ.two J (e _ _ _ D))
 have least:∀y n,ZQ (Vh (Y5 c.a) (Yv c.a) (hi c.v) (lo c.v) wide y n):=λy n=>(ZQ.if_ (ZQ.three I (g _ _ _ C) (e _ _ _ C))).app (ZQ.two J (q _ _ _ D))
 unfold XC;split;·exact same _ _
 ·split;·exact same _ _
  ·split;·exact least _ _
   ·split;·exact least _ _
    ·exact(ZQ.if_ (ZQ.three I (qp T) (e _ _ _ C))).app (ZQ.three J (qp U) (e _ _ _ D))
theorem VB{g:G}{xs:List Z9}(h:ZQ g.l)(hx:ZQ xs):ZQ (g.put xs).l:=h.app hx
theorem QF{g:G} (hm:m≠0)(h:ZQ g.l):ZQ (g.here m).l:=h.app (ZQ.one (yz jO))
theorem qo(g:G)(c:Nat):(g.goes c).l=g.l:=by
 unfold G.goes;split<;>rfl
theorem NS{g:G}(c:Nat)(h:ZQ g.l):ZQ (g.goes c).l:=by rwa [qo]
theorem Ds(wide:Bool)(next:Nat):∀(cs:List Z5) (g:G),(∀c∈cs,c.nf)->ZQ g.l->ZQ (Ze wide next cs g).l
 |[],_,_,h=>h
 |c::cs,g,hc,h=>Ds wide next cs _ (λD C=>hc D (aff _ C)) (QF (aqe _) (VB (show ZQ g.mark.l from h) (kj (hc c agd))))
theorem Dr(wide:Bool)(ow:Nat):∀(rs:List Z3) (g:G),O0 rs->ZQ g.l->ZQ (XK wide ow rs g).l
 |[],_,_,h=>VB h (ZQ.one (La _))
 |(cs,code)::rs,g,hc,h=>Dr wide ow rs _ (λr hr=>hc r (aff _ hr)) (QF (aqe _) (VB (NS _ (Ds wide _ cs _ (hc _ agd).2 (show ZQ g.mark.l from h))) (ZQ.one (La _))))
theorem QE(ow:Nat):∀(k:Nat) (l:List (Nat×Nat)) (g:G),l.length<=k->(∀p∈l,p.1<4294967296)->ZQ g.l->ZQ (ZH ow l g).l
 |_,[],g,_,_,h=>by rw[XA];exact VB h (ZQ.one (La _))
 |_,[(a,m)],g,_,hb,h=>by rw[Xz];exact VB h (ZQ.one (R7 rfl (hb _ agd)))
 |0,x::y::r,g,hk,_,_=>by simp at hk
 |k+1,x::y::r,g,hk,hb,h=>by have hlen:(x::y::r).length=r.length+2:=rfl;rw[XU ow (x::y::r) jS g];refine QE ow k _ _ (by rw[aia];omega) (λp hp=>hb p (apa hp)) (QF (aqe _) (QE ow k _ _ (by rw[abg];omega) (λp hp=>hb p (ald hp)) (VB (show ZQ g.mark.l from h) (ZQ.one (R7 rfl ?_)))));rw[aee,aL jO];exact hb _ (List.getElem_mem _)
theorem Ht:∀(l:List (Nat×Nat)) (g:G),(Zw l g).l=g.l
 |[],_=>rfl
 |p::r,g=>(Ht r _).trans (qo g p.2)
theorem ki(ow:Nat)(l:List (Nat×Nat))(g:G)(hl:∀p∈l,p.1<4294967296)(h:ZQ g.l):ZQ (WG ow l g).l:=by
 unfold WG;refine QE ow _ _ _ (aR _) (λp hp=> ?_) ?_;·obtain⟨q,C,rfl⟩:=ah.1 hp;exact hl q C
 ·rw[Ht];exact VB h (ZQ.one (NT jD jD))
def qm:ZM->Prop
 | .rules _ rs=>O0 rs
 | .subs l=>∀p∈l,p.1<4294967296/\p.2<4294967296
def Ub(ps:List (Nat×ZM)):Prop:=∀p∈ps,p.1<4294967296/\qm p.2
theorem kh(ow:Nat)(p:ZM)(g:G)(hp:qm p)(h:ZQ g.l):ZQ (VM ow p g).l:=by
 cases p with
 |rules wide rs=>exact Dr wide ow rs g hp h
 |subs l=>exact ki ow l g (λp q=>(hp p q).1) h
theorem J4(ow:Nat):∀(ps:List ZM) (m:Nat) (g:G),m≠0->(∀p∈ps,qm p)->ZQ g.l->ZQ (X7 ow ps m g).l
 |[],_,_,_,_,h=>h
 |p::ps,m,g,hm,hp,h=>J4 ow ps _ _ (aqe _) (λq C=>hp q (aff _ C)) (kh ow p _ (hp p agd) (QF hm h))
theorem TE{d:Nat}{ps:List (Nat×ZM)}{g:G}(hp:Ub ps)(h:ZQ g.l):ZQ (Y3 d ps g).l:=by
 unfold Y3;refine J4 _ _ _ _ (aqe _) (λp q=> ?_) (QE _ _ _ _ (aR _) (λp q=> ?_) (NS d h));·obtain⟨x,hx,rfl⟩:=ah.1 q;exact(hp x hx).2
 ·obtain⟨_,x,hx,e⟩:=T4 ps _ p q;rw[<-e];exact(hp x hx).1
theorem bf{Vl:Bool}{d:Nat}{p0 p1:List (Nat×ZM)}{g:G}(D:Ub p0)(I:Ub p1)(h:ZQ g.l):ZQ (Un Vl d p0 p1 g).l:=by
 unfold Un;have C:ZQ ((g.goes d).put [ins 0x15 NONE (look (g.goes d).b d) 0]).l:=VB (NS d h) (ZQ.one (R7 rfl jD));split;·exact TE D (VB (NS _ C) (ZQ.one (R7 rfl jD)))
 ·exact TE I (QF (aqe _) (TE D (VB C (ZQ.one (R7 rfl jD)))))
theorem F7 {g:G}(hm:m≠0)(h:ZQ g.l):ZQ (Ve m g).l:=VB (QF hm h) (ZQ.one (NT jD jD))
theorem kf:ZQ XH.l:=VB (NS _ ((ZQ.one (NT jD jD)).app ((ZQ.two (R7 rfl jD) (R7 rfl jD)).app (ZQ.two (R7 rfl jD) (R7 rfl jD))))) (ZQ.one (La _))
def YE.B(p:YE):Prop:=Ub p.p0/\Ub p.p1/\Ub p.p2/\Ub p.p3/\Ub p.p4
theorem ak5{p:YE}(h:p.B):ZQ (gD p).l:=by
 obtain⟨T,I,J,C,D⟩:=h;exact TE D (F7 jD (TE C (F7 jD (TE J (F7 jD (bf T I (F7 jD kf)))))))
theorem Hs(b:List (Nat×Nat)):∀cs:List Nat,(∀c∈cs,c<4294967296/\look b c≠0)->ZQ (Zv b cs)
 |[],_=>ZQ.nil
 |c::cs,h=>by have D:=h c agd;unfold Zv;rw[ace];exact(ZQ.two (yz (by have:=D.2;omega)) (bj D.1)).app (Hs b cs (λI C=>h I (aff _ C)))
theorem J3{p:YE}{cs:List Nat}(hc:Oz p cs)(t:Int):t∈marks (ZL p cs)↔1<=t/\t<=((gD p).n:Int):=by
 have I:=(TZ p).2.2.2.1;unfold ZL;rw[WQ,abf,WD _ _ (λc h=>(hc.2 c).1 h),I.all t];constructor
 ·rintro(h|h);·exact .inl h
  ·obtain⟨c,C,D⟩:=ah.1 h;exact .inr (.inr ⟨c,(hc.2 c).1 C,D⟩)
 ·rintro(h|h|⟨c,C,D⟩);·exact .inl h
  ·exact absurd h id
  ·exact .inr (ah.2 ⟨c,(hc.2 c).2 C,D⟩)
theorem ql(l:List Z9):(marks l).length<=l.length:=by
 unfold marks;rw[aab];exact atc _ _
theorem Ho{α:Type}[BEq α][LawfulBEq α]:∀{l m:List α},l.Nodup->(∀x∈l,x∈m)->l.length<=m.length
 |[],_,_,_=>abd _
 |x::l,m,hn,hs=>by obtain⟨I,C⟩:=ayc.1 hn;have hx:=hs x agd;have D:=Ho (m:=m.erase x) C (λy hy=>(List.mem_erase_of_ne (show y≠x from λe=>I (e▸hy))).2 (hs y (aff _ hy)));rw[List.length_erase_of_mem hx] at D;have:=List.length_pos_of_mem hx;rw[ai];omega
theorem bc{p:YE}{cs:List Nat}(hc:Oz p cs):(gD p).n<=(ZL p cs).length:=by
 have hs:((List.range (gD p).n).map λi=>((i:Nat):Int)+1) ⊆ marks (ZL p cs):=λt ht=>by obtain⟨i,hi,rfl⟩:=ah.1 ht;have:=aib.1 hi;exact(J3 hc _).2 jO
 have hn:((List.range (gD p).n).map λi=>((i:Nat):Int)+1).Nodup:=by unfold List.Nodup;rw[afa];exact List.nodup_range.imp (λ{a b} C e=>C jO)
 have:=Ho hn (λx hx=>hs hx);rw[aab,afe] at this;exact aO this (ql _)
theorem Dq{p:YE}{cs:List Nat}(hc:Oz p cs)(Z:p.B)(I:∀c∈cs,c<4294967296)(C:(ZL p cs).length<=1000000):R8 (ZL p cs) (ZL p cs).length (Z6 (ZL p cs)).length:=by
 refine⟨rfl,rfl,C,Vt hc,λx hx=> ?_,?_⟩;·have hs:Sh x:=(abf.1 hx).elim (ak5 Z x) (Hs _ _ (λc q=>⟨I c q,(hc.2 c).1 q⟩) x);refine⟨λh=>⟨hs.1 h,?_⟩,hs.2⟩;have hm:x.mark∈marks (ZL p cs):=ah.2 ⟨x,ape.2 ⟨hx,by simpa using h⟩,rfl⟩;have:=(J3 hc _).1 hm;have:=bc hc;omega
 ·have D:cs≠[]:=by
   rintro rfl;have hk:look (gD p).b Zm≠0:=by have J:=OA.2.2;obtain⟨_,_,_,_,l1,U,Y,T⟩:=TZ p;have:=(((l1.trans U).trans Y).trans T).b _ J;rw[this];exact J
   have:=(hc.2 Zm).2 hk;cases this
  obtain⟨q,c,rfl⟩:∃q c,cs=q++[c]:=⟨_,_,(apb D).symm⟩;refine⟨(gD p).l++(Zv (gD p).b q++[Zq (look (gD p).b c)]),ins 0x06 c 0 0,?_,rfl,rfl⟩;unfold ZL Zv;rw[aca,ace,asc];simp
end Go.Proofs.YtclgigmgbebhgaaGreatDoor
namespace Go.Proofs.YtclgigmgbebhgaaGreatDoor
open Tryz
open Go Go.Proofs Go.RowKit
theorem Dp{t:ByteArray}{r:Z4.Z1}:Z4.UO t r=true↔r.name=t:=by
 unfold Z4.UO;rw[ahc];constructor;·intro e;rw[aha,aha] at e;exact ByteArray.ext (Array.toList_inj.1 e)
 ·rintro rfl;rfl
theorem Mu(p:Z4.Z1->Bool):∀l:List Z4.Z1,0<=Z4.firstIdx p l->∃i:Nat,i<l.length/\Z4.firstIdx p l=(i:Int)/\p l[i]! =true
 |[],h=>by simp[Z4.firstIdx] at h
 |x::r,h=>by
  unfold Z4.firstIdx at h ⊢;by_cases hp:p x=true;·exact⟨0,jS,by rw[aF hp];rfl,by simpa using hp⟩
  ·rw[aN hp] at h ⊢;by_cases C:Z4.firstIdx p r<0;·rw[aF C] at h;omega
   ·rw[aN C] at h ⊢;obtain⟨i,J,I,D⟩:=Mu p r jO;exact⟨i+1,by simp;omega,by rw[I];rfl,by simpa using D⟩
theorem J2{l:List Z4.Z1}{nm:ByteArray}(h:0<=Z4.firstIdx (Z4.UO nm) l):∃i,i<l.length/\YK l nm=l[i]! /\(l[i]!).name=nm:=by
 obtain⟨i,D,I,C⟩:=Mu _ _ h;refine⟨i,D,?_,Dp.1 C⟩;unfold YK;rw[aN jO,I];simp
theorem AP{l:List Z4.Z1}{i:Nat}(hi:i<l.length):0<=Z4.firstIdx (Z4.UO (l[i]!).name) l:=by
 rcases Z4.least (λj=>Z4.UO (l[i]!).name l[j]!) l.length with h|⟨k,hk,C,D⟩;·have:=h i hi;rw[Dp.2 rfl] at this;cases this
 ·rw[Z4.Te _ l k hk D C];omega
theorem vA{l:List Z4.Z1}(C:Z4.ZA l){i j:Nat}(hi:i<l.length)(D:j<l.length)(e:(l[i]!).name=(l[j]!).name):i=j:=by
 rcases Nat.lt_trichotomy i j with h|h|h;·have:=Z4.lh C h D;rw[e,Z4.Nc] at this;cases this
 ·exact h
 ·have:=Z4.lh C h hi;rw[e,Z4.Nc] at this;cases this
theorem qj{l:List Z4.Z1}(C:Z4.ZA l){i:Nat}(hi:i<l.length):YK l (l[i]!).name=l[i]! :=by
 obtain⟨j,I,D,J⟩:=J2 (AP hi);rw[D,vA C I hi J]
theorem J1{l:List Z4.Z1}(I:Z4.ZA l){i j:Nat}(hi:i<l.length)(J:j<l.length)(D:i≠j):(∀a,a<5->0<=(l[i]!).num a->(l[i]!).num a≠(l[j]!).num a)/\(0<(l[i]!).Yp->(l[i]!).Yp=(l[j]!).Yp->(l[i]!).sub≠(l[j]!).sub):=by
 rcases ayg D with h|h;·have:=(Z4.cu (I j J)).2.2.2.2 i h;refine⟨λa ha C e=>this (.inl ⟨a,ha,by rw[<-e];exact C,e⟩),λC e1 e2=>this (.inr ⟨by rw[<-e1];exact C,e1,e2⟩)⟩
 ·have:=(Z4.cu (I i hi)).2.2.2.2 j h;exact⟨λa ha C e=>this (.inl ⟨a,ha,C,e.symm⟩),λC e1 e2=>this (.inr ⟨C,e1.symm,e2.symm⟩)⟩
def Mt(l:List Z4.Z1)(dn:List (ByteArray×List Z3)):Prop:=∀g∈dn,0<=Z4.firstIdx (Z4.UO g.1) l
section
variable {l:List Z4.Z1} {dn:List (ByteArray×List Z3)} {x:Bool} {d a m:Nat}
theorem Ms(J:Z4.ZA l)(C:Mt l dn){g g':ByteArray×List Z3}(T:g∈dn)(I:g'∈dn)(D:g.1≠g'.1):(∀a,a<5->0<=(YK l g.1).num a->(YK l g.1).num a≠(YK l g'.1).num a)/\(0<(YK l g.1).Yp->(YK l g.1).Yp=(YK l g'.1).Yp->(YK l g.1).sub≠(YK l g'.1).sub):=by
 obtain⟨i,hi,e1,e2⟩:=J2 (C g T);obtain⟨j,U,e3,e4⟩:=J2 (C g' I);rw[e1,e3];exact J1 J hi U (λe=>D (by rw[<-e2,<-e4,e]))
theorem Uq{num:Nat->Int}{rs:List Z3}{e:Xk}:e∈Y1 x d num rs a↔0<=num a/\(a=1->x=true)/\Yn a d rs≠[]/\e=(whole a (num a).toNat,Yn a d rs):=by
 unfold Y1;constructor
 ·intro h;split at h
  ·cases h
  ·rename_i I;split at h
   ·cases h
   ·rename_i C;split at h
    ·cases h
    ·rename_i D;refine⟨jO,λha=> ?_,D,aaa.1 h⟩;cases x with
     |true=>rfl
     |false=>exact absurd ⟨ha,rfl⟩ C
 ·rintro⟨I,C,D,rfl⟩;rw[aN jO,aN (λh=>by rw[C h.1] at h;exact absurd h.2 jD),aN D];exact aaa.2 rfl
theorem VY{e:Xk}:e∈Xu x d l dn a↔∃g∈dn,0<=(YK l g.1).num a/\(a=1->x=true)/\Yn a d g.2≠[]/\e=(whole a ((YK l g.1).num a).toNat,Yn a d g.2):=by
 unfold Xu;rw[aqd];exact⟨λ⟨g,C,h⟩=>⟨g,C,Uq.1 h⟩,λ⟨g,C,h⟩=>⟨g,C,Uq.2 h⟩⟩
theorem Q1{Yp sub:Int}{rs:List Z3}{e:Nat×Nat}(h:e∈X1 Yp sub rs m):Yp=(m:Int)+1/\e=(sub.toNat,(rs[0]?.map (·.2)).getD 0):=by
 unfold X1 at h;split at h;·rename_i C;exact⟨C,aaa.1 h⟩
 ·cases h
theorem J0(hn:(dn.map (·.1)).Nodup):dn.Pairwise (λg g'=>g.1≠g'.1):=afa.1 hn
theorem AO{α:Type}{R S:α->α->Prop}:∀{l:List α},l.Pairwise R->(∀x∈l,∀y∈l,R x y->S x y)->l.Pairwise S
 |[],_,_=>List.Pairwise.nil
 |x::l,h,hs=>by obtain⟨D,C⟩:=age.1 h;exact age.2 ⟨λy hy=>hs x jS y (by simp[hy]) (D y hy),AO C (λu hu v hv=>hs u (by simp[hu]) v (by simp[hv]))⟩
theorem vz(Y:Z4.ZA l)(C:Mt l dn)(hn:(dn.map (·.1)).Nodup)(ha:a<5):(Xu x d l dn a).Pairwise (λe T=>e.1≠T.1):=by
 unfold Xu;rw[List.pairwise_flatMap];refine⟨λg _=> ?_,AO (J0 hn) (λg hg g' J I e U T D h=> ?_)⟩
 ·unfold Y1;split;·exact List.Pairwise.nil
  ·split;·exact List.Pairwise.nil
   ·split;·exact List.Pairwise.nil
    ·exact apc _ _
 ·obtain⟨h0,_,_,rfl⟩:=Uq.1 U;obtain⟨Z,_,_,rfl⟩:=Uq.1 D;have:=(Ms Y C hg J I).1 a ha h0;have h2:=Io h;omega
theorem Hl(C:Z4.ZA l)(D:Mt l dn)(hn:(dn.map (·.1)).Nodup):(WO l dn m).Pairwise (λe U=>e.1≠U.1):=by
 unfold WO;rw[List.pairwise_flatMap];refine⟨λg _=> ?_,AO (J0 hn) (λg hg g' T J e Y U I h=> ?_)⟩
 ·unfold X1;split;·exact apc _ _
  ·exact List.Pairwise.nil
 ·obtain⟨h0,rfl⟩:=Q1 Y;obtain⟨Z,rfl⟩:=Q1 I;have h3:=(Ms C D hg T J).2 jO jO;have h4:=(QH C g.1).2.2.2.1;have h5:=(QH C g'.1).2.2.2.1;have h:(YK l g.1).sub.toNat=(YK l g'.1).sub.toNat:=h;omega
theorem Dn{es es':List (Nat×Nat)}(hp:es.Perm es')(D:es'.Pairwise (λe C=>e.1≠C.1))(hs:es.Pairwise (λe C=>e.1<=C.1)):es.Pairwise (λe C=>e.1<C.1):=by
 have I:es.Pairwise (λe C=>e.1≠C.1):=hp.symm.pairwise D (λh e=>h e.symm);exact hs.imp₂ (λ{u v} T J=>jO) I
def gsT(l:List Z4.Z1)(dn:List (ByteArray×List Z3)):List OX:=dn.map λg=>⟨(YK l g.1).num,g.2⟩
theorem F6{es:List Xk}{s0 s1:List (Nat×Nat)}{q:Nat×ZM}:q∈ZZ a es s0 s1↔(∃e∈es,q=Vr a e)\/(a=2/\(q=(102,.subs s0)\/q=(117,.subs s1))):=by
 unfold ZZ;rw[abf,ah];constructor
 ·rintro(⟨e,C,rfl⟩|h);·exact .inl ⟨e,C,rfl⟩
  ·split at h;·rename_i D;simp at h;exact .inr ⟨D,h⟩
   ·cases h
 ·rintro(⟨e,C,rfl⟩|⟨C,D⟩);·exact .inl ⟨e,C,rfl⟩
  ·rw[aF C];exact .inr (by simpa using D)
theorem qh{es:List Xk}{s0 s1:List (Nat×Nat)}{ps:List (Nat×ZM)}(C:es.Perm (Xu x d l dn a))(D:ps.Perm (ZZ a es s0 s1))(hs:ps.Pairwise (λp q=>p.1<q.1))(hr:∀g∈dn,Ui g.2)(Y:Sd s0)(h1:Sd s1):Ut x d (gsT l dn) s0 s1 a ps:=by
 refine⟨⟨hs,λp hp=> ?_⟩,λq=> ?_⟩
 ·rcases F6.1 (D.mem_iff.1 hp) with⟨e,T,rfl⟩|⟨_,rfl|rfl⟩;·obtain⟨g,I,_,_,_,rfl⟩:=VY.1 (C.mem_iff.1 T);exact(Kq (hr g I)).1
  ·exact Y
  ·exact h1
 ·rw[D.mem_iff,F6];constructor
  ·rintro(⟨e,T,rfl⟩|h);·obtain⟨g,I,U,J,q2,rfl⟩:=VY.1 (C.mem_iff.1 T);exact .inl ⟨⟨(YK l g.1).num,g.2⟩,ah.2 ⟨g,I,rfl⟩,U,J,q2,rfl⟩
   ·exact .inr h
  ·rintro(⟨G,Z,U,J,q2,rfl⟩|h);·obtain⟨g,I,rfl⟩:=ah.1 Z;exact .inl ⟨_,C.mem_iff.2 (VY.2 ⟨g,I,U,J,q2,rfl⟩),rfl⟩
   ·exact .inr h
theorem aZ(hT:Z4.ZA l)(N9:Mt l dn)(hn:(dn.map (·.1)).Nodup)(ha:a<5){i:Nat}(hi:i<l.length)(h0:0<=(l[i]!).num a):fX (gsT l dn) a ((l[i]!).num a).toNat (((dn.find? (λg=>decide (g.1=(l[i]!).name))).map (·.2)).getD []):=by
 have I:∀g∈dn,(YK l g.1).num a=(l[i]!).num a->g.1=(l[i]!).name:=λg D e=>by
  obtain⟨j,hj,e1,e2⟩:=J2 (N9 g D);by_cases J:i=j;·rw[J,e2]
  ·exact absurd (e1▸e).symm ((J1 hT hi hj J).1 a ha h0)
 have hz:(((l[i]!).num a).toNat:Int)=(l[i]!).num a:=jO;cases hf:dn.find? (λg=>decide (g.1=(l[i]!).name)) with
 |none=>
  refine .inr ⟨rfl,λG Z e=> ?_⟩;obtain⟨g,D,rfl⟩:=ah.1 Z;rw[hz] at e;have:=(ayf.1 hf) g D;exact this (by simpa using I g D e)
 |some g=>
  have D:=List.mem_of_find?_eq_some hf;have T:g.1=(l[i]!).name:=by simpa using List.find?_some hf
  refine .inl ⟨⟨(YK l g.1).num,g.2⟩,ah.2 ⟨g,D,rfl⟩,?_,rfl,λG Z e=> ?_⟩;·show(YK l g.1).num a=_;rw[hz,T,qj hT hi]
  ·obtain⟨g',U,rfl⟩:=ah.1 Z;rw[hz] at e;have e2:g'.1=g.1:=(I g' U e).trans T.symm
   have:g'=g:=Classical.byContradiction λY=>by
    rcases List.getElem_of_mem D with⟨p,hp,rfl⟩;rcases List.getElem_of_mem U with⟨q,hq,rfl⟩;have C:=J0 hn;rw[ama] at C;rcases Nat.lt_trichotomy p q with h|h|h;·exact C p q hp hq h e2.symm
    ·subst h;exact Y rfl
    ·exact C q p hq hp h e2
   rw[this]
end
def Mr(w:Nat->Nat)(x:Bool)(d a:Nat)(pr:List NR)(nm:ByteArray):Nat:=if a=1/\x=false then Zm else(ZG (WH w (decide (a≠2))) ((ofName nm pr).map RF)).getD d
theorem ke{w:Nat->Nat}(hw:GG w)(b:Bool)(a:Nat):WH w b a<YN:=by
 unfold WH YN;have C:=hw (Y5 a);have D:=hw (Yv a);split<;>omega
theorem vy{l:List Z4.Z1}{dn:List (ByteArray×List Z3)}{pr:List NR}{p:YE}{s0 s1:List (Nat×Nat)}(C:Z4.ZA l)(D:Mt l dn)(hd:DnF pr p.d dn)(J:Rb p (gsT l dn) s0 s1){w:Nat->Nat}(hw:GG w){a i:Nat}(ha:a<5)(hi:i<l.length)(I:0<=(l[i]!).num a)(T:w 4=Zb a)(hn:w 0=whole a ((l[i]!).num a).toNat):
 Ep w p=Mr w p.Vl p.d a pr (l[i]!).name:=by
 have hr:=(Z4.cu (C i hi)).2.2.1.1 a ha;unfold Z4.Nx at hr;rw[qO hw J ha (show((l[i]!).num a).toNat<VT by unfold VT;omega) (λe=> ?_) (aZ C D hd.nodup ha hi I) T hn]
 ·unfold bU Mr;by_cases hx:a=1/\p.Vl=false;·rw[aF hx,aF hx]
  ·rw[aN hx,aN hx];exact hd.ri _ (λb=>ke hw _ b) _
 ·subst e;have hm:=(Z4.cu (C i hi)).2.2.2.1;unfold Z4.Sb at hm;have e2:(l[i]!).num 2=(l[i]!).n2:=rfl;rw[e2] at I ⊢;constructor;·intro e;exact hm (.inl jO)
  ·intro e;exact hm (.inr jO)
end Go.Proofs.YtclgigmgbebhgaaGreatDoor
namespace Go.Proofs.YtclgigmgbebhgaaGreatDoor
open Tryz
open Go Go.Proofs Go.RowKit Go.Shelf
theorem j9(x:Int)(I:0<=x)(C:x<=18446744073709551615)(w:World):Calls prog 97 #[.int .u64 x] w λe w'=>e=.returned (.int .i64 (Lib.bitLen x.toNat))/\w'=w:=
 calls_of_every_depth λD=>AnySM.bits_LenIn {Tryz.sortInt with} D x w I C
end Go.Proofs.YtclgigmgbebhgaaGreatDoor
