/- TopAsks: part 18: TopLayout TopLaid TopShape TopPl2 TopLenU. -/
import Derived.WalkMore
import Derived.Test.YtclgigmgbebhgaaGreatDoorA13
import Derived.Test.YtclgigmgbebhgaaGreatDoorA17
set_option linter.unusedVariables false
set_option linter.unusedSimpArgs false
set_option maxRecDepth 100000
set_option maxHeartbeats 16000000
namespace Go.Proofs.YtclgigmgbebhgaaGreatDoor
open Tryz
open Go Go.Proofs Go.RowKit
variable {K L:Nat}
def D4(ZV far:Nat->Bool)(n:Nat):Nat:=if ZV n then 0 else if far n then 3 else 1
def ZE(ZV far:Nat->Bool):Nat->Nat
 |0=>0
 |n+1=>ZE ZV far n+D4 ZV far n
theorem ru(ZV far:Nat->Bool)(n:Nat):D4 ZV far n<=3:=by
 unfold D4;split;·omega
 ·split<;>omega
theorem Og(ZV far:Nat->Bool):∀n,ZE ZV far n<=3*n
 |0=>aP _
 |n+1=>by have:=Og ZV far n;have:=ru ZV far n;show ZE ZV far n+D4 ZV far n<=_;omega
theorem YN(ZV far:Nat->Bool):∀d n,ZE ZV far n<=ZE ZV far (n+d)
 |0,n=>aP _
 |d+1,n=>aO (YN ZV far d n) (Nat.le_add_right _ _)
theorem rq(s:Sx)(w:World):Calls prog 182 #[.agg #[.int .i64 s.i.mark,.int .u16 s.i.code,.int .u32 s.i.k,.int .i64 s.i.t,.int .i64 s.i.f,.int .i64 s.kind,.int .i64 s.yes,.int .i64 s.no,.bool s.far,.int .i64 s.at_,.bool s.ZV]] w λe w'=>e=.returned (.int .i64 ((if s.ZV then 0 else if s.far then 3 else 1:Nat):Int))/\Below w.heap.size w w':=by
 obtain⟨⟨I,xc,J,C,D⟩,k,y,n,fr,a,u⟩:=s;dsimp only;have T:=Z8.new w Tr #[.int .i64 I,.int .u16 xc,.int .u32 J,.int .i64 C,.int .i64 D,.int .i64 k,.int .i64 y,.int .i64 n,.bool fr,.int .i64 a,.bool u];obtain⟨_,_,_,_,_,_,_,_,Y,_,U⟩:=T.q11;have A:=aT ((aG w.heap.size w).alloc (aP _) (.cells #[.int .i64 I,.int .u16 xc,.int .u32 J,.int .i64 C,.int .i64 D,.int .i64 k,.int .i64 y,.int .i64 n,.bool fr,.int .i64 a,.bool u] Tr));clear T;cases u with
 |true=>
  go_enter func182,ntmps182;go_wp2_with fail;go_ret;exact⟨rfl,A⟩
 |false=>
  cases fr with
  |true=>
   go_enter func182,ntmps182;go_wp2_with fail;go_ret;exact⟨rfl,A⟩
  |false=>
   go_enter func182,ntmps182;go_wp2_with fail;go_ret;exact⟨rfl,A⟩
structure VA(LO g c K:Nat)(l:List Z9)(ZV:Nat->Bool)(w W:World)(far:Nat->Bool)(at_:Nat->Nat):Prop where
 Zs:Below LO w W
 st:W.ownsRow LO Tr 11 (.slice (some ⟨g,0,none⟩) K c) K ((Yu l K ZV far at_).flatMap Y5)
 lo:LO<=w.heap.size/\LO<=g
section
variable {LO g c K:Nat} {l:List Z9} {ZV:Nat->Bool} {w W W':World} {far:Nat->Bool} {at_:Nat->Nat}
theorem VA.bl(h:VA LO g c K l ZV w W far at_)(hb:Below W.heap.size W W'):VA LO g c K l ZV w W' far at_:=⟨h.Zs.trans (hb.mono (aO h.lo.1 h.Zs.size)),ZF h.st hb,h.lo⟩
theorem VA.VF(h:VA LO g c K l ZV w W far at_)(hk:(Z6 l).length=K){m:Nat}{x:Z9}(hx:(Z6 l)[m]? =some x)(j:Nat)(A:j<11):W.cell? ⟨g,m*11+j,none⟩=(Y5 (Zp l K ZV far at_ m x))[j]? :=by
 obtain⟨g',e,_,hc⟩:=Ye Y5 11 (λ_=>rfl) ((V7 _ _ _ _ _).trans hk) h.st (V6 hx);cases e;exact hc j A
theorem VA.setAt{n a:Nat}{x:Z9}(h:VA LO g c K l ZV w W far at_)(hx:(Z6 l)[n]? =some x):VA LO g c K l ZV w (W.setCell ⟨g,n*11+9,none⟩ (.int .i64 a)) far (upd at_ n a):=by
 obtain⟨A,C⟩:=Vw (f:=Y5) (k:=11) (λ_=>rfl) h.st (i:=n) (j:=9) (u:=.int .i64 a) (x:=Zp l K ZV far at_ n x) (x':=Zp l K ZV far (upd at_ n a) n x) (V6 hx) jD (by unfold Zp Y5;rw[upd_same];rfl);rw[<-Tq (l:=l) (d:=K) (d':=K) (ZV:=ZV) (BG:=ZV) (far:=far) (KA:=far) (at_:=at_) (at':=upd at_ n a) hx (λm x hm=>by unfold Zp;rw[TV at_ a hm])] at A;exact⟨h.Zs.setCell (p:=⟨g,_,none⟩) h.lo.2 _,A,h.lo⟩
theorem VA.bS{n:Nat}{b:Bool}{x:Z9}(h:VA LO g c K l ZV w W far at_)(hx:(Z6 l)[n]? =some x):VA LO g c K l ZV w (W.setCell ⟨g,n*11+8,none⟩ (.bool b)) (upd far n b) at_:=by
 obtain⟨A,C⟩:=Vw (f:=Y5) (k:=11) (λ_=>rfl) h.st (i:=n) (j:=8) (u:=.bool b) (x:=Zp l K ZV far at_ n x) (x':=Zp l K ZV (upd far n b) at_ n x) (V6 hx) jD (by unfold Zp Y5;rw[upd_same];rfl);rw[<-Tq (l:=l) (d:=K) (d':=K) (ZV:=ZV) (BG:=ZV) (far:=far) (KA:=upd far n b) (at_:=at_) (at':=at_) hx (λm x hm=>by unfold Zp;rw[TV far b hm])] at A;exact⟨h.Zs.setCell (p:=⟨g,_,none⟩) h.lo.2 _,A,h.lo⟩
theorem VA.congr{KA:Nat->Bool}{at':Nat->Nat}(h:VA LO g c K l ZV w W far at_)(hk:(Z6 l).length=K)(C:∀m,m<K->far m=KA m)(A:∀m,m<K->at_ m=at' m):VA LO g c K l ZV w W KA at':=by
 have e:Yu l K ZV far at_=Yu l K ZV KA at':=by
  apply agb;intro m;rw[Xw,Xw];cases hm:(Z6 l)[m]? with
  |none=>rfl
  |some x=>
   have:=(aq.1 hm).1;rw[hk] at this;show some (Zp _ _ _ _ _ _ _)=some (Zp _ _ _ _ _ _ _);unfold Zp;rw[C m this,A m this]
 exact⟨h.Zs,by rw[<-e];exact h.st,h.lo⟩
end
def LF(l:List Z9)(ZV far:Nat->Bool)(m:Nat):Bool:=match (Z6 l)[m]? with
 |some x=> !ZV m && !far m&&YW x.code&&decide ((255:Int)<max (ZE ZV far (target l m x.t):Int) (ZE ZV far (target l m x.f):Int)-(ZE ZV far m:Int)-1)
 |none=>false
def Ur(l:List Z9)(ZV far:Nat->Bool)(n:Nat):Nat->Bool:=λm=>far m || (decide (m<n)&&LF l ZV far m)
def cntF(far:Nat->Bool)(K:Nat):Nat:=((List.range K).filter far).length
theorem kA(far:Nat->Bool)(K:Nat):cntF far K<=K:=by
 unfold cntF;exact aO (atc _ _) (by rw[afe];exact aP _)
theorem rp{l:List Z9}{ZV far:Nat->Bool} (h:(List.range K).any (LF l ZV far)=true):cntF far K+1<=cntF (Ur l ZV far K) K:=by
 have J:∀(p q:Nat->Bool) (L:List Nat),(∀m∈L,p m=true->q m=true)->(L.filter p).length<=(L.filter q).length/\((∃m∈L,p m=false/\q m=true)->(L.filter p).length+1<=(L.filter q).length):=by
  intro p q L
  induction L with
  |nil=>intro _;exact⟨aP _,λ⟨m,hm,_⟩=>by cases hm⟩
  |cons a L Y=>
   intro A;obtain⟨I,T⟩:=Y (λm hm=>A m (aff _ hm));have ha:=A a agd;rw[aog,aog];cases hp:p a with
   |true=>
    rw[aH rfl,aH (ha hp),aj,aj];refine⟨axb I,λ⟨m,hm,D,C⟩=>axb (T ⟨m,?_,D,C⟩)⟩;rcases abf.1 hm with rfl|hm;·rw[hp] at D;cases D
    ·exact hm
   |false=>
    rw[aN jD];cases U:q a with
    |true=>
     rw[aH rfl,aj];exact⟨Nat.le_succ_of_le I,λ_=>axb I⟩
    |false=>
     rw[aN jD];refine⟨I,λ⟨m,hm,D,C⟩=>T ⟨m,?_,D,C⟩⟩;rcases abf.1 hm with rfl|hm;·rw[U] at C;cases C
     ·exact hm
 obtain⟨m,hm,hn⟩:=akg.1 h;refine(J far (Ur l ZV far K) (List.range K) (λm _ h=>by unfold Ur;rw[h];rfl)).2 ⟨m,hm,?_,?_⟩
 ·unfold LF at hn;split at hn;·simp only[aeg,Bool.not_eq_true'] at hn;exact hn.1.1.2
  ·cases hn
 ·unfold Ur;rw[hn,ace (aib.1 hm)];simp
structure MR(l:List Z9)(K:Nat)(ZV far:Nat->Bool):Prop where
 br:∀m x,(Z6 l)[m]? =some x->far m=true->YW x.code=true
 ah9:∀m x,(Z6 l)[m]? =some x->ZV m=false->far m=false->YW x.code=true->(max (ZE ZV far (target l m x.t):Int) (ZE ZV far (target l m x.f):Int)-(ZE ZV far m:Int)-1)<=255
theorem BD{LO g c:Nat}{l q:List Z9}{y:Z9}{ZV rj:Nat->Bool}(hK:(Z6 l).length=K)(XA:K<=1000000)(hF:ZT l)(hO:∀x∈l,JD x)(hl:l=q++[y])(hy:y.mark=0)(D8:y.code=0x06)(ai0:∀m x,(Z6 l)[m]? =some x->rj m=true->YW x.code=true)(w:World)(at0:Nat->Nat)(hst:w.ownsRow LO Tr 11 (.slice (some ⟨g,0,none⟩) K c) K ((Yu l K ZV rj at0).flatMap Y5))(PU:LO<=w.heap.size)(hg:LO<=g):
 Calls prog 112 #[.slice (some ⟨g,0,none⟩) K c] w λe w'=>∃far,e=.returned (.int .i64 (ZE ZV far K:Int))/\MR l K ZV far/\w'.ownsRow LO Tr 11 (.slice (some ⟨g,0,none⟩) K c) K ((Yu l K ZV far (ZE ZV far)).flatMap Y5)/\Below LO w w':=by
 have J:=aT hK;have bV:=aT (λ(n:Nat) (x:Z9) (hx:(Z6 l)[n]? =some x) (h6:x.code≠0x06) (m:Int) (hm:m=x.t\/m=x.f)=>Ky hF hl hy hx (λe=>h6 (by rw[e];exact D8)) hm);have HO:=aT hO;have I:Hid (VA LO g c K l ZV w w rj at0):=⟨aG _ _,hst,PU,hg⟩;have fY:=aT ai0;clear hK hF hO hl hy D8 hst ai0;go_enter func112,ntmps112;go_wp2_with fail;go_step3;go_wp2_with fail;go_step3;go_wp2_with fail;go_loopg [2] (K+2) (λgg rv wr=>∃(far:Nat->Bool) (at_:Nat->Nat),K+1-cntF far K<gg/\Hid (VA LO g c K l ZV w wr far at_)/\Hid (∀m x,(Z6 l)[m]? =some x->far m=true->YW x.code=true));case atStart=>exact⟨rj,at0,jO,I,fY⟩
 case round=>
  obtain⟨far,at_,VM,I,fY⟩:=hrel;go_upto_region 3 with fail;go_loopg [3,10] (K+1) (λgg av iv wr=>∃n:Nat,n<=K/\K-n<gg/\iv=.int .i64 (n:Int)/\av=.int .i64 (ZE ZV far n:Int)/\Hid (VA LO g c K l ZV w wr far (λm=>if m<n then ZE ZV far m else at_ m)));case atStart=>exact⟨0,abb _,jO,rfl,rfl,I⟩
  case round=>
   obtain⟨n,hnK,mm,rfl,rfl,I⟩:=hrel;have n0:=jZ n;by_cases hlt:n<K
   ·have Zc:(n:Int)<(K:Int):=by omega
    have iw:=jW n;obtain⟨x,hx⟩:∃x,(Z6 l)[n]? =some x:=⟨_,aM (by rw[J.out];exact hlt)⟩;have y9:=I.VF J hx 9 jD;unfold Y5 Zp at y9;simp only[aL,aF] at y9;have f9:=I.st.frozenAt (n*11+9);have hL2:=I.setAt (a:=ZE ZV far n) hx;obtain⟨s,hs⟩:=jX (Zp l K ZV far (upd (λm=>if m<n then ZE ZV far m else at_ m) n (ZE ZV far n)) n x);have hsz:(if s.ZV then 0 else if s.far then 3 else 1)=D4 ZV far n:=by rw[<-hs];rfl
    have hz:∀j,j<11->(wr.setCell ⟨g,n*11+9,none⟩ (.int .i64 (ZE ZV far n:Int))).cell? ⟨g,n*11+j,none⟩=(Y5 s)[j]? :=λj Y=>by rw[<-hs];exact hL2.VF J hx j Y
    have z0:=hz 0 jD;have z1:=hz 1 jD;have z2:=hz 2 jD;have z3:=hz 3 jD;have z4:=hz 4 jD;have z5:=hz 5 jD;have z6:=hz 6 jD;have z7:=hz 7 jD;have z8:=hz 8 jD;have z9:=hz 9 jD;have GD:=hz 10 jD;unfold Y5 at z0 z1 z2 z3 z4 z5 z6 z7 z8 z9 GD;simp only[aL,aF,aec] at z0 z1 z2 z3 z4 z5 z6 z7 z8 z9 GD;obtain⟨Sz,hSz⟩:=jX (D4 ZV far n);have rB:ZE ZV far (n+1)=ZE ZV far n+Sz:=by rw[<-hSz];rfl
    have mS:=Og ZV far n;have ui:=ru ZV far n;rw[hSz] at ui hsz;obtain⟨P,hP⟩:=jX (ZE ZV far n);have aw:IntKind.i64.wrap ((P:Int)+(Sz:Int))=(P:Int)+(Sz:Int):=aJ _ jO;have D:Hid (VA LO g c K l ZV w (wr.setCell ⟨g,n*11+9,none⟩ (.int .i64 P)) far (λm=>if m<n+1 then ZE ZV far m else at_ m)):=by
     rw[<-hP];refine hL2.congr J (λm _=>rfl) (λm _=> ?_);unfold upd;by_cases zw:m=n;·rw[aH zw,aH jO,zw]
     ·rw[aN zw];dsimp only;by_cases h:m<n;·rw[aH h,aH jO]
      ·rw[aN h,aN jO]
    have HPN:Hid ((ZE ZV far (n+1):Int)=(P:Int)+(Sz:Int)):=by rw[rB,hP];exact avd _ _
    have gR:=aT hsz;rw[hP] at z0 z1 z2 z3 z4 z5 z6 z7 z8 z9 GD ⊢;clear hz hs hL2 I hx rB mS ui hP hSz hsz;go_wp2_with fail;refine(rq s _).mono ?_;rintro e w' ⟨rfl,hb⟩;rw[gR.out];have HL3:=aT (D.bl hb);clear hb D z0 z1 z2 z3 z4 z5 z6 z7 z8 z9 GD y9 f9;go_wp2_with fail;go_roundg (K-n);case measure=>omega
    case rel=>exact⟨n+1,jO,jO,by go_num,by rw[HPN.out],HL3⟩
   ·obtain rfl:n=K:=by omega
    have Zc:¬(n:Int)<(n:Int):=jO;have HLp:Hid (VA LO g c n l ZV w wr (Ur l ZV far 0) (ZE ZV far)):=I.congr J (λm _=>by unfold Ur;rw[aee (ake m)];simp) (λm hm=>aH hm);clear I;go_upto_region 10 with fail;go_loopg [5,28] (n+1) (λgg mv iv wr=>∃m:Nat,m<=n/\n-m<gg/\iv=.int .i64 (m:Int)/\(∃mo,mv=.bool mo/\mo=(List.range m).any (LF l ZV far))/\Hid (VA LO g c n l ZV w wr (Ur l ZV far m) (ZE ZV far)));case atStart=>exact⟨0,abb _,jO,rfl,⟨_,rfl,rfl⟩,HLp⟩
    case round=>
     obtain⟨m,zw,af8,rfl,⟨mo,rfl,cu⟩,I⟩:=hrel;have m0:=jZ m;by_cases Pd:m<n
     ·have Ja:(m:Int)<(n:Int):=by omega
      have iw:=jW m;have HMO:=aT cu;clear cu;obtain⟨x,hx⟩:∃x,(Z6 l)[m]? =some x:=⟨_,aM (by rw[J.out];exact Pd)⟩;have fX:Ur l ZV far m m=far m:=by unfold Ur;rw[aee (asb m)];simp
      have hc5:=I.VF J hx 5 jD;have hc8:=I.VF J hx 8 jD;have U:=I.VF J hx 10 jD;unfold Y5 Zp at hc5 hc8 U;simp only[aL,aF] at hc5 hc8 U;rw[fX] at hc8;have ai1:(List.range (m+1)).any (LF l ZV far)=(mo || LF l ZV far m):=by rw[amf,List.any_append,<-HMO.out];simp
      have C:LF l ZV far m=false->VA LO g c n l ZV w wr (Ur l ZV far (m+1)) (ZE ZV far):=λh0=>I.congr J (λj _=>by
       unfold Ur;by_cases Y:j=m;·subst Y;rw[h0];simp
       ·rw[show decide (j<m+1)=decide (j<m) by rw[axf];omega]) (λ_ _=>rfl)
      have A:LF l ZV far m=(!ZV m && !far m&&YW x.code&&decide ((255:Int)<max (ZE ZV far (target l m x.t):Int) (ZE ZV far (target l m x.f):Int)-(ZE ZV far m:Int)-1)):=by unfold LF;rw[hx]
      have kz:=aT ai1;obtain⟨hc,_⟩:=(HO x (Oh hx).1).2 (Oh hx).2;clear ai1;cases hu:ZV m with
      |true=>
       rw[hu] at U A;have h0:LF l ZV far m=false:=by rw[A];rfl
       have D:=aT (C h0);have CB:Hid (mo=(List.range (m+1)).any (LF l ZV far)):=by show _=_;rw[kz.out,h0,Bool.or_false]
       clear C A hx I fX h0;go_wp2_with fail;go_roundg (n-m);case measure=>omega
       case rel=>exact⟨m+1,jO,jO,by go_num,⟨_,rfl,CB⟩,D⟩
      |false=>
       cases hf:far m with
       |true=>
        rw[hu] at U A;rw[hf] at hc8 A;have h0:LF l ZV far m=false:=by rw[A];rfl
        have D:=aT (C h0);have CB:Hid (mo=(List.range (m+1)).any (LF l ZV far)):=by show _=_;rw[kz.out,h0,Bool.or_false]
        clear C A hx I fX h0;go_wp2_with fail;go_roundg (n-m);case measure=>omega
        case rel=>exact⟨m+1,jO,jO,by go_num,⟨_,rfl,CB⟩,D⟩
       |false=>
        rw[hu] at U A;rw[hf] at hc8 A;cases hb:YW x.code with
        |false=>
         rw[hb] at A;have h0:LF l ZV far m=false:=by rw[A];rfl
         have D:=aT (C h0);have CB:Hid (mo=(List.range (m+1)).any (LF l ZV far)):=by show _=_;rw[kz.out,h0,Bool.or_false]
         have Z:=LG hc hb;obtain⟨KN,ri⟩:=jX (Zz x.code);rw[ri] at Z hc5;have ep:(KN:Int)<25:=jO;clear C A hx I fX h0 hc ri Z;go_wp2_with fail;go_roundg (n-m);case measure=>omega
         case rel=>exact⟨m+1,jO,jO,by go_num,⟨_,rfl,CB⟩,D⟩
        |true=>
         have Z:=LH hb;obtain⟨KN,ri⟩:=jX (Zz x.code);rw[ri] at Z hc5;have ep:¬(KN:Int)<25:=jO;have bR:=I.VF J hx 6 jD;have bQ:=I.VF J hx 7 jD;have mR:=I.VF J hx 9 jD;unfold Y5 Zp at bR bQ mR;simp only[aL,aF,Pd,if_true] at bR bQ mR;have f8:=I.st.frozenAt (m*11+8);have h6:x.code≠0x06:=λe=>by rw[e] at hb;cases hb
         obtain⟨t1,t2⟩:=bV m x hx h6 x.t (.inl rfl);obtain⟨s1,s2⟩:=bV m x hx h6 x.f (.inr rfl);rw[show Oi l m x=(target l m x.t:Int) by unfold Oi;rw[aN h6]] at bR;rw[show BH l m x=(target l m x.f:Int) by unfold BH;rw[aH hb]] at bQ;rw[hb] at A;obtain⟨T,hT⟩:=jX (target l m x.t);obtain⟨F,hF⟩:=jX (target l m x.f);rw[hT] at bR t1 t2 A;rw[hF] at bQ s1 s2 A;rw[J.out] at t2 s2;obtain⟨xT,fW⟩:∃x,(Z6 l)[T]? =some x:=⟨_,aM (by rw[J.out];exact t2)⟩;obtain⟨xF,hxF⟩:∃x,(Z6 l)[F]? =some x:=⟨_,aM (by rw[J.out];exact s2)⟩;have hcT:=I.VF J fW 9 jD;have hcF:=I.VF J hxF 9 jD;unfold Y5 Zp at hcT hcF;simp only[aL,aF] at hcT hcF;have hs1:ZE ZV far (m+1)=ZE ZV far m+1:=by show _+D4 ZV far m=_;unfold D4;rw[hu,hf];rfl
         have BC:=YN ZV far (T-(m+1)) (m+1);have rh:=YN ZV far (F-(m+1)) (m+1);rw[show m+1+(T-(m+1))=T from jO,hs1] at BC;rw[show m+1+(F-(m+1))=F from jO,hs1] at rh;have hpT:=Og ZV far T;have hpF:=Og ZV far F;obtain⟨PT,rf⟩:∃P,ZE ZV far T=P:=⟨_,rfl⟩;obtain⟨PF,hPF⟩:∃P,ZE ZV far F=P:=⟨_,rfl⟩;obtain⟨PM,hPM⟩:∃P,ZE ZV far m=P:=⟨_,rfl⟩;rw[rf] at hcT BC hpT A;rw[hPF] at hcF rh hpF A;rw[hPM] at mR BC rh A;simp only[Bool.not_false,Bool.true_and] at A;have T0:=jZ T;have T1:(T:Int)<(n:Int):=jO;have F0:=jZ F;have F1:(F:Int)<(n:Int):=jO;have hL2:=I.bS (b:=LF l ZV far m) hx;have D:Hid (VA LO g c n l ZV w (wr.setCell ⟨g,m*11+8,none⟩ (.bool (LF l ZV far m))) (Ur l ZV far (m+1)) (ZE ZV far)):=hL2.congr J (λj _=>by
          unfold upd;by_cases Y:j=m;·subst Y;rw[aH rfl];unfold Ur;rw[hf,ace (amg j)];simp
          ·rw[aN Y];unfold Ur;rw[show decide (j<m+1)=decide (j<m) by rw[axf];omega]) (λ_ _=>rfl)
         have hval:(decide ((255:Int)<IntKind.i64.wrap (IntKind.i64.wrap ((if PT<PF then(PF:Int) else(PT:Int))-(PM:Int))-1)))=LF l ZV far m:=by
          rw[A];by_cases bP:PT<PF;·have e1:IntKind.i64.wrap ((PF:Int)-(PM:Int))=(PF:Int)-(PM:Int):=aJ _ jO;rw[aH bP,e1,aJ _ jO,axf];omega
          ·have e1:IntKind.i64.wrap ((PT:Int)-(PM:Int))=(PT:Int)-(PM:Int):=aJ _ jO;rw[aN bP,e1,aJ _ jO,axf];omega
         obtain⟨NB,nD⟩:∃b,LF l ZV far m=b:=⟨_,rfl⟩;rw[nD] at D hval;have hfr:Ur l ZV far (m+1) m=NB:=by unfold Ur;rw[hf,ace (amg m),nD];simp
         have c8:=D.VF J hx 8 jD;unfold Y5 Zp at c8;simp only[aL,aF] at c8;rw[hfr] at c8;have HNB:=aT nD;have bO:=aT hval;clear hval hfr;have IY:=aT c8;clear c8;clear C hx hL2 fX hc ri Z t1 t2 s1 s2 fW hxF hs1 BC rh hpT hpF rf hPF hPM hT hF nD A I;go_upto_region 14 with fail
         go_region_held3 (λw'=>w'.cell? ⟨g,m*11+6,none⟩=some (.int .i64 T)/\w'.cell? ⟨g,m*11+7,none⟩=some (.int .i64 F)/\w'.cell? ⟨g,m*11+9,none⟩=some (.int .i64 PM)/\w'.cell? ⟨g,T*11+9,none⟩=some (.int .i64 PT)/\w'.cell? ⟨g,F*11+9,none⟩=some (.int .i64 PF)) (first|exact⟨bR,bQ,mR,hcT,hcF⟩|exact⟨(agf _ _ _ _ jS).trans bR,(agf _ _ _ _ jS).trans bQ,(agf _ _ _ _ jS).trans mR,(agf _ _ _ _ (by simp<;>omega)).trans hcT,(agf _ _ _ _ (by simp<;>omega)).trans hcF⟩) (fail)
         first|rw[bO.out]|rw[show(max (PT:Int) (PF:Int))=(if PT<PF then(PF:Int) else(PT:Int)) by split<;>omega,bO.out]
         have HL3:Hid (VA LO g c n l ZV w (wr.setCell ⟨g,m*11+8,none⟩ (.bool NB)).drew (Ur l ZV far (m+1)) (ZE ZV far)):=⟨D.Zs.drew,D.st.drew,D.lo⟩;have c8:=IY.out;have CB:Hid ((mo || NB)=(List.range (m+1)).any (LF l ZV far)):=by show _=_;rw[kz.out,HNB.out]
         clear D IY bO hc5 bR bQ hc8 mR U hcT hcF f8;cases mo with
         |true=>
          go_wp2_with fail
          all_goals
           go_roundg (n-m);case measure=>omega
           case rel=>exact⟨m+1,jO,jO,by go_num,⟨_,rfl,by rw[<-CB.out];simp⟩,HL3⟩
         |false=>
          go_wp2_with fail
          all_goals
           go_roundg (n-m);case measure=>omega
           case rel=>exact⟨m+1,jO,jO,by go_num,⟨_,rfl,by rw[<-CB.out];simp⟩,HL3⟩
     ·obtain rfl:m=n:=by omega
      have Ja:¬(m:Int)<(m:Int):=jO;have HMO:=aT cu;clear cu;cases mo with
      |true=>
       have aq6:=rp HMO.symm;have hle:=kA (Ur l ZV far m) m;have as9:Hid (∀j x,(Z6 l)[j]? =some x->Ur l ZV far m j=true->YW x.code=true):=by
        intro j x hx Y;unfold Ur at Y;cases hf:far j with
        |true=>exact fY j x hx hf
        |false=>
         rw[hf] at Y;simp only[Bool.false_or,aeg,adg] at Y;have h:=Y.2;unfold LF at h;rw[hx] at h;simp only[aeg] at h;exact h.1.2
       go_wp2_with fail;go_roundg (m+1-cntF far m);case measure=>omega
       case rel=>exact⟨_,_,jO,I,as9⟩
      |false=>
       have hno:∀j,j<m->LF l ZV far j=false:=λj Y=>by
        have h:=HMO.out;cases hn:LF l ZV far j with
        |false=>rfl
        |true=>exact absurd (akg.2 ⟨j,aib.2 Y,hn⟩) (by rw[<-h];decide)
       have HLf:Hid (VA LO g c m l ZV w wr far (ZE ZV far)):=I.congr J (λj Y=>by unfold Ur;rw[hno j Y];simp) (λ_ _=>rfl)
       have nC:Hid (MR l m ZV far):=by refine⟨fY,λj x hx hu hf hb=> ?_⟩;have Y:=(aq.1 hx).1;rw[J.out] at Y;have h:=hno j Y;unfold LF at h;rw[hx] at h;dsimp only at h;rw[hu,hf,hb] at h;simp only[Bool.not_false,Bool.true_and,apf] at h;omega
       clear hno I fY HMO;go_wp2_with fail
       first
        |(rw[Exit.noGoto_ret];go_ret;exact⟨far,rfl,nC,HLf.st,HLf.Zs⟩)
        |(go_ret;exact⟨far,rfl,nC,HLf.st,HLf.Zs⟩)
structure Sw(l:List Z9)(L K:Nat):Prop where
 len:l.length=L
 ins:(Z6 l).length=K
 max:L<=1000000
 fV:ZT l
 ok:∀x∈l,JD x
 last:∃q y,l=q++[y]/\y.mark=0/\y.code=0x06
theorem Sw.pos{l:List Z9} (h:Sw l L K):1<=K/\K<=L:=by
 obtain⟨q,y,e,hy,_⟩:=h.last;constructor;·rw[<-h.ins,e,Yl,YC hy,ay];exact Nat.le_add_left _ _
 ·rw[<-h.ins,<-h.len];unfold Z6;exact atc _ _
def yN(l:List Z9)(K:Nat)(w:World):Ending->World->Prop:=λe w'=>∃v is far,e=.returned (.tuple #[v,.int .i64 (ZE (λm=> !is m) far K:Int)])/\XI l is K/\MR l K (λm=> !is m) far/\w'.ownsRow w.heap.size Tr 11 v K ((Yu l K (λm=> !is m) far (ZE (λm=> !is m) far)).flatMap Y5)/\Below w.heap.size w w'
theorem qZ{N:Nat}{l:List Z9}{c:Nat}{ad:Option Addr}(h:Sw l L K)(w:World)(hm:kJ N w ad l)(hN:N<=w.heap.size):
 Calls prog 59 #[.slice ad L c] w (yN l K w):=by
 have A:=aT h;have HS:=aT (vZ l L K c ad h.len h.ins h.max h.fV h.ok w hm hN);have hK:=h.pos;clear h hm hN;go_enter func59,ntmps59;go_wp2_with fail;refine HS.mono ?_;rintro e w1 ⟨v,rfl,ho,hb⟩;obtain⟨g,c2,rfl,hg,_⟩:=World.ownsRow.form ho jO;obtain⟨q,y,hl,hy,C⟩:=A.last;have hmx:=A.max;have HR:=aT (D5 A.ins jO A.fV A.ok hl hy C w1 ho hb.size hg);have T:=aT hb;clear HS ho hb;go_wp2_with fail;refine HR.mono ?_;rintro e w2 ⟨rfl,is,D,ho,hb⟩;have hsz:=aO T.size hb.size;have I:=aT (BD (ZV:=λm=> !is m) (rj:=λ_=>false) A.ins jO A.fV A.ok hl hy C (λ_ _ _ h=>by cases h) w2 (λ_=>0) ho (by have:=hb.size;have:=T.size;omega) hg)
 have U:=aT (T.trans hb);have Y:=aT D;clear HR ho hb D T hl hy C hsz;go_wp2_with fail;refine I.mono ?_;rintro e w3 ⟨far,rfl,J,ho,hb⟩;have Z:=aT (And.intro J (And.intro ho (U.trans hb)));clear J ho hb I;go_wp2_with fail;go_ret2;exact⟨_,is,far,rfl,Y,Z.1,Z.2.1,Z.2.2⟩
theorem IK{p:Nat}(s:Sx)(hp:p+1<=s.at_)(hs:s.at_<=4000000)(w:World):Calls prog 60 #[.int .i64 p,.agg #[.int .i64 s.i.mark,.int .u16 s.i.code,.int .u32 s.i.k,.int .i64 s.i.t,.int .i64 s.i.f,.int .i64 s.kind,.int .i64 s.yes,.int .i64 s.no,.bool s.far,.int .i64 s.at_,.bool s.ZV]] w λe w'=>e=.returned (.agg #[.int .u16 5,.int .u8 0,.int .u8 0,.int .u32 ((s.at_-p-1:Nat):Int)])/\Below w.heap.size w w':=by
 obtain⟨⟨J,xc,T,C,I⟩,k,y,n,fr,a,u⟩:=s;dsimp only at hp hs ⊢;have hB:=Z8.new w Tr #[.int .i64 J,.int .u16 xc,.int .u32 T,.int .i64 C,.int .i64 I,.int .i64 k,.int .i64 y,.int .i64 n,.bool fr,.int .i64 a,.bool u];have c9:=hB.e9;have w1:IntKind.i64.wrap ((a:Int)-(p:Int))=(a:Int)-(p:Int):=aJ _ jO;have w2:IntKind.i64.wrap ((a:Int)-(p:Int)-1)=((a-p-1:Nat):Int):=by rw[aJ _ jO];omega
 have w3:IntKind.u32.wrap ((a-p-1:Nat):Int)=((a-p-1:Nat):Int):=awf _ jO;generalize a-p-1=D at*;have HB:=aT (λ(A Y:Obj)=>((aG w.heap.size w).alloc (aP _) A).alloc (by rw[ai];omega) Y);have HQ:Hid (∀A cs,Z8 ((w.alloc A).alloc (.cells cs 166)) (w.heap.size+1) 166 cs):=λA cs=>by have:=Z8.new (w.alloc A) 166 cs;rwa [ai] at this
 go_enter func60,ntmps60;go_wp2_with fail;have Z:=HQ (.cells #[.int .i64 J,.int .u16 xc,.int .u32 T,.int .i64 C,.int .i64 I,.int .i64 k,.int .i64 y,.int .i64 n,.bool fr,.int .i64 a,.bool u] Tr) #[.int .u16 5,.int .u8 0,.int .u8 0,.int .u32 D];obtain⟨U,q1,q2,q3⟩:=Z.q4;refine aaf (v:=.agg #[.int .u16 5,.int .u8 0,.int .u8 0,.int .u32 D]) ?_ rfl ⟨rfl,HB _ _⟩;simp[results,Tryz.f60,go_sem,U,q1,q2,q3]
end Go.Proofs.YtclgigmgbebhgaaGreatDoor
namespace Go.Proofs.YtclgigmgbebhgaaGreatDoor
open Tryz
open Go Go.Proofs
variable {a m:Nat}
def Sh(x:Z9):Prop:=(x.mark≠0->x=Zr x.mark)/\(x.mark=0->codeOk x.code/\(x.t≠0->YW x.code=true\/x.code=0x05)/\(x.f≠0->YW x.code=true)/\(x.code=0x20->x.k%4=0/\x.k<64)/\x.k<4294967296)
def ZR(l:List Z9):Prop:=∀x∈l,Sh x
theorem yM{m:Int}(h:m≠0):Sh (Zr m):=⟨λ_=>rfl,λe=>absurd e h⟩
theorem Sv{c k:Nat}{t f:Int}(hb:YW c=true)(hk:k<4294967296):Sh (ins c k t f):=
 ⟨λh=>absurd rfl h,λ_=>⟨IQ (.inr (.inr (.inr (.inr hb)))),λ_=>.inl hb,λ_=>hb,λe=>absurd e (Ps hb).1,hk⟩⟩
theorem Oe{k:Nat}(A:k%4=0)(hk:k<64):Sh (ins 0x20 k 0 0):=
 ⟨λh=>absurd rfl h,λ_=>⟨.inl rfl,λh=>absurd rfl h,λh=>absurd rfl h,λ_=>⟨A,hk⟩,by show k<_;omega⟩⟩
theorem qY{k:Nat}(hk:k<4294967296):Sh (ins 0x54 k 0 0):=
 ⟨λh=>absurd rfl h,λ_=>⟨.inr (.inl rfl),λh=>absurd rfl h,λh=>absurd rfl h,λh=>absurd (show(0x54:Nat)=0x20 from h) jD,hk⟩⟩
theorem LD(t:Int):Sh (ins 0x05 0 t 0):=
 ⟨λh=>absurd rfl h,λ_=>⟨.inr (.inr (.inl rfl)),λ_=>.inr rfl,λh=>absurd rfl h,λh=>absurd (show(0x05:Nat)=0x20 from h) jD,by show 0<_;omega⟩⟩
theorem bN{k:Nat}(hk:k<4294967296):Sh (ins 0x06 k 0 0):=
 ⟨λh=>absurd rfl h,λ_=>⟨.inr (.inr (.inr (.inl rfl))),λh=>absurd rfl h,λh=>absurd rfl h,λh=>absurd (show(0x06:Nat)=0x20 from h) jD,hk⟩⟩
theorem ZR.app{a b:List Z9}(ha:ZR a)(hb:ZR b):ZR (a++b):=λx hx=>(abe.1 hx).elim (ha x) (hb x)
theorem ZR.one{x:Z9}(h:Sh x):ZR [x]:=λy hy=>by
 rcases aaa.1 hy with rfl;exact h
theorem ZR.two{x y:Z9}(h:Sh x)(A:Sh y):ZR [x,y]:=ZR.app (ZR.one h) (ZR.one A)
theorem ZR.three{x y z:Z9}(h:Sh x)(A:Sh y)(C:Sh z):ZR [x,y,z]:=ZR.app (ZR.one h) (ZR.two A C)
theorem ZR.nil:ZR []:=λx hx=>by cases hx
theorem ZR.if_{b:Bool}{l:List Z9}(h:ZR l):ZR (if b=true then l else []):=by
 cases b;·exact ZR.nil
 ·exact h
theorem fU{v:Nat}(h:v<YO):hi v<4294967296:=by
 unfold hi;unfold YO at h;omega
theorem fT(v:Nat):lo v<4294967296:=ave _ jD
theorem bM (h:a<=5):YA a%4=0/\YA a<64:=by unfold YA;omega
theorem ky (h:a<=5):Zd a%4=0/\Zd a<64:=by unfold Zd;omega
theorem kx{c:Z5}{wide:Bool}{yes no:Int}(h:c.nf):ZR (XF c wide yes no):=by
 obtain⟨ha,_,_,hm,hv⟩:=h;have L:=bM ha;have H:=ky ha;have T:=Oe L.1 L.2;have I:=Oe H.1 H.2;have e:=λ(t f:Int) (k:Nat) (hk:k<4294967296)=>Sv (c:=0x15) (t:=t) (f:=f) rfl hk
 have g:=λ(t f:Int) (k:Nat) (hk:k<4294967296)=>Sv (c:=0x25) (t:=t) (f:=f) rfl hk
 have q:=λ(t f:Int) (k:Nat) (hk:k<4294967296)=>Sv (c:=0x35) (t:=t) (f:=f) rfl hk
 have A:=fU hv;have C:=fT c.v;have D:=fU hm;have J:=fT c.m;have same:∀y n,ZR (R1 (Zd c.a) (YA c.a) (hi c.v) (lo c.v) wide y n):=λy n=>(ZR.if_ (ZR.two I (e _ _ _ A))).app (ZR.two T (e _ _ _ C))
 have least:∀y n,ZR (Vu (Zd c.a) (YA c.a) (hi c.v) (lo c.v) wide y n):=λy n=>(ZR.if_ (ZR.three I (g _ _ _ A) (e _ _ _ A))).app (ZR.two T (q _ _ _ C))
 unfold XF;split;·exact same _ _
 ·split;·exact same _ _
  ·split;·exact least _ _
   ·split;·exact least _ _
    ·exact(ZR.if_ (ZR.three I (qY D) (e _ _ _ A))).app (ZR.three T (qY J) (e _ _ _ C))
theorem VL{g:G}{xs:List Z9}(h:ZR g.l)(hx:ZR xs):ZR (g.put xs).l:=h.app hx
theorem QZ{g:G} (hm:m≠0)(h:ZR g.l):ZR (g.here m).l:=h.app (ZR.one (yM jO))
theorem qX(g:G)(c:Nat):(g.goes c).l=g.l:=by
 unfold G.goes;split<;>rfl
theorem Od{g:G}(c:Nat)(h:ZR g.l):ZR (g.goes c).l:=by rwa [qX]
theorem D3(wide:Bool)(next:Nat):∀(cs:List Z5) (g:G),(∀c∈cs,c.nf)->ZR g.l->ZR (Zh wide next cs g).l
 |[],_,_,h=>h
 |c::cs,g,hc,h=>D3 wide next cs _ (λC A=>hc C (aff _ A)) (QZ (aqf _) (VL (show ZR g.mark.l from h) (kx (hc c agd))))
theorem DZ(wide:Bool)(ow:Nat):∀(rs:List Z3) (g:G),Pf rs->ZR g.l->ZR (XO wide ow rs g).l
 |[],_,_,h=>VL h (ZR.one (LD _))
 |(cs,code)::rs,g,hc,h=>DZ wide ow rs _ (λr hr=>hc r (aff _ hr)) (QZ (aqf _) (VL (Od _ (D3 wide _ cs _ (hc _ agd).2 (show ZR g.mark.l from h))) (ZR.one (LD _))))
theorem QY(ow:Nat):∀(k:Nat) (l:List (Nat×Nat)) (g:G),l.length<=k->(∀p∈l,p.1<4294967296)->ZR g.l->ZR (ZI ow l g).l
 |_,[],g,_,_,h=>by rw[XE];exact VL h (ZR.one (LD _))
 |_,[(a,m)],g,_,hb,h=>by rw[XD];exact VL h (ZR.one (Sv rfl (hb _ agd)))
 |0,x::y::r,g,hk,_,_=>by simp at hk
 |k+1,x::y::r,g,hk,hb,h=>by have hlen:(x::y::r).length=r.length+2:=rfl;rw[XY ow (x::y::r) jS g];refine QY ow k _ _ (by rw[aia];omega) (λp hp=>hb p (apc hp)) (QZ (aqf _) (QY ow k _ _ (by rw[abg];omega) (λp hp=>hb p (ald hp)) (VL (show ZR g.mark.l from h) (ZR.one (Sv rfl ?_)))));rw[aef,aM jO];exact hb _ (List.getElem_mem _)
theorem IJ:∀(l:List (Nat×Nat)) (g:G),(Zy l g).l=g.l
 |[],_=>rfl
 |p::r,g=>(IJ r _).trans (qX g p.2)
theorem kv(ow:Nat)(l:List (Nat×Nat))(g:G)(hl:∀p∈l,p.1<4294967296)(h:ZR g.l):ZR (WQ ow l g).l:=by
 unfold WQ;refine QY ow _ _ _ (aP _) (λp hp=> ?_) ?_;·obtain⟨q,A,rfl⟩:=ah.1 hp;exact hl q A
 ·rw[IJ];exact VL h (ZR.one (Oe jD jD))
def qW:ZO->Prop
 | .rules _ rs=>Pf rs
 | .subs l=>∀p∈l,p.1<4294967296/\p.2<4294967296
def Uq(ps:List (Nat×ZO)):Prop:=∀p∈ps,p.1<4294967296/\qW p.2
theorem ku(ow:Nat)(p:ZO)(g:G)(hp:qW p)(h:ZR g.l):ZR (VW ow p g).l:=by
 cases p with
 |rules wide rs=>exact DZ wide ow rs g hp h
 |subs l=>exact kv ow l g (λp q=>(hp p q).1) h
theorem Kv(ow:Nat):∀(ps:List ZO) (m:Nat) (g:G),m≠0->(∀p∈ps,qW p)->ZR g.l->ZR (Yc ow ps m g).l
 |[],_,_,_,_,h=>h
 |p::ps,m,g,hm,hp,h=>Kv ow ps _ _ (aqf _) (λq A=>hp q (aff _ A)) (ku ow p _ (hp p agd) (QZ hm h))
theorem TU{d:Nat}{ps:List (Nat×ZO)}{g:G}(hp:Uq ps)(h:ZR g.l):ZR (Za d ps g).l:=by
 unfold Za;refine Kv _ _ _ _ (aqf _) (λp q=> ?_) (QY _ _ _ _ (aP _) (λp q=> ?_) (Od d h));·obtain⟨x,hx,rfl⟩:=ah.1 q;exact(hp x hx).2
 ·obtain⟨_,x,hx,e⟩:=Uj ps _ p q;rw[<-e];exact(hp x hx).1
theorem bL{Vy:Bool}{d:Nat}{p0 p1:List (Nat×ZO)}{g:G}(C:Uq p0)(D:Uq p1)(h:ZR g.l):ZR (UD Vy d p0 p1 g).l:=by
 unfold UD;have A:ZR ((g.goes d).put [ins 0x15 NONE (look (g.goes d).b d) 0]).l:=VL (Od d h) (ZR.one (Sv rfl jD));split;·exact TU C (VL (Od _ A) (ZR.one (Sv rfl jD)))
 ·exact TU D (QZ (aqf _) (TU C (VL A (ZR.one (Sv rfl jD)))))
theorem GC {g:G}(hm:m≠0)(h:ZR g.l):ZR (Vr m g).l:=VL (QZ hm h) (ZR.one (Oe jD jD))
theorem kt:ZR XK.l:=VL (Od _ ((ZR.one (Oe jD jD)).app ((ZR.two (Sv rfl jD) (Sv rfl jD)).app (ZR.two (Sv rfl jD) (Sv rfl jD))))) (ZR.one (LD _))
def YH.B(p:YH):Prop:=Uq p.p0/\Uq p.p1/\Uq p.p2/\Uq p.p3/\Uq p.p4
theorem ai2{p:YH}(h:p.B):ZR (gD p).l:=by
 obtain⟨I,J,D,A,C⟩:=h;exact TU C (GC jD (TU A (GC jD (TU D (GC jD (bL I J (GC jD kt)))))))
theorem II(b:List (Nat×Nat)):∀cs:List Nat,(∀c∈cs,c<4294967296/\look b c≠0)->ZR (Zx b cs)
 |[],_=>ZR.nil
 |c::cs,h=>by have C:=h c agd;unfold Zx;rw[acb];exact(ZR.two (yM (by have:=C.2;omega)) (bN C.1)).app (II b cs (λD A=>h D (aff _ A)))
theorem Ku{p:YH}{cs:List Nat}(hc:OU p cs)(t:Int):t∈marks (ZN p cs)↔1<=t/\t<=((gD p).n:Int):=by
 have D:=(Uh p).2.2.2.1;unfold ZN;rw[WZ,abe,WN _ _ (λc h=>(hc.2 c).1 h),D.all t];constructor
 ·rintro(h|h);·exact .inl h
  ·obtain⟨c,C,A⟩:=ah.1 h;exact .inr (.inr ⟨c,(hc.2 c).1 C,A⟩)
 ·rintro(h|h|⟨c,C,A⟩);·exact .inl h
  ·exact absurd h id
  ·exact .inr (ah.2 ⟨c,(hc.2 c).2 C,A⟩)
theorem qV(l:List Z9):(marks l).length<=l.length:=by
 unfold marks;rw[aac];exact atc _ _
theorem IG{α:Type}[BEq α][LawfulBEq α]:∀{l m:List α},l.Nodup->(∀x∈l,x∈m)->l.length<=m.length
 |[],_,_,_=>abb _
 |x::l,m,hn,hs=>by obtain⟨C,A⟩:=ayd.1 hn;have hx:=hs x agd;have D:=IG (m:=m.erase x) A (λy hy=>(List.mem_erase_of_ne (show y≠x from λe=>C (e▸hy))).2 (hs y (aff _ hy)));rw[List.length_erase_of_mem hx] at D;have:=List.length_pos_of_mem hx;rw[aj];omega
theorem bK{p:YH}{cs:List Nat}(hc:OU p cs):(gD p).n<=(ZN p cs).length:=by
 have hs:((List.range (gD p).n).map λi=>((i:Nat):Int)+1) ⊆ marks (ZN p cs):=λt ht=>by obtain⟨i,hi,rfl⟩:=ah.1 ht;have:=aib.1 hi;exact(Ku hc _).2 jO
 have hn:((List.range (gD p).n).map λi=>((i:Nat):Int)+1).Nodup:=by unfold List.Nodup;rw[afa];exact List.nodup_range.imp (λ{a b} A e=>A jO)
 have:=IG hn (λx hx=>hs hx);rw[aac,afe] at this;exact aO this (qV _)
theorem DY{p:YH}{cs:List Nat}(hc:OU p cs)(U:p.B)(D:∀c∈cs,c<4294967296)(A:(ZN p cs).length<=1000000):Sw (ZN p cs) (ZN p cs).length (Z6 (ZN p cs)).length:=by
 refine⟨rfl,rfl,A,VE hc,λx hx=> ?_,?_⟩;·have hs:Sh x:=(abe.1 hx).elim (ai2 U x) (II _ _ (λc q=>⟨D c q,(hc.2 c).1 q⟩) x);refine⟨λh=>⟨hs.1 h,?_⟩,hs.2⟩;have hm:x.mark∈marks (ZN p cs):=ah.2 ⟨x,apg.2 ⟨hx,by simpa using h⟩,rfl⟩;have:=(Ku hc _).1 hm;have:=bK hc;omega
 ·have C:cs≠[]:=by
   rintro rfl;have hk:look (gD p).b Zo≠0:=by have I:=OV.2.2;obtain⟨_,_,_,_,Y,J,T,Z⟩:=Uh p;have:=(((Y.trans J).trans T).trans Z).b _ I;rw[this];exact I
   have:=(hc.2 Zo).2 hk;cases this
  obtain⟨q,c,rfl⟩:∃q c,cs=q++[c]:=⟨_,_,(apd C).symm⟩;refine⟨(gD p).l++(Zx (gD p).b q++[Zr (look (gD p).b c)]),ins 0x06 c 0 0,?_,rfl,rfl⟩;unfold ZN Zx;rw[aca,acb,ase];simp
end Go.Proofs.YtclgigmgbebhgaaGreatDoor
namespace Go.Proofs.YtclgigmgbebhgaaGreatDoor
open Tryz
open Go Go.Proofs Go.RowKit
theorem DX{t:ByteArray}{r:Z4.Z0}:Z4.Uy t r=true↔r.name=t:=by
 unfold Z4.Uy;rw[ahc];constructor;·intro e;rw[aha,aha] at e;exact ByteArray.ext (Array.toList_inj.1 e)
 ·rintro rfl;rfl
theorem MQ(p:Z4.Z0->Bool):∀l:List Z4.Z0,0<=Z4.firstIdx p l->∃i:Nat,i<l.length/\Z4.firstIdx p l=(i:Int)/\p l[i]! =true
 |[],h=>by simp[Z4.firstIdx] at h
 |x::r,h=>by
  unfold Z4.firstIdx at h ⊢;by_cases hp:p x=true;·exact⟨0,jS,by rw[aH hp];rfl,by simpa using hp⟩
  ·rw[aN hp] at h ⊢;by_cases A:Z4.firstIdx p r<0;·rw[aH A] at h;omega
   ·rw[aN A] at h ⊢;obtain⟨i,I,D,C⟩:=MQ p r jO;exact⟨i+1,by simp;omega,by rw[D];rfl,by simpa using C⟩
theorem Kt{l:List Z4.Z0}{nm:ByteArray}(h:0<=Z4.firstIdx (Z4.Uy nm) l):∃i,i<l.length/\YP l nm=l[i]! /\(l[i]!).name=nm:=by
 obtain⟨i,D,C,A⟩:=MQ _ _ h;refine⟨i,D,?_,DX.1 A⟩;unfold YP;rw[aN jO,C];simp
theorem BB{l:List Z4.Z0}{i:Nat}(hi:i<l.length):0<=Z4.firstIdx (Z4.Uy (l[i]!).name) l:=by
 rcases Z4.least (λj=>Z4.Uy (l[i]!).name l[j]!) l.length with h|⟨k,hk,C,A⟩;·have:=h i hi;rw[DX.2 rfl] at this;cases this
 ·rw[Z4.Tw _ l k hk A C];omega
theorem vX{l:List Z4.Z0}(A:Z4.Zv l){i j:Nat}(hi:i<l.length)(C:j<l.length)(e:(l[i]!).name=(l[j]!).name):i=j:=by
 rcases Nat.lt_trichotomy i j with h|h|h;·have:=Z4.lz A h C;rw[e,Z4.Nw] at this;cases this
 ·exact h
 ·have:=Z4.lz A h hi;rw[e,Z4.Nw] at this;cases this
theorem qU{l:List Z4.Z0}(A:Z4.Zv l){i:Nat}(hi:i<l.length):YP l (l[i]!).name=l[i]! :=by
 obtain⟨j,D,I,C⟩:=Kt (BB hi);rw[I,vX A D hi C]
theorem Ks{l:List Z4.Z0}(D:Z4.Zv l){i j:Nat}(hi:i<l.length)(I:j<l.length)(C:i≠j):(∀a,a<5->0<=(l[i]!).num a->(l[i]!).num a≠(l[j]!).num a)/\(0<(l[i]!).Ys->(l[i]!).Ys=(l[j]!).Ys->(l[i]!).sub≠(l[j]!).sub):=by
 rcases aza C with h|h;·have:=(Z4.cT (D j I)).2.2.2.2 i h;refine⟨λa ha A e=>this (.inl ⟨a,ha,by rw[<-e];exact A,e⟩),λA e1 e2=>this (.inr ⟨by rw[<-e1];exact A,e1,e2⟩)⟩
 ·have:=(Z4.cT (D i hi)).2.2.2.2 j h;exact⟨λa ha A e=>this (.inl ⟨a,ha,A,e.symm⟩),λA e1 e2=>this (.inr ⟨A,e1.symm,e2.symm⟩)⟩
def MP(l:List Z4.Z0)(dn:List (ByteArray×List Z3)):Prop:=∀g∈dn,0<=Z4.firstIdx (Z4.Uy g.1) l
section
variable {l:List Z4.Z0} {dn:List (ByteArray×List Z3)} {x:Bool} {d a m:Nat}
theorem MO(I:Z4.Zv l)(A:MP l dn){g g':ByteArray×List Z3}(J:g∈dn)(D:g'∈dn)(C:g.1≠g'.1):(∀a,a<5->0<=(YP l g.1).num a->(YP l g.1).num a≠(YP l g'.1).num a)/\(0<(YP l g.1).Ys->(YP l g.1).Ys=(YP l g'.1).Ys->(YP l g.1).sub≠(YP l g'.1).sub):=by
 obtain⟨i,hi,e1,e2⟩:=Kt (A g J);obtain⟨j,T,e3,e4⟩:=Kt (A g' D);rw[e1,e3];exact Ks I hi T (λe=>C (by rw[<-e2,<-e4,e]))
theorem UH{num:Nat->Int}{rs:List Z3}{e:Xp}:e∈Y7 x d num rs a↔0<=num a/\(a=1->x=true)/\Yt a d rs≠[]/\e=(whole a (num a).toNat,Yt a d rs):=by
 unfold Y7;constructor
 ·intro h;split at h
  ·cases h
  ·rename_i D;split at h
   ·cases h
   ·rename_i C;split at h
    ·cases h
    ·rename_i A;refine⟨jO,λha=> ?_,A,aaa.1 h⟩;cases x with
     |true=>rfl
     |false=>exact absurd ⟨ha,rfl⟩ C
 ·rintro⟨D,C,A,rfl⟩;rw[aN jO,aN (λh=>by rw[C h.1] at h;exact absurd h.2 jD),aN A];exact aaa.2 rfl
theorem V5{e:Xp}:e∈Xx x d l dn a↔∃g∈dn,0<=(YP l g.1).num a/\(a=1->x=true)/\Yt a d g.2≠[]/\e=(whole a ((YP l g.1).num a).toNat,Yt a d g.2):=by
 unfold Xx;rw[aqe];exact⟨λ⟨g,A,h⟩=>⟨g,A,UH.1 h⟩,λ⟨g,A,h⟩=>⟨g,A,UH.2 h⟩⟩
theorem Rp{Ys sub:Int}{rs:List Z3}{e:Nat×Nat}(h:e∈X6 Ys sub rs m):Ys=(m:Int)+1/\e=(sub.toNat,(rs[0]?.map (·.2)).getD 0):=by
 unfold X6 at h;split at h;·rename_i A;exact⟨A,aaa.1 h⟩
 ·cases h
theorem Kr(hn:(dn.map (·.1)).Nodup):dn.Pairwise (λg g'=>g.1≠g'.1):=afa.1 hn
theorem BA{α:Type}{R S:α->α->Prop}:∀{l:List α},l.Pairwise R->(∀x∈l,∀y∈l,R x y->S x y)->l.Pairwise S
 |[],_,_=>List.Pairwise.nil
 |x::l,h,hs=>by obtain⟨C,A⟩:=age.1 h;exact age.2 ⟨λy hy=>hs x jS y (by simp[hy]) (C y hy),BA A (λu hu v hv=>hs u (by simp[hu]) v (by simp[hv]))⟩
theorem vW(T:Z4.Zv l)(D:MP l dn)(hn:(dn.map (·.1)).Nodup)(ha:a<5):(Xx x d l dn a).Pairwise (λe J=>e.1≠J.1):=by
 unfold Xx;rw[List.pairwise_flatMap];refine⟨λg _=> ?_,BA (Kr hn) (λg Y g' I C e he J A h=> ?_)⟩
 ·unfold Y7;split;·exact List.Pairwise.nil
  ·split;·exact List.Pairwise.nil
   ·split;·exact List.Pairwise.nil
    ·exact ape _ _
 ·obtain⟨Z,_,_,rfl⟩:=UH.1 he;obtain⟨U,_,_,rfl⟩:=UH.1 A;have:=(MO T D Y I C).1 a ha Z;have h2:=I5 h;omega
theorem IE(A:Z4.Zv l)(I:MP l dn)(hn:(dn.map (·.1)).Nodup):(WY l dn m).Pairwise (λe T=>e.1≠T.1):=by
 unfold WY;rw[List.pairwise_flatMap];refine⟨λg _=> ?_,BA (Kr hn) (λg Y g' J D e Z T C h=> ?_)⟩
 ·unfold X6;split;·exact ape _ _
  ·exact List.Pairwise.nil
 ·obtain⟨h0,rfl⟩:=Rp Z;obtain⟨U,rfl⟩:=Rp C;have h3:=(MO A I Y J D).2 jO jO;have h4:=(Q2 A g.1).2.2.2.1;have h5:=(Q2 A g'.1).2.2.2.1;have h:(YP l g.1).sub.toNat=(YP l g'.1).sub.toNat:=h;omega
theorem DW{es es':List (Nat×Nat)}(hp:es.Perm es')(C:es'.Pairwise (λe A=>e.1≠A.1))(hs:es.Pairwise (λe A=>e.1<=A.1)):es.Pairwise (λe A=>e.1<A.1):=by
 have D:es.Pairwise (λe A=>e.1≠A.1):=hp.symm.pairwise C (λh e=>h e.symm);exact hs.imp₂ (λ{u v} I J=>jO) D
def gsT(l:List Z4.Z0)(dn:List (ByteArray×List Z3)):List Pc:=dn.map λg=>⟨(YP l g.1).num,g.2⟩
theorem GA{es:List Xp}{s0 s1:List (Nat×Nat)}{q:Nat×ZO}:q∈Z1 a es s0 s1↔(∃e∈es,q=VD a e)\/(a=2/\(q=(102,.subs s0)\/q=(117,.subs s1))):=by
 unfold Z1;rw[abe,ah];constructor
 ·rintro(⟨e,A,rfl⟩|h);·exact .inl ⟨e,A,rfl⟩
  ·split at h;·rename_i C;simp at h;exact .inr ⟨C,h⟩
   ·cases h
 ·rintro(⟨e,A,rfl⟩|⟨A,C⟩);·exact .inl ⟨e,A,rfl⟩
  ·rw[aH A];exact .inr (by simpa using C)
theorem qT{es:List Xp}{s0 s1:List (Nat×Nat)}{ps:List (Nat×ZO)}(A:es.Perm (Xx x d l dn a))(D:ps.Perm (Z1 a es s0 s1))(hs:ps.Pairwise (λp q=>p.1<q.1))(hr:∀g∈dn,Uz g.2)(Y:SE s0)(U:SE s1):UK x d (gsT l dn) s0 s1 a ps:=by
 refine⟨⟨hs,λp hp=> ?_⟩,λq=> ?_⟩
 ·rcases GA.1 (D.mem_iff.1 hp) with⟨e,J,rfl⟩|⟨_,rfl|rfl⟩;·obtain⟨g,C,_,_,_,rfl⟩:=V5.1 (A.mem_iff.1 J);exact(KT (hr g C)).1
  ·exact Y
  ·exact U
 ·rw[D.mem_iff,GA];constructor
  ·rintro(⟨e,J,rfl⟩|h);·obtain⟨g,C,I,T,q2,rfl⟩:=V5.1 (A.mem_iff.1 J);exact .inl ⟨⟨(YP l g.1).num,g.2⟩,ah.2 ⟨g,C,rfl⟩,I,T,q2,rfl⟩
   ·exact .inr h
  ·rintro(⟨G,Z,I,T,q2,rfl⟩|h);·obtain⟨g,C,rfl⟩:=ah.1 Z;exact .inl ⟨_,A.mem_iff.2 (V5.2 ⟨g,C,I,T,q2,rfl⟩),rfl⟩
   ·exact .inr h
theorem bJ(hT:Z4.Zv l)(Z:MP l dn)(hn:(dn.map (·.1)).Nodup)(ha:a<5){i:Nat}(hi:i<l.length)(h0:0<=(l[i]!).num a):gz (gsT l dn) a ((l[i]!).num a).toNat (((dn.find? (λg=>decide (g.1=(l[i]!).name))).map (·.2)).getD []):=by
 have D:∀g∈dn,(YP l g.1).num a=(l[i]!).num a->g.1=(l[i]!).name:=λg A e=>by
  obtain⟨j,hj,e1,e2⟩:=Kt (Z g A);by_cases T:i=j;·rw[T,e2]
  ·exact absurd (e1▸e).symm ((Ks hT hi hj T).1 a ha h0)
 have hz:(((l[i]!).num a).toNat:Int)=(l[i]!).num a:=jO;cases hf:dn.find? (λg=>decide (g.1=(l[i]!).name)) with
 |none=>
  refine .inr ⟨rfl,λG Y e=> ?_⟩;obtain⟨g,A,rfl⟩:=ah.1 Y;rw[hz] at e;have:=(ayg.1 hf) g A;exact this (by simpa using D g A e)
 |some g=>
  have A:=List.mem_of_find?_eq_some hf;have I:g.1=(l[i]!).name:=by simpa using List.find?_some hf
  refine .inl ⟨⟨(YP l g.1).num,g.2⟩,ah.2 ⟨g,A,rfl⟩,?_,rfl,λG Y e=> ?_⟩;·show(YP l g.1).num a=_;rw[hz,I,qU hT hi]
  ·obtain⟨g',J,rfl⟩:=ah.1 Y;rw[hz] at e;have e2:g'.1=g.1:=(D g' J e).trans I.symm
   have:g'=g:=Classical.byContradiction λU=>by
    rcases List.getElem_of_mem A with⟨p,hp,rfl⟩;rcases List.getElem_of_mem J with⟨q,hq,rfl⟩;have C:=Kr hn;rw[amb] at C;rcases Nat.lt_trichotomy p q with h|h|h;·exact C p q hp hq h e2.symm
    ·subst h;exact U rfl
    ·exact C q p hq hp h e2
   rw[this]
end
def DV(w:Nat->Nat)(x:Bool)(d a:Nat)(pr:List NR)(nm:ByteArray):Nat:=if a=1/\x=false then Zo else(ZC (VX w (decide (a≠2))) ((ofName nm pr).map RA)).getD d
theorem kr{w:Nat->Nat}(hw:He w)(b:Bool)(a:Nat):VX w b a<YO:=by
 unfold VX YO;have C:=hw (Zd a);have A:=hw (YA a);split<;>omega
theorem vV{l:List Z4.Z0}{dn:List (ByteArray×List Z3)}{pr:List NR}{p:YH}{s0 s1:List (Nat×Nat)}(A:Z4.Zv l)(C:MP l dn)(hd:DnF pr p.d dn)(I:Rz p (gsT l dn) s0 s1){w:Nat->Nat}(hw:He w){a i:Nat}(ha:a<5)(hi:i<l.length)(D:0<=(l[i]!).num a)(J:w 4=X5 a)(hn:w 0=whole a ((l[i]!).num a).toNat):
 ET w p=DV w p.Vy p.d a pr (l[i]!).name:=by
 have hr:=(Z4.cT (A i hi)).2.2.1.1 a ha;unfold Z4.NU at hr;rw[rJ hw I ha (show((l[i]!).num a).toNat<Wj by unfold Wj;omega) (λe=> ?_) (bJ A C hd.nodup ha hi D) J hn]
 ·unfold cG DV;by_cases hx:a=1/\p.Vy=false;·rw[aH hx,aH hx]
  ·rw[aN hx,aN hx];exact hd.rX _ (λb=>kr hw _ b) _
 ·subst e;have hm:=(Z4.cT (A i hi)).2.2.2.1;unfold Z4.SA at hm;have e2:(l[i]!).num 2=(l[i]!).n2:=rfl;rw[e2] at D ⊢;constructor;·intro e;exact hm (.inl jO)
  ·intro e;exact hm (.inr jO)
end Go.Proofs.YtclgigmgbebhgaaGreatDoor
namespace Go.Proofs.YtclgigmgbebhgaaGreatDoor
open Tryz
open Go Go.Proofs Go.RowKit Go.Shelf
theorem kq(x:Int)(A:0<=x)(C:x<=18446744073709551615)(w:World):Calls prog 97 #[.int .u64 x] w λe w'=>e=.returned (.int .i64 (Lib.bitLen x.toNat))/\w'=w:=
 calls_of_every_depth λD=>AnySM.bits_LenIn {Tryz.sortInt with} D x w A C
end Go.Proofs.YtclgigmgbebhgaaGreatDoor
