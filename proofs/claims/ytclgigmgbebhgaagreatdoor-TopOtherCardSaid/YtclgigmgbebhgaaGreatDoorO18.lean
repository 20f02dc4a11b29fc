/- TopOther: part 18: TopLayout TopLaid TopShape TopPl2 TopLenU. -/
import Derived.WalkMore
import Derived.Test.YtclgigmgbebhgaaGreatDoorO13
import Derived.Test.YtclgigmgbebhgaaGreatDoorO17
set_option linter.unusedVariables false
set_option linter.unusedSimpArgs false
set_option maxRecDepth 100000
set_option maxHeartbeats 16000000
namespace Go.Proofs.YtclgigmgbebhgaaGreatDoor
open Tryz
open Go Go.Proofs Go.RowKit
variable {K L:Nat}
def Dw(ZU far:Nat->Bool)(n:Nat):Nat:=if ZU n then 0 else if far n then 3 else 1
def ZC(ZU far:Nat->Bool):Nat->Nat
 |0=>0
 |n+1=>ZC ZU far n+Dw ZU far n
theorem qO(ZU far:Nat->Bool)(n:Nat):Dw ZU far n<=3:=by
 unfold Dw;split;·omega
 ·split<;>omega
theorem N8(ZU far:Nat->Bool):∀n,ZC ZU far n<=3*n
 |0=>aR _
 |n+1=>by have:=N8 ZU far n;have:=qO ZU far n;show ZC ZU far n+Dw ZU far n<=_;omega
theorem YN(ZU far:Nat->Bool):∀d n,ZC ZU far n<=ZC ZU far (n+d)
 |0,n=>aR _
 |d+1,n=>aO (YN ZU far d n) (Nat.le_add_right _ _)
theorem qN(s:Sy)(w:World):Calls prog 182 #[.agg #[.int .i64 s.i.mark,.int .u16 s.i.code,.int .u32 s.i.k,.int .i64 s.i.t,.int .i64 s.i.f,.int .i64 s.kind,.int .i64 s.yes,.int .i64 s.no,.bool s.far,.int .i64 s.at_,.bool s.ZU]] w λe w'=>e=.returned (.int .i64 ((if s.ZU then 0 else if s.far then 3 else 1:Nat):Int))/\Below w.heap.size w w':=by
 obtain⟨⟨D,xc,C,I,J⟩,k,y,n,fr,a,u⟩:=s;dsimp only;have T:=Z7.new w Tq #[.int .i64 D,.int .u16 xc,.int .u32 C,.int .i64 I,.int .i64 J,.int .i64 k,.int .i64 y,.int .i64 n,.bool fr,.int .i64 a,.bool u];obtain⟨_,_,_,_,_,_,_,_,Y,_,U⟩:=T.q11;have A:=aT ((aH w.heap.size w).alloc (aR _) (.cells #[.int .i64 D,.int .u16 xc,.int .u32 C,.int .i64 I,.int .i64 J,.int .i64 k,.int .i64 y,.int .i64 n,.bool fr,.int .i64 a,.bool u] Tq));clear T;cases u with
 |true=>
  go_enter func182,ntmps182;go_wp2_with fail;go_ret;exact⟨rfl,A⟩
 |false=>
  cases fr with
  |true=>
   go_enter func182,ntmps182;go_wp2_with fail;go_ret;exact⟨rfl,A⟩
  |false=>
   go_enter func182,ntmps182;go_wp2_with fail;go_ret;exact⟨rfl,A⟩
structure VA(LO g c K:Nat)(l:List Z9)(ZU:Nat->Bool)(w W:World)(far:Nat->Bool)(at_:Nat->Nat):Prop where
 Zs:Below LO w W
 st:W.ownsRow LO Tq 11 (.slice (some ⟨g,0,none⟩) K c) K ((Yw l K ZU far at_).flatMap Y5)
 lo:LO<=w.heap.size/\LO<=g
section
variable {LO g c K:Nat} {l:List Z9} {ZU:Nat->Bool} {w W W':World} {far:Nat->Bool} {at_:Nat->Nat}
theorem VA.bl(h:VA LO g c K l ZU w W far at_)(hb:Below W.heap.size W W'):VA LO g c K l ZU w W' far at_:=⟨h.Zs.trans (hb.mono (aO h.lo.1 h.Zs.size)),ZE h.st hb,h.lo⟩
theorem VA.VH(h:VA LO g c K l ZU w W far at_)(hk:(Z6 l).length=K){m:Nat}{x:Z9}(hx:(Z6 l)[m]? =some x)(j:Nat)(A:j<11):W.cell? ⟨g,m*11+j,none⟩=(Y5 (Zp l K ZU far at_ m x))[j]? :=by
 obtain⟨g',e,_,hc⟩:=Ye Y5 11 (λ_=>rfl) ((V6 _ _ _ _ _).trans hk) h.st (V5 hx);cases e;exact hc j A
theorem VA.setAt{n a:Nat}{x:Z9}(h:VA LO g c K l ZU w W far at_)(hx:(Z6 l)[n]? =some x):VA LO g c K l ZU w (W.setCell ⟨g,n*11+9,none⟩ (.int .i64 a)) far (upd at_ n a):=by
 obtain⟨A,C⟩:=Vw (f:=Y5) (k:=11) (λ_=>rfl) h.st (i:=n) (j:=9) (u:=.int .i64 a) (x:=Zp l K ZU far at_ n x) (x':=Zp l K ZU far (upd at_ n a) n x) (V5 hx) jD (by unfold Zp Y5;rw[upd_same];rfl);rw[<-Tp (l:=l) (d:=K) (d':=K) (ZU:=ZU) (AR:=ZU) (far:=far) (Kh:=far) (at_:=at_) (at':=upd at_ n a) hx (λm x hm=>by unfold Zp;rw[TT at_ a hm])] at A;exact⟨h.Zs.setCell (p:=⟨g,_,none⟩) h.lo.2 _,A,h.lo⟩
theorem VA.aZ{n:Nat}{b:Bool}{x:Z9}(h:VA LO g c K l ZU w W far at_)(hx:(Z6 l)[n]? =some x):VA LO g c K l ZU w (W.setCell ⟨g,n*11+8,none⟩ (.bool b)) (upd far n b) at_:=by
 obtain⟨A,C⟩:=Vw (f:=Y5) (k:=11) (λ_=>rfl) h.st (i:=n) (j:=8) (u:=.bool b) (x:=Zp l K ZU far at_ n x) (x':=Zp l K ZU (upd far n b) at_ n x) (V5 hx) jD (by unfold Zp Y5;rw[upd_same];rfl);rw[<-Tp (l:=l) (d:=K) (d':=K) (ZU:=ZU) (AR:=ZU) (far:=far) (Kh:=upd far n b) (at_:=at_) (at':=at_) hx (λm x hm=>by unfold Zp;rw[TT far b hm])] at A;exact⟨h.Zs.setCell (p:=⟨g,_,none⟩) h.lo.2 _,A,h.lo⟩
theorem VA.congr{Kh:Nat->Bool}{at':Nat->Nat}(h:VA LO g c K l ZU w W far at_)(hk:(Z6 l).length=K)(A:∀m,m<K->far m=Kh m)(C:∀m,m<K->at_ m=at' m):VA LO g c K l ZU w W Kh at':=by
 have e:Yw l K ZU far at_=Yw l K ZU Kh at':=by
  apply agd;intro m;rw[Xw,Xw];cases hm:(Z6 l)[m]? with
  |none=>rfl
  |some x=>
   have:=(au.1 hm).1;rw[hk] at this;show some (Zp _ _ _ _ _ _ _)=some (Zp _ _ _ _ _ _ _);unfold Zp;rw[A m this,C m this]
 exact⟨h.Zs,by rw[<-e];exact h.st,h.lo⟩
end
def Ll(l:List Z9)(ZU far:Nat->Bool)(m:Nat):Bool:=match (Z6 l)[m]? with
 |some x=> !ZU m && !far m&&YV x.code&&decide ((255:Int)<max (ZC ZU far (target l m x.t):Int) (ZC ZU far (target l m x.f):Int)-(ZC ZU far m:Int)-1)
 |none=>false
def Um(l:List Z9)(ZU far:Nat->Bool)(n:Nat):Nat->Bool:=λm=>far m || (decide (m<n)&&Ll l ZU far m)
def cntF(far:Nat->Bool)(K:Nat):Nat:=((List.range K).filter far).length
theorem j5(far:Nat->Bool)(K:Nat):cntF far K<=K:=by
 unfold cntF;exact aO (ate _ _) (by rw[afc];exact aR _)
theorem qM{l:List Z9}{ZU far:Nat->Bool} (h:(List.range K).any (Ll l ZU far)=true):cntF far K+1<=cntF (Um l ZU far K) K:=by
 have J:∀(p q:Nat->Bool) (L:List Nat),(∀m∈L,p m=true->q m=true)->(L.filter p).length<=(L.filter q).length/\((∃m∈L,p m=false/\q m=true)->(L.filter p).length+1<=(L.filter q).length):=by
  intro p q L
  induction L with
  |nil=>intro _;exact⟨aR _,λ⟨m,hm,_⟩=>by cases hm⟩
  |cons a L U=>
   intro C;obtain⟨I,T⟩:=U (λm hm=>C m (afd _ hm));have ha:=C a agf;rw[amf,amf];cases hp:p a with
   |true=>
    rw[aG rfl,aG (ha hp),aj,aj];refine⟨axd I,λ⟨m,hm,A,D⟩=>axd (T ⟨m,?_,A,D⟩)⟩;rcases abf.1 hm with rfl|hm;·rw[hp] at A;cases A
    ·exact hm
   |false=>
    rw[aN jD];cases Y:q a with
    |true=>
     rw[aG rfl,aj];exact⟨Nat.le_succ_of_le I,λ_=>axd I⟩
    |false=>
     rw[aN jD];refine⟨I,λ⟨m,hm,A,D⟩=>T ⟨m,?_,A,D⟩⟩;rcases abf.1 hm with rfl|hm;·rw[Y] at D;cases D
     ·exact hm
 obtain⟨m,hm,hn⟩:=alg.1 h;refine(J far (Um l ZU far K) (List.range K) (λm _ h=>by unfold Um;rw[h];rfl)).2 ⟨m,hm,?_,?_⟩
 ·unfold Ll at hn;split at hn;·simp only[agc,Bool.not_eq_true'] at hn;exact hn.1.1.2
  ·cases hn
 ·unfold Um;rw[hn,adb (aia.1 hm)];simp
structure MF(l:List Z9)(K:Nat)(ZU far:Nat->Bool):Prop where
 br:∀m x,(Z6 l)[m]? =some x->far m=true->YV x.code=true
 ak3:∀m x,(Z6 l)[m]? =some x->ZU m=false->far m=false->YV x.code=true->(max (ZC ZU far (target l m x.t):Int) (ZC ZU far (target l m x.f):Int)-(ZC ZU far m:Int)-1)<=255
theorem AP{LO g c:Nat}{l q:List Z9}{y:Z9}{ZU qL:Nat->Bool}(hK:(Z6 l).length=K)(Xl:K<=1000000)(hF:ZR l)(hO:∀x∈l,Jl x)(hl:l=q++[y])(hy:y.mark=0)(Ih:y.code=0x06)(ak4:∀m x,(Z6 l)[m]? =some x->qL m=true->YV x.code=true)(w:World)(at0:Nat->Nat)(hst:w.ownsRow LO Tq 11 (.slice (some ⟨g,0,none⟩) K c) K ((Yw l K ZU qL at0).flatMap Y5))(RX:LO<=w.heap.size)(hg:LO<=g):
 Calls prog 112 #[.slice (some ⟨g,0,none⟩) K c] w λe w'=>∃far,e=.returned (.int .i64 (ZC ZU far K:Int))/\MF l K ZU far/\w'.ownsRow LO Tq 11 (.slice (some ⟨g,0,none⟩) K c) K ((Yw l K ZU far (ZC ZU far)).flatMap Y5)/\Below LO w w':=by
 have J:=aT hK;have bf:=aT (λ(n:Nat) (x:Z9) (hx:(Z6 l)[n]? =some x) (h6:x.code≠0x06) (m:Int) (hm:m=x.t\/m=x.f)=>Kf hF hl hy hx (λe=>h6 (by rw[e];exact Ih)) hm);have HO:=aT hO;have I:Hid (VA LO g c K l ZU w w qL at0):=⟨aH _ _,hst,RX,hg⟩;have fy:=aT ak4;clear hK hF hO hl hy Ih hst ak4;go_enter func112,ntmps112;go_wp2_with fail;go_step3;go_wp2_with fail;go_step3;go_wp2_with fail;go_loopg [2] (K+2) (λgg rv wr=>∃(far:Nat->Bool) (at_:Nat->Nat),K+1-cntF far K<gg/\Hid (VA LO g c K l ZU w wr far at_)/\Hid (∀m x,(Z6 l)[m]? =some x->far m=true->YV x.code=true));case atStart=>exact⟨qL,at0,jO,I,fy⟩
 case round=>
  obtain⟨far,at_,VP,I,fy⟩:=hrel;go_upto_region 3 with fail;go_loopg [3,10] (K+1) (λgg av iv wr=>∃n:Nat,n<=K/\K-n<gg/\iv=.int .i64 (n:Int)/\av=.int .i64 (ZC ZU far n:Int)/\Hid (VA LO g c K l ZU w wr far (λm=>if m<n then ZC ZU far m else at_ m)));case atStart=>exact⟨0,abc _,jO,rfl,rfl,I⟩
  case round=>
   obtain⟨n,hnK,lS,rfl,rfl,I⟩:=hrel;have n0:=jZ n;by_cases hlt:n<K
   ·have Y8:(n:Int)<(K:Int):=by omega
    have iw:=jW n;obtain⟨x,hx⟩:∃x,(Z6 l)[n]? =some x:=⟨_,aM (by rw[J.out];exact hlt)⟩;have y9:=I.VH J hx 9 jD;unfold Y5 Zp at y9;simp only[aL,aF] at y9;have f9:=I.st.frozenAt (n*11+9);have hL2:=I.setAt (a:=ZC ZU far n) hx;obtain⟨s,hs⟩:=jX (Zp l K ZU far (upd (λm=>if m<n then ZC ZU far m else at_ m) n (ZC ZU far n)) n x);have hsz:(if s.ZU then 0 else if s.far then 3 else 1)=Dw ZU far n:=by rw[<-hs];rfl
    have hz:∀j,j<11->(wr.setCell ⟨g,n*11+9,none⟩ (.int .i64 (ZC ZU far n:Int))).cell? ⟨g,n*11+j,none⟩=(Y5 s)[j]? :=λj Y=>by rw[<-hs];exact hL2.VH J hx j Y
    have z0:=hz 0 jD;have z1:=hz 1 jD;have z2:=hz 2 jD;have z3:=hz 3 jD;have z4:=hz 4 jD;have z5:=hz 5 jD;have z6:=hz 6 jD;have z7:=hz 7 jD;have z8:=hz 8 jD;have z9:=hz 9 jD;have mJ:=hz 10 jD;unfold Y5 at z0 z1 z2 z3 z4 z5 z6 z7 z8 z9 mJ;simp only[aL,aF,aeb] at z0 z1 z2 z3 z4 z5 z6 z7 z8 z9 mJ;obtain⟨Sz,hSz⟩:=jX (Dw ZU far n);have qR:ZC ZU far (n+1)=ZC ZU far n+Sz:=by rw[<-hSz];rfl
    have mI:=N8 ZU far n;have tP:=qO ZU far n;rw[hSz] at tP hsz;obtain⟨P,hP⟩:=jX (ZC ZU far n);have aw:IntKind.i64.wrap ((P:Int)+(Sz:Int))=(P:Int)+(Sz:Int):=aJ _ jO;have C:Hid (VA LO g c K l ZU w (wr.setCell ⟨g,n*11+9,none⟩ (.int .i64 P)) far (λm=>if m<n+1 then ZC ZU far m else at_ m)):=by
     rw[<-hP];refine hL2.congr J (λm _=>rfl) (λm _=> ?_);unfold upd;by_cases zi:m=n;·rw[aG zi,aG jO,zi]
     ·rw[aN zi];dsimp only;by_cases h:m<n;·rw[aG h,aG jO]
      ·rw[aN h,aN jO]
    have HPN:Hid ((ZC ZU far (n+1):Int)=(P:Int)+(Sz:Int)):=by rw[qR,hP];exact avg _ _
    have fS:=aT hsz;rw[hP] at z0 z1 z2 z3 z4 z5 z6 z7 z8 z9 mJ ⊢;clear hz hs hL2 I hx qR mI tP hP hSz hsz;go_wp2_with fail;refine(qN s _).mono ?_;rintro e w' ⟨rfl,hb⟩;rw[fS.out];have HL3:=aT (C.bl hb);clear hb C z0 z1 z2 z3 z4 z5 z6 z7 z8 z9 mJ y9 f9;go_wp2_with fail;go_roundg (K-n);case measure=>omega
    case rel=>exact⟨n+1,jO,jO,by go_num,by rw[HPN.out],HL3⟩
   ·obtain rfl:n=K:=by omega
    have Y8:¬(n:Int)<(n:Int):=jO;have HLp:Hid (VA LO g c n l ZU w wr (Um l ZU far 0) (ZC ZU far)):=I.congr J (λm _=>by unfold Um;rw[aee (ajd m)];simp) (λm hm=>aG hm);clear I;go_upto_region 10 with fail;go_loopg [5,28] (n+1) (λgg mv iv wr=>∃m:Nat,m<=n/\n-m<gg/\iv=.int .i64 (m:Int)/\(∃mo,mv=.bool mo/\mo=(List.range m).any (Ll l ZU far))/\Hid (VA LO g c n l ZU w wr (Um l ZU far m) (ZC ZU far)));case atStart=>exact⟨0,abc _,jO,rfl,⟨_,rfl,rfl⟩,HLp⟩
    case round=>
     obtain⟨m,zi,ai2,rfl,⟨mo,rfl,bu⟩,I⟩:=hrel;have m0:=jZ m;by_cases RQ:m<n
     ·have II:(m:Int)<(n:Int):=by omega
      have iw:=jW m;have HMO:=aT bu;clear bu;obtain⟨x,hx⟩:∃x,(Z6 l)[m]? =some x:=⟨_,aM (by rw[J.out];exact RQ)⟩;have fx:Um l ZU far m m=far m:=by unfold Um;rw[aee (asc m)];simp
      have fw:=I.VH J hx 5 jD;have fu:=I.VH J hx 8 jD;have U:=I.VH J hx 10 jD;unfold Y5 Zp at fw fu U;simp only[aL,aF] at fw fu U;rw[fx] at fu;have ak5:(List.range (m+1)).any (Ll l ZU far)=(mo || Ll l ZU far m):=by rw[ame,List.any_append,<-HMO.out];simp
      have D:Ll l ZU far m=false->VA LO g c n l ZU w wr (Um l ZU far (m+1)) (ZC ZU far):=λh0=>I.congr J (λj _=>by
       unfold Um;by_cases Y:j=m;·subst Y;rw[h0];simp
       ·rw[show decide (j<m+1)=decide (j<m) by rw[aya];omega]) (λ_ _=>rfl)
      have A:Ll l ZU far m=(!ZU m && !far m&&YV x.code&&decide ((255:Int)<max (ZC ZU far (target l m x.t):Int) (ZC ZU far (target l m x.f):Int)-(ZC ZU far m:Int)-1)):=by unfold Ll;rw[hx]
      have jY:=aT ak5;obtain⟨hc,_⟩:=(HO x (N9 hx).1).2 (N9 hx).2;clear ak5;cases hu:ZU m with
      |true=>
       rw[hu] at U A;have h0:Ll l ZU far m=false:=by rw[A];rfl
       have C:=aT (D h0);have BM:Hid (mo=(List.range (m+1)).any (Ll l ZU far)):=by show _=_;rw[jY.out,h0,Bool.or_false]
       clear D A hx I fx h0;go_wp2_with fail;go_roundg (n-m);case measure=>omega
       case rel=>exact⟨m+1,jO,jO,by go_num,⟨_,rfl,BM⟩,C⟩
      |false=>
       cases hf:far m with
       |true=>
        rw[hu] at U A;rw[hf] at fu A;have h0:Ll l ZU far m=false:=by rw[A];rfl
        have C:=aT (D h0);have BM:Hid (mo=(List.range (m+1)).any (Ll l ZU far)):=by show _=_;rw[jY.out,h0,Bool.or_false]
        clear D A hx I fx h0;go_wp2_with fail;go_roundg (n-m);case measure=>omega
        case rel=>exact⟨m+1,jO,jO,by go_num,⟨_,rfl,BM⟩,C⟩
       |false=>
        rw[hu] at U A;rw[hf] at fu A;cases hb:YV x.code with
        |false=>
         rw[hb] at A;have h0:Ll l ZU far m=false:=by rw[A];rfl
         have C:=aT (D h0);have BM:Hid (mo=(List.range (m+1)).any (Ll l ZU far)):=by show _=_;rw[jY.out,h0,Bool.or_false]
         have Z:=Lm hc hb;obtain⟨KN,qK⟩:=jX (Zz x.code);rw[qK] at Z fw;have dt:(KN:Int)<25:=jO;clear D A hx I fx h0 hc qK Z;go_wp2_with fail;go_roundg (n-m);case measure=>omega
         case rel=>exact⟨m+1,jO,jO,by go_num,⟨_,rfl,BM⟩,C⟩
        |true=>
         have Z:=Ln hb;obtain⟨KN,qK⟩:=jX (Zz x.code);rw[qK] at Z fw;have dt:¬(KN:Int)<25:=jO;have aY:=I.VH J hx 6 jD;have aX:=I.VH J hx 7 jD;have mH:=I.VH J hx 9 jD;unfold Y5 Zp at aY aX mH;simp only[aL,aF,RQ,if_true] at aY aX mH;have f8:=I.st.frozenAt (m*11+8);have h6:x.code≠0x06:=λe=>by rw[e] at hb;cases hb
         obtain⟨t1,t2⟩:=bf m x hx h6 x.t (.inl rfl);obtain⟨s1,s2⟩:=bf m x hx h6 x.f (.inr rfl);rw[show Oa l m x=(target l m x.t:Int) by unfold Oa;rw[aN h6]] at aY;rw[show AU l m x=(target l m x.f:Int) by unfold AU;rw[aG hb]] at aX;rw[hb] at A;obtain⟨T,hT⟩:=jX (target l m x.t);obtain⟨F,hF⟩:=jX (target l m x.f);rw[hT] at aY t1 t2 A;rw[hF] at aX s1 s2 A;rw[J.out] at t2 s2;obtain⟨xT,fq⟩:∃x,(Z6 l)[T]? =some x:=⟨_,aM (by rw[J.out];exact t2)⟩;obtain⟨xF,hxF⟩:∃x,(Z6 l)[F]? =some x:=⟨_,aM (by rw[J.out];exact s2)⟩;have hcT:=I.VH J fq 9 jD;have hcF:=I.VH J hxF 9 jD;unfold Y5 Zp at hcT hcF;simp only[aL,aF] at hcT hcF;have hs1:ZC ZU far (m+1)=ZC ZU far m+1:=by show _+Dw ZU far m=_;unfold Dw;rw[hu,hf];rfl
         have AO:=YN ZU far (T-(m+1)) (m+1);have qJ:=YN ZU far (F-(m+1)) (m+1);rw[show m+1+(T-(m+1))=T from jO,hs1] at AO;rw[show m+1+(F-(m+1))=F from jO,hs1] at qJ;have hpT:=N8 ZU far T;have hpF:=N8 ZU far F;obtain⟨PT,qI⟩:∃P,ZC ZU far T=P:=⟨_,rfl⟩;obtain⟨PF,hPF⟩:∃P,ZC ZU far F=P:=⟨_,rfl⟩;obtain⟨PM,hPM⟩:∃P,ZC ZU far m=P:=⟨_,rfl⟩;rw[qI] at hcT AO hpT A;rw[hPF] at hcF qJ hpF A;rw[hPM] at mH AO qJ A;simp only[Bool.not_false,Bool.true_and] at A;have T0:=jZ T;have T1:(T:Int)<(n:Int):=jO;have F0:=jZ F;have F1:(F:Int)<(n:Int):=jO;have hL2:=I.aZ (b:=Ll l ZU far m) hx;have C:Hid (VA LO g c n l ZU w (wr.setCell ⟨g,m*11+8,none⟩ (.bool (Ll l ZU far m))) (Um l ZU far (m+1)) (ZC ZU far)):=hL2.congr J (λj _=>by
          unfold upd;by_cases Y:j=m;·subst Y;rw[aG rfl];unfold Um;rw[hf,adb (amg j)];simp
          ·rw[aN Y];unfold Um;rw[show decide (j<m+1)=decide (j<m) by rw[aya];omega]) (λ_ _=>rfl)
         have hval:(decide ((255:Int)<IntKind.i64.wrap (IntKind.i64.wrap ((if PT<PF then(PF:Int) else(PT:Int))-(PM:Int))-1)))=Ll l ZU far m:=by
          rw[A];by_cases aW:PT<PF;·have e1:IntKind.i64.wrap ((PF:Int)-(PM:Int))=(PF:Int)-(PM:Int):=aJ _ jO;rw[aG aW,e1,aJ _ jO,aya];omega
          ·have e1:IntKind.i64.wrap ((PT:Int)-(PM:Int))=(PT:Int)-(PM:Int):=aJ _ jO;rw[aN aW,e1,aJ _ jO,aya];omega
         obtain⟨NB,nu⟩:∃b,Ll l ZU far m=b:=⟨_,rfl⟩;rw[nu] at C hval;have hfr:Um l ZU far (m+1) m=NB:=by unfold Um;rw[hf,adb (amg m),nu];simp
         have c8:=C.VH J hx 8 jD;unfold Y5 Zp at c8;simp only[aL,aF] at c8;rw[hfr] at c8;have HNB:=aT nu;have aV:=aT hval;clear hval hfr;have Iq:=aT c8;clear c8;clear D hx hL2 fx hc qK Z t1 t2 s1 s2 fq hxF hs1 AO qJ hpT hpF qI hPF hPM hT hF nu A I;go_upto_region 14 with fail
         go_region_held3 (λw'=>w'.cell? ⟨g,m*11+6,none⟩=some (.int .i64 T)/\w'.cell? ⟨g,m*11+7,none⟩=some (.int .i64 F)/\w'.cell? ⟨g,m*11+9,none⟩=some (.int .i64 PM)/\w'.cell? ⟨g,T*11+9,none⟩=some (.int .i64 PT)/\w'.cell? ⟨g,F*11+9,none⟩=some (.int .i64 PF)) (first|exact⟨aY,aX,mH,hcT,hcF⟩|exact⟨(ahb _ _ _ _ jS).trans aY,(ahb _ _ _ _ jS).trans aX,(ahb _ _ _ _ jS).trans mH,(ahb _ _ _ _ (by simp<;>omega)).trans hcT,(ahb _ _ _ _ (by simp<;>omega)).trans hcF⟩) (fail)
         first|rw[aV.out]|rw[show(max (PT:Int) (PF:Int))=(if PT<PF then(PF:Int) else(PT:Int)) by split<;>omega,aV.out]
         have HL3:Hid (VA LO g c n l ZU w (wr.setCell ⟨g,m*11+8,none⟩ (.bool NB)).drew (Um l ZU far (m+1)) (ZC ZU far)):=⟨C.Zs.drew,C.st.drew,C.lo⟩;have c8:=Iq.out;have BM:Hid ((mo || NB)=(List.range (m+1)).any (Ll l ZU far)):=by show _=_;rw[jY.out,HNB.out]
         clear C Iq aV fw aY aX fu mH U hcT hcF f8;cases mo with
         |true=>
          go_wp2_with fail
          all_goals
           go_roundg (n-m);case measure=>omega
           case rel=>exact⟨m+1,jO,jO,by go_num,⟨_,rfl,by rw[<-BM.out];simp⟩,HL3⟩
         |false=>
          go_wp2_with fail
          all_goals
           go_roundg (n-m);case measure=>omega
           case rel=>exact⟨m+1,jO,jO,by go_num,⟨_,rfl,by rw[<-BM.out];simp⟩,HL3⟩
     ·obtain rfl:m=n:=by omega
      have II:¬(m:Int)<(m:Int):=jO;have HMO:=aT bu;clear bu;cases mo with
      |true=>
       have av1:=qM HMO.symm;have hle:=j5 (Um l ZU far m) m;have ax5:Hid (∀j x,(Z6 l)[j]? =some x->Um l ZU far m j=true->YV x.code=true):=by
        intro j x hx Y;unfold Um at Y;cases hf:far j with
        |true=>exact fy j x hx hf
        |false=>
         rw[hf] at Y;simp only[Bool.false_or,agc,aed] at Y;have h:=Y.2;unfold Ll at h;rw[hx] at h;simp only[agc] at h;exact h.1.2
       go_wp2_with fail;go_roundg (m+1-cntF far m);case measure=>omega
       case rel=>exact⟨_,_,jO,I,ax5⟩
      |false=>
       have hno:∀j,j<m->Ll l ZU far j=false:=λj Y=>by
        have h:=HMO.out;cases hn:Ll l ZU far j with
        |false=>rfl
        |true=>exact absurd (alg.2 ⟨j,aia.2 Y,hn⟩) (by rw[<-h];decide)
       have HLf:Hid (VA LO g c m l ZU w wr far (ZC ZU far)):=I.congr J (λj Y=>by unfold Um;rw[hno j Y];simp) (λ_ _=>rfl)
       have nr:Hid (MF l m ZU far):=by refine⟨fy,λj x hx hu hf hb=> ?_⟩;have Y:=(au.1 hx).1;rw[J.out] at Y;have h:=hno j Y;unfold Ll at h;rw[hx] at h;dsimp only at h;rw[hu,hf,hb] at h;simp only[Bool.not_false,Bool.true_and,ase] at h;omega
       clear hno I fy HMO;go_wp2_with fail
       first
        |(rw[Exit.noGoto_ret];go_ret;exact⟨far,rfl,nr,HLf.st,HLf.Zs⟩)
        |(go_ret;exact⟨far,rfl,nr,HLf.st,HLf.Zs⟩)
structure Sx(l:List Z9)(L K:Nat):Prop where
 len:l.length=L
 ins:(Z6 l).length=K
 max:L<=1000000
 fp:ZR l
 ok:∀x∈l,Jl x
 last:∃q y,l=q++[y]/\y.mark=0/\y.code=0x06
theorem Sx.pos{l:List Z9} (h:Sx l L K):1<=K/\K<=L:=by
 obtain⟨q,y,e,hy,_⟩:=h.last;constructor;·rw[<-h.ins,e,Yn,YD hy,ay];exact Nat.le_add_left _ _
 ·rw[<-h.ins,<-h.len];unfold Z6;exact ate _ _
def yy(l:List Z9)(K:Nat)(w:World):Ending->World->Prop:=λe w'=>∃v is far,e=.returned (.tuple #[v,.int .i64 (ZC (λm=> !is m) far K:Int)])/\XI l is K/\MF l K (λm=> !is m) far/\w'.ownsRow w.heap.size Tq 11 v K ((Yw l K (λm=> !is m) far (ZC (λm=> !is m) far)).flatMap Y5)/\Below w.heap.size w w'
theorem qH{N:Nat}{l:List Z9}{c:Nat}{ad:Option Addr}(h:Sx l L K)(w:World)(hm:kj N w ad l)(hN:N<=w.heap.size):
 Calls prog 59 #[.slice ad L c] w (yy l K w):=by
 have A:=aT h;have HS:=aT (vK l L K c ad h.len h.ins h.max h.fp h.ok w hm hN);have hK:=h.pos;clear h hm hN;go_enter func59,ntmps59;go_wp2_with fail;refine HS.mono ?_;rintro e w1 ⟨v,rfl,ho,hb⟩;obtain⟨g,c2,rfl,hg,_⟩:=World.ownsRow.form ho jO;obtain⟨q,y,hl,hy,C⟩:=A.last;have hmx:=A.max;have HR:=aT (Dx A.ins jO A.fp A.ok hl hy C w1 ho hb.size hg);have T:=aT hb;clear HS ho hb;go_wp2_with fail;refine HR.mono ?_;rintro e w2 ⟨rfl,is,I,ho,hb⟩;have Y:=aO T.size hb.size;have J:=aT (AP (ZU:=λm=> !is m) (qL:=λ_=>false) A.ins jO A.fp A.ok hl hy C (λ_ _ _ h=>by cases h) w2 (λ_=>0) ho (by have:=hb.size;have:=T.size;omega) hg)
 have Z:=aT (T.trans hb);have HRT:=aT I;clear HR ho hb I T hl hy C Y;go_wp2_with fail;refine J.mono ?_;rintro e w3 ⟨far,rfl,D,ho,hb⟩;have U:=aT (And.intro D (And.intro ho (Z.trans hb)));clear D ho hb J;go_wp2_with fail;go_ret2;exact⟨_,is,far,rfl,HRT,U.1,U.2.1,U.2.2⟩
theorem Ie{p:Nat}(s:Sy)(hp:p+1<=s.at_)(hs:s.at_<=4000000)(w:World):Calls prog 60 #[.int .i64 p,.agg #[.int .i64 s.i.mark,.int .u16 s.i.code,.int .u32 s.i.k,.int .i64 s.i.t,.int .i64 s.i.f,.int .i64 s.kind,.int .i64 s.yes,.int .i64 s.no,.bool s.far,.int .i64 s.at_,.bool s.ZU]] w λe w'=>e=.returned (.agg #[.int .u16 5,.int .u8 0,.int .u8 0,.int .u32 ((s.at_-p-1:Nat):Int)])/\Below w.heap.size w w':=by
 obtain⟨⟨I,xc,C,T,J⟩,k,y,n,fr,a,u⟩:=s;dsimp only at hp hs ⊢;have hB:=Z7.new w Tq #[.int .i64 I,.int .u16 xc,.int .u32 C,.int .i64 T,.int .i64 J,.int .i64 k,.int .i64 y,.int .i64 n,.bool fr,.int .i64 a,.bool u];have c9:=hB.e9;have w1:IntKind.i64.wrap ((a:Int)-(p:Int))=(a:Int)-(p:Int):=aJ _ jO;have w2:IntKind.i64.wrap ((a:Int)-(p:Int)-1)=((a-p-1:Nat):Int):=by rw[aJ _ jO];omega
 have w3:IntKind.u32.wrap ((a-p-1:Nat):Int)=((a-p-1:Nat):Int):=axa _ jO;generalize a-p-1=D at*;have HB:=aT (λ(A o2:Obj)=>((aH w.heap.size w).alloc (aR _) A).alloc (by rw[ah];omega) o2);have Y:Hid (∀A cs,Z7 ((w.alloc A).alloc (.cells cs 166)) (w.heap.size+1) 166 cs):=λA cs=>by have:=Z7.new (w.alloc A) 166 cs;rwa [ah] at this
 go_enter func60,ntmps60;go_wp2_with fail;have hq:=Y (.cells #[.int .i64 I,.int .u16 xc,.int .u32 C,.int .i64 T,.int .i64 J,.int .i64 k,.int .i64 y,.int .i64 n,.bool fr,.int .i64 a,.bool u] Tq) #[.int .u16 5,.int .u8 0,.int .u8 0,.int .u32 D];obtain⟨U,Z,q2,q3⟩:=hq.q4;refine aag (v:=.agg #[.int .u16 5,.int .u8 0,.int .u8 0,.int .u32 D]) ?_ rfl ⟨rfl,HB _ _⟩;simp[results,Tryz.f60,go_sem,U,Z,q2,q3]
end Go.Proofs.YtclgigmgbebhgaaGreatDoor
namespace Go.Proofs.YtclgigmgbebhgaaGreatDoor
open Tryz
open Go Go.Proofs
variable {a m:Nat}
def Sh(x:Z9):Prop:=(x.mark≠0->x=Zr x.mark)/\(x.mark=0->codeOk x.code/\(x.t≠0->YV x.code=true\/x.code=0x05)/\(x.f≠0->YV x.code=true)/\(x.code=0x20->x.k%4=0/\x.k<64)/\x.k<4294967296)
def ZQ(l:List Z9):Prop:=∀x∈l,Sh x
theorem yx{m:Int}(h:m≠0):Sh (Zr m):=⟨λ_=>rfl,λe=>absurd e h⟩
theorem Sw{c k:Nat}{t f:Int}(hb:YV c=true)(hk:k<4294967296):Sh (ins c k t f):=
 ⟨λh=>absurd rfl h,λ_=>⟨Ij (.inr (.inr (.inr (.inr hb)))),λ_=>.inl hb,λ_=>hb,λe=>absurd e (Ps hb).1,hk⟩⟩
theorem N7{k:Nat}(A:k%4=0)(hk:k<64):Sh (ins 0x20 k 0 0):=
 ⟨λh=>absurd rfl h,λ_=>⟨.inl rfl,λh=>absurd rfl h,λh=>absurd rfl h,λ_=>⟨A,hk⟩,by show k<_;omega⟩⟩
theorem qG{k:Nat}(hk:k<4294967296):Sh (ins 0x54 k 0 0):=
 ⟨λh=>absurd rfl h,λ_=>⟨.inr (.inl rfl),λh=>absurd rfl h,λh=>absurd rfl h,λh=>absurd (show(0x54:Nat)=0x20 from h) jD,hk⟩⟩
theorem Lk(t:Int):Sh (ins 0x05 0 t 0):=
 ⟨λh=>absurd rfl h,λ_=>⟨.inr (.inr (.inl rfl)),λ_=>.inr rfl,λh=>absurd rfl h,λh=>absurd (show(0x05:Nat)=0x20 from h) jD,by show 0<_;omega⟩⟩
theorem aU{k:Nat}(hk:k<4294967296):Sh (ins 0x06 k 0 0):=
 ⟨λh=>absurd rfl h,λ_=>⟨.inr (.inr (.inr (.inl rfl))),λh=>absurd rfl h,λh=>absurd rfl h,λh=>absurd (show(0x06:Nat)=0x20 from h) jD,hk⟩⟩
theorem ZQ.app{a b:List Z9}(ha:ZQ a)(hb:ZQ b):ZQ (a++b):=λx hx=>(abe.1 hx).elim (ha x) (hb x)
theorem ZQ.one{x:Z9}(h:Sh x):ZQ [x]:=λy hy=>by
 rcases aac.1 hy with rfl;exact h
theorem ZQ.two{x y:Z9}(h:Sh x)(A:Sh y):ZQ [x,y]:=ZQ.app (ZQ.one h) (ZQ.one A)
theorem ZQ.three{x y z:Z9}(h:Sh x)(A:Sh y)(C:Sh z):ZQ [x,y,z]:=ZQ.app (ZQ.one h) (ZQ.two A C)
theorem ZQ.nil:ZQ []:=λx hx=>by cases hx
theorem ZQ.if_{b:Bool}{l:List Z9}(h:ZQ l):ZQ (if b=true then l else []):=by
 cases b;·exact ZQ.nil
 ·exact h
theorem fl{v:Nat}(h:v<Yf):hi v<4294967296:=by
 unfold hi;unfold Yf at h;omega
theorem fj(v:Nat):lo v<4294967296:=awa _ jD
theorem aa0 (h:a<=5):Yp a%4=0/\Yp a<64:=by unfold Yp;omega
theorem jV (h:a<=5):Y4 a%4=0/\Y4 a<64:=by unfold Y4;omega
theorem jQ{c:Z5}{wide:Bool}{yes no:Int}(h:c.nf):ZQ (XF c wide yes no):=by
 obtain⟨ha,_,_,hm,hv⟩:=h;have L:=aa0 ha;have H:=jV ha;have T:=N7 L.1 L.2;have D:=N7 H.1 H.2;have e:=λ(t f:Int) (k:Nat) (hk:k<4294967296)=>Sw (c:=0x15) (t:=t) (f:=f) rfl hk
 have g:=λ(t f:Int) (k:Nat) (hk:k<4294967296)=>Sw (c:=0x25) (t:=t) (f:=f) rfl hk
 have q:=λ(t f:Int) (k:Nat) (hk:k<4294967296)=>Sw (c:=0x35) (t:=t) (f:=f) rfl hk
 have A:=fl hv;have C:=fj c.v;have J:=fl hm;have I:=fj c.m;have same:∀y n,ZQ (R2 (Y4 c.a) (Yp c.a) (hi c.v) (lo c.v) wide y n):=λy n=>(ZQ.if_ (ZQ.two D (e _ _ _ A))).app (ZQ.two T (e _ _ _ C))
 have least:∀y n,ZQ (Vu (Y4 c.a) (Yp c.a) (hi c.v) (lo c.v) wide y n):=λy n=>(ZQ.if_ (ZQ.three D (g _ _ _ A) (e _ _ _ A))).app (ZQ.two T (q _ _ _ C))
 unfold XF;split;·exact same _ _
 ·split;·exact same _ _
  ·split;·exact least _ _
   ·split;·exact least _ _
    ·exact(ZQ.if_ (ZQ.three D (qG J) (e _ _ _ A))).app (ZQ.three T (qG I) (e _ _ _ C))
theorem VM{g:G}{xs:List Z9}(h:ZQ g.l)(hx:ZQ xs):ZQ (g.put xs).l:=h.app hx
theorem QU{g:G} (hm:m≠0)(h:ZQ g.l):ZQ (g.here m).l:=h.app (ZQ.one (yx jO))
theorem qF(g:G)(c:Nat):(g.goes c).l=g.l:=by
 unfold G.goes;split<;>rfl
theorem N5{g:G}(c:Nat)(h:ZQ g.l):ZQ (g.goes c).l:=by rwa [qF]
theorem Dv(wide:Bool)(next:Nat):∀(cs:List Z5) (g:G),(∀c∈cs,c.nf)->ZQ g.l->ZQ (Zg wide next cs g).l
 |[],_,_,h=>h
 |c::cs,g,hc,h=>Dv wide next cs _ (λC A=>hc C (afd _ A)) (QU (aqg _) (VM (show ZQ g.mark.l from h) (jQ (hc c agf))))
theorem Du(wide:Bool)(ow:Nat):∀(rs:List Z3) (g:G),Pc rs->ZQ g.l->ZQ (XN wide ow rs g).l
 |[],_,_,h=>VM h (ZQ.one (Lk _))
 |(cs,code)::rs,g,hc,h=>Du wide ow rs _ (λr hr=>hc r (afd _ hr)) (QU (aqg _) (VM (N5 _ (Dv wide _ cs _ (hc _ agf).2 (show ZQ g.mark.l from h))) (ZQ.one (Lk _))))
theorem QT(ow:Nat):∀(k:Nat) (l:List (Nat×Nat)) (g:G),l.length<=k->(∀p∈l,p.1<4294967296)->ZQ g.l->ZQ (ZH ow l g).l
 |_,[],g,_,_,h=>by rw[XE];exact VM h (ZQ.one (Lk _))
 |_,[(a,m)],g,_,hb,h=>by rw[XD];exact VM h (ZQ.one (Sw rfl (hb _ agf)))
 |0,x::y::r,g,hk,_,_=>by simp at hk
 |k+1,x::y::r,g,hk,hb,h=>by have hlen:(x::y::r).length=r.length+2:=rfl;rw[XZ ow (x::y::r) jS g];refine QT ow k _ _ (by rw[ahg];omega) (λp hp=>hb p (apd hp)) (QU (aqg _) (QT ow k _ _ (by rw[abg];omega) (λp hp=>hb p (alc hp)) (VM (show ZQ g.mark.l from h) (ZQ.one (Sw rfl ?_)))));rw[afg,aM jO];exact hb _ (List.getElem_mem _)
theorem Ic:∀(l:List (Nat×Nat)) (g:G),(Zx l g).l=g.l
 |[],_=>rfl
 |p::r,g=>(Ic r _).trans (qF g p.2)
theorem jP(ow:Nat)(l:List (Nat×Nat))(g:G)(hl:∀p∈l,p.1<4294967296)(h:ZQ g.l):ZQ (WK ow l g).l:=by
 unfold WK;refine QT ow _ _ _ (aR _) (λp hp=> ?_) ?_;·obtain⟨q,A,rfl⟩:=ai.1 hp;exact hl q A
 ·rw[Ic];exact VM h (ZQ.one (N7 jD jD))
def qE:ZM->Prop
 | .rules _ rs=>Pc rs
 | .subs l=>∀p∈l,p.1<4294967296/\p.2<4294967296
def Ul(ps:List (Nat×ZM)):Prop:=∀p∈ps,p.1<4294967296/\qE p.2
theorem jN(ow:Nat)(p:ZM)(g:G)(hp:qE p)(h:ZQ g.l):ZQ (VV ow p g).l:=by
 cases p with
 |rules wide rs=>exact Du wide ow rs g hp h
 |subs l=>exact jP ow l g (λp q=>(hp p q).1) h
theorem Kd(ow:Nat):∀(ps:List ZM) (m:Nat) (g:G),m≠0->(∀p∈ps,qE p)->ZQ g.l->ZQ (Yb ow ps m g).l
 |[],_,_,_,_,h=>h
 |p::ps,m,g,hm,hp,h=>Kd ow ps _ _ (aqg _) (λq A=>hp q (afd _ A)) (jN ow p _ (hp p agf) (QU hm h))
theorem TS{d:Nat}{ps:List (Nat×ZM)}{g:G}(hp:Ul ps)(h:ZQ g.l):ZQ (Za d ps g).l:=by
 unfold Za;refine Kd _ _ _ _ (aqg _) (λp q=> ?_) (QT _ _ _ _ (aR _) (λp q=> ?_) (N5 d h));·obtain⟨x,hx,rfl⟩:=ai.1 q;exact(hp x hx).2
 ·obtain⟨_,x,hx,e⟩:=Uh ps _ p q;rw[<-e];exact(hp x hx).1
theorem aa1{Vy:Bool}{d:Nat}{p0 p1:List (Nat×ZM)}{g:G}(C:Ul p0)(D:Ul p1)(h:ZQ g.l):ZQ (Uz Vy d p0 p1 g).l:=by
 unfold Uz;have A:ZQ ((g.goes d).put [ins 0x15 NONE (look (g.goes d).b d) 0]).l:=VM (N5 d h) (ZQ.one (Sw rfl jD));split;·exact TS C (VM (N5 _ A) (ZQ.one (Sw rfl jD)))
 ·exact TS D (QU (aqg _) (TS C (VM A (ZQ.one (Sw rfl jD)))))
theorem Gc {g:G}(hm:m≠0)(h:ZQ g.l):ZQ (Vr m g).l:=VM (QU hm h) (ZQ.one (N7 jD jD))
theorem jM:ZQ XL.l:=VM (N5 _ ((ZQ.one (N7 jD jD)).app ((ZQ.two (Sw rfl jD) (Sw rfl jD)).app (ZQ.two (Sw rfl jD) (Sw rfl jD))))) (ZQ.one (Lk _))
def YH.B(p:YH):Prop:=Ul p.p0/\Ul p.p1/\Ul p.p2/\Ul p.p3/\Ul p.p4
theorem ak6{p:YH}(h:p.B):ZQ (gD p).l:=by
 obtain⟨D,C,J,I,A⟩:=h;exact TS A (Gc jD (TS I (Gc jD (TS J (Gc jD (aa1 D C (Gc jD jM)))))))
theorem Ib(b:List (Nat×Nat)):∀cs:List Nat,(∀c∈cs,c<4294967296/\look b c≠0)->ZQ (Zw b cs)
 |[],_=>ZQ.nil
 |c::cs,h=>by have C:=h c agf;unfold Zw;rw[acd];exact(ZQ.two (yx (by have:=C.2;omega)) (aU C.1)).app (Ib b cs (λD A=>h D (afd _ A)))
theorem Kc{p:YH}{cs:List Nat}(hc:OM p cs)(t:Int):t∈marks (ZL p cs)↔1<=t/\t<=((gD p).n:Int):=by
 have D:=(Uf p).2.2.2.1;unfold ZL;rw[WS,abe,WI _ _ (λc h=>(hc.2 c).1 h),D.all t];constructor
 ·rintro(h|h);·exact .inl h
  ·obtain⟨c,A,C⟩:=ai.1 h;exact .inr (.inr ⟨c,(hc.2 c).1 A,C⟩)
 ·rintro(h|h|⟨c,A,C⟩);·exact .inl h
  ·exact absurd h id
  ·exact .inr (ai.2 ⟨c,(hc.2 c).2 A,C⟩)
theorem qD(l:List Z9):(marks l).length<=l.length:=by
 unfold marks;rw[aad];exact ate _ _
theorem Ia{α:Type}[BEq α][LawfulBEq α]:∀{l m:List α},l.Nodup->(∀x∈l,x∈m)->l.length<=m.length
 |[],_,_,_=>abc _
 |x::l,m,hn,hs=>by obtain⟨C,D⟩:=aye.1 hn;have hx:=hs x agf;have A:=Ia (m:=m.erase x) D (λy hy=>(List.mem_erase_of_ne (show y≠x from λe=>C (e▸hy))).2 (hs y (afd _ hy)));rw[List.length_erase_of_mem hx] at A;have:=List.length_pos_of_mem hx;rw[aj];omega
theorem aa2{p:YH}{cs:List Nat}(hc:OM p cs):(gD p).n<=(ZL p cs).length:=by
 have hs:((List.range (gD p).n).map λi=>((i:Nat):Int)+1) ⊆ marks (ZL p cs):=λt ht=>by obtain⟨i,hi,rfl⟩:=ai.1 ht;have:=aia.1 hi;exact(Kc hc _).2 jO
 have hn:((List.range (gD p).n).map λi=>((i:Nat):Int)+1).Nodup:=by unfold List.Nodup;rw[aeg];exact List.nodup_range.imp (λ{a b} A e=>A jO)
 have:=Ia hn (λx hx=>hs hx);rw[aad,afc] at this;exact aO this (qD _)
theorem Dt{p:YH}{cs:List Nat}(hc:OM p cs)(Z:p.B)(C:∀c∈cs,c<4294967296)(A:(ZL p cs).length<=1000000):Sx (ZL p cs) (ZL p cs).length (Z6 (ZL p cs)).length:=by
 refine⟨rfl,rfl,A,VE hc,λx hx=> ?_,?_⟩;·have hs:Sh x:=(abe.1 hx).elim (ak6 Z x) (Ib _ _ (λc q=>⟨C c q,(hc.2 c).1 q⟩) x);refine⟨λh=>⟨hs.1 h,?_⟩,hs.2⟩;have hm:x.mark∈marks (ZL p cs):=ai.2 ⟨x,aqa.2 ⟨hx,by simpa using h⟩,rfl⟩;have:=(Kc hc _).1 hm;have:=aa2 hc;omega
 ·have D:cs≠[]:=by
   rintro rfl;have hk:look (gD p).b Zo≠0:=by have I:=OO.2.2;obtain⟨_,_,_,_,U,J,T,Y⟩:=Uf p;have:=(((U.trans J).trans T).trans Y).b _ I;rw[this];exact I
   have:=(hc.2 Zo).2 hk;cases this
  obtain⟨q,c,rfl⟩:∃q c,cs=q++[c]:=⟨_,_,(ape D).symm⟩;refine⟨(gD p).l++(Zw (gD p).b q++[Zr (look (gD p).b c)]),ins 0x06 c 0 0,?_,rfl,rfl⟩;unfold ZL Zw;rw[acb,acd,asg];simp
end Go.Proofs.YtclgigmgbebhgaaGreatDoor
namespace Go.Proofs.YtclgigmgbebhgaaGreatDoor
open Tryz
open Go Go.Proofs Go.RowKit
theorem Ds{t:ByteArray}{r:Z4.Z2}:Z4.RI t r=true↔r.name=t:=by
 unfold Z4.RI;rw[ahd];constructor;·intro e;rw[aga,aga] at e;exact ByteArray.ext (Array.toList_inj.1 e)
 ·rintro rfl;rfl
theorem ME(p:Z4.Z2->Bool):∀l:List Z4.Z2,0<=Z4.firstIdx p l->∃i:Nat,i<l.length/\Z4.firstIdx p l=(i:Int)/\p l[i]! =true
 |[],h=>by simp[Z4.firstIdx] at h
 |x::r,h=>by
  unfold Z4.firstIdx at h ⊢;by_cases hp:p x=true;·exact⟨0,jS,by rw[aG hp];rfl,by simpa using hp⟩
  ·rw[aN hp] at h ⊢;by_cases A:Z4.firstIdx p r<0;·rw[aG A] at h;omega
   ·rw[aN A] at h ⊢;obtain⟨i,I,C,D⟩:=ME p r jO;exact⟨i+1,by simp;omega,by rw[C];rfl,by simpa using D⟩
theorem Kb{l:List Z4.Z2}{nm:ByteArray}(h:0<=Z4.firstIdx (Z4.RI nm) l):∃i,i<l.length/\YO l nm=l[i]! /\(l[i]!).name=nm:=by
 obtain⟨i,A,D,C⟩:=ME _ _ h;refine⟨i,A,?_,Ds.1 C⟩;unfold YO;rw[aN jO,D];simp
theorem AL{l:List Z4.Z2}{i:Nat}(hi:i<l.length):0<=Z4.firstIdx (Z4.RI (l[i]!).name) l:=by
 rcases Z4.least (λj=>Z4.RI (l[i]!).name l[j]!) l.length with h|⟨k,hk,A,C⟩;·have:=h i hi;rw[Ds.2 rfl] at this;cases this
 ·rw[Z4.Tv _ l k hk C A];omega
theorem vI{l:List Z4.Z2}(A:Z4.Zt l){i j:Nat}(hi:i<l.length)(C:j<l.length)(e:(l[i]!).name=(l[j]!).name):i=j:=by
 rcases Nat.lt_trichotomy i j with h|h|h;·have:=Z4.kQ A h C;rw[e,Z4.Nn] at this;cases this
 ·exact h
 ·have:=Z4.kQ A h hi;rw[e,Z4.Nn] at this;cases this
theorem qB{l:List Z4.Z2}(C:Z4.Zt l){i:Nat}(hi:i<l.length):YO l (l[i]!).name=l[i]! :=by
 obtain⟨j,A,D,I⟩:=Kb (AL hi);rw[D,vI C A hi I]
theorem Ka{l:List Z4.Z2}(D:Z4.Zt l){i j:Nat}(hi:i<l.length)(I:j<l.length)(C:i≠j):(∀a,a<5->0<=(l[i]!).num a->(l[i]!).num a≠(l[j]!).num a)/\(0<(l[i]!).Yv->(l[i]!).Yv=(l[j]!).Yv->(l[i]!).sub≠(l[j]!).sub):=by
 rcases aza C with h|h;·have:=(Z4.fV (D j I)).2.2.2.2 i h;refine⟨λa ha A e=>this (.inl ⟨a,ha,by rw[<-e];exact A,e⟩),λA e1 e2=>this (.inr ⟨by rw[<-e1];exact A,e1,e2⟩)⟩
 ·have:=(Z4.fV (D i hi)).2.2.2.2 j h;exact⟨λa ha A e=>this (.inl ⟨a,ha,A,e.symm⟩),λA e1 e2=>this (.inr ⟨A,e1.symm,e2.symm⟩)⟩
def MD(l:List Z4.Z2)(dn:List (ByteArray×List Z3)):Prop:=∀g∈dn,0<=Z4.firstIdx (Z4.RI g.1) l
section
variable {l:List Z4.Z2} {dn:List (ByteArray×List Z3)} {x:Bool} {d a m:Nat}
theorem MC(T:Z4.Zt l)(A:MD l dn){g g':ByteArray×List Z3}(J:g∈dn)(C:g'∈dn)(D:g.1≠g'.1):(∀a,a<5->0<=(YO l g.1).num a->(YO l g.1).num a≠(YO l g'.1).num a)/\(0<(YO l g.1).Yv->(YO l g.1).Yv=(YO l g'.1).Yv->(YO l g.1).sub≠(YO l g'.1).sub):=by
 obtain⟨i,hi,e1,e2⟩:=Kb (A g J);obtain⟨j,I,e3,e4⟩:=Kb (A g' C);rw[e1,e3];exact Ka T hi I (λe=>D (by rw[<-e2,<-e4,e]))
theorem UC{num:Nat->Int}{rs:List Z3}{e:Xo}:e∈Y6 x d num rs a↔0<=num a/\(a=1->x=true)/\Yu a d rs≠[]/\e=(whole a (num a).toNat,Yu a d rs):=by
 unfold Y6;constructor
 ·intro h;split at h
  ·cases h
  ·rename_i D;split at h
   ·cases h
   ·rename_i A;split at h
    ·cases h
    ·rename_i C;refine⟨jO,λha=> ?_,C,aac.1 h⟩;cases x with
     |true=>rfl
     |false=>exact absurd ⟨ha,rfl⟩ A
 ·rintro⟨D,A,C,rfl⟩;rw[aN jO,aN (λh=>by rw[A h.1] at h;exact absurd h.2 jD),aN C];exact aac.2 rfl
theorem V4{e:Xo}:e∈Xx x d l dn a↔∃g∈dn,0<=(YO l g.1).num a/\(a=1->x=true)/\Yu a d g.2≠[]/\e=(whole a ((YO l g.1).num a).toNat,Yu a d g.2):=by
 unfold Xx;rw[aqf];exact⟨λ⟨g,A,h⟩=>⟨g,A,UC.1 h⟩,λ⟨g,A,h⟩=>⟨g,A,UC.2 h⟩⟩
theorem Rp{Yv sub:Int}{rs:List Z3}{e:Nat×Nat}(h:e∈X5 Yv sub rs m):Yv=(m:Int)+1/\e=(sub.toNat,(rs[0]?.map (·.2)).getD 0):=by
 unfold X5 at h;split at h;·rename_i A;exact⟨A,aac.1 h⟩
 ·cases h
theorem J9(hn:(dn.map (·.1)).Nodup):dn.Pairwise (λg g'=>g.1≠g'.1):=aeg.1 hn
theorem AK{α:Type}{R S:α->α->Prop}:∀{l:List α},l.Pairwise R->(∀x∈l,∀y∈l,R x y->S x y)->l.Pairwise S
 |[],_,_=>List.Pairwise.nil
 |x::l,h,hs=>by obtain⟨A,C⟩:=aha.1 h;exact aha.2 ⟨λy hy=>hs x jS y (by simp[hy]) (A y hy),AK C (λu hu v hv=>hs u (by simp[hu]) v (by simp[hv]))⟩
theorem vH(Y:Z4.Zt l)(C:MD l dn)(hn:(dn.map (·.1)).Nodup)(ha:a<5):(Xx x d l dn a).Pairwise (λe J=>e.1≠J.1):=by
 unfold Xx;rw[List.pairwise_flatMap];refine⟨λg _=> ?_,AK (J9 hn) (λg T g' D I e Z J A h=> ?_)⟩
 ·unfold Y6;split;·exact List.Pairwise.nil
  ·split;·exact List.Pairwise.nil
   ·split;·exact List.Pairwise.nil
    ·exact apg _ _
 ·obtain⟨U,_,_,rfl⟩:=UC.1 Z;obtain⟨h0',_,_,rfl⟩:=UC.1 A;have:=(MC Y C T D I).1 a ha U;have h2:=IC h;omega
theorem H9(D:Z4.Zt l)(C:MD l dn)(hn:(dn.map (·.1)).Nodup):(WR l dn m).Pairwise (λe T=>e.1≠T.1):=by
 unfold WR;rw[List.pairwise_flatMap];refine⟨λg _=> ?_,AK (J9 hn) (λg U g' I J e Y T A h=> ?_)⟩
 ·unfold X5;split;·exact apg _ _
  ·exact List.Pairwise.nil
 ·obtain⟨h0,rfl⟩:=Rp Y;obtain⟨Z,rfl⟩:=Rp A;have h3:=(MC D C U I J).2 jO jO;have h4:=(QX D g.1).2.2.2.1;have h5:=(QX D g'.1).2.2.2.1;have h:(YO l g.1).sub.toNat=(YO l g'.1).sub.toNat:=h;omega
theorem Dr{es es':List (Nat×Nat)}(hp:es.Perm es')(C:es'.Pairwise (λe A=>e.1≠A.1))(hs:es.Pairwise (λe A=>e.1<=A.1)):es.Pairwise (λe A=>e.1<A.1):=by
 have D:es.Pairwise (λe A=>e.1≠A.1):=hp.symm.pairwise C (λh e=>h e.symm);exact hs.imp₂ (λ{u v} I J=>jO) D
def gsT(l:List Z4.Z2)(dn:List (ByteArray×List Z3)):List O8:=dn.map λg=>⟨(YO l g.1).num,g.2⟩
theorem Gb{es:List Xo}{s0 s1:List (Nat×Nat)}{q:Nat×ZM}:q∈ZZ a es s0 s1↔(∃e∈es,q=VD a e)\/(a=2/\(q=(102,.subs s0)\/q=(117,.subs s1))):=by
 unfold ZZ;rw[abe,ai];constructor
 ·rintro(⟨e,A,rfl⟩|h);·exact .inl ⟨e,A,rfl⟩
  ·split at h;·rename_i C;simp at h;exact .inr ⟨C,h⟩
   ·cases h
 ·rintro(⟨e,A,rfl⟩|⟨A,C⟩);·exact .inl ⟨e,A,rfl⟩
  ·rw[aG A];exact .inr (by simpa using C)
theorem qA{es:List Xo}{s0 s1:List (Nat×Nat)}{ps:List (Nat×ZM)}(A:es.Perm (Xx x d l dn a))(D:ps.Perm (ZZ a es s0 s1))(hs:ps.Pairwise (λp q=>p.1<q.1))(hr:∀g∈dn,Us g.2)(Y:SE s0)(U:SE s1):UG x d (gsT l dn) s0 s1 a ps:=by
 refine⟨⟨hs,λp hp=> ?_⟩,λq=> ?_⟩
 ·rcases Gb.1 (D.mem_iff.1 hp) with⟨e,T,rfl⟩|⟨_,rfl|rfl⟩;·obtain⟨g,C,_,_,_,rfl⟩:=V4.1 (A.mem_iff.1 T);exact(KA (hr g C)).1
  ·exact Y
  ·exact U
 ·rw[D.mem_iff,Gb];constructor
  ·rintro(⟨e,T,rfl⟩|h);·obtain⟨g,C,I,J,q2,rfl⟩:=V4.1 (A.mem_iff.1 T);exact .inl ⟨⟨(YO l g.1).num,g.2⟩,ai.2 ⟨g,C,rfl⟩,I,J,q2,rfl⟩
   ·exact .inr h
  ·rintro(⟨G,Z,I,J,q2,rfl⟩|h);·obtain⟨g,C,rfl⟩:=ai.1 Z;exact .inl ⟨_,A.mem_iff.2 (V4.2 ⟨g,C,I,J,q2,rfl⟩),rfl⟩
   ·exact .inr h
theorem aa3(hT:Z4.Zt l)(Y:MD l dn)(hn:(dn.map (·.1)).Nodup)(ha:a<5){i:Nat}(hi:i<l.length)(h0:0<=(l[i]!).num a):fG (gsT l dn) a ((l[i]!).num a).toNat (((dn.find? (λg=>decide (g.1=(l[i]!).name))).map (·.2)).getD []):=by
 have I:∀g∈dn,(YO l g.1).num a=(l[i]!).num a->g.1=(l[i]!).name:=λg A e=>by
  obtain⟨j,hj,e1,e2⟩:=Kb (Y g A);by_cases T:i=j;·rw[T,e2]
  ·exact absurd (e1▸e).symm ((Ka hT hi hj T).1 a ha h0)
 have hz:(((l[i]!).num a).toNat:Int)=(l[i]!).num a:=jO;cases hf:dn.find? (λg=>decide (g.1=(l[i]!).name)) with
 |none=>
  refine .inr ⟨rfl,λG U e=> ?_⟩;obtain⟨g,A,rfl⟩:=ai.1 U;rw[hz] at e;have:=(ayg.1 hf) g A;exact this (by simpa using I g A e)
 |some g=>
  have A:=List.mem_of_find?_eq_some hf;have J:g.1=(l[i]!).name:=by simpa using List.find?_some hf
  refine .inl ⟨⟨(YO l g.1).num,g.2⟩,ai.2 ⟨g,A,rfl⟩,?_,rfl,λG U e=> ?_⟩;·show(YO l g.1).num a=_;rw[hz,J,qB hT hi]
  ·obtain⟨g',D,rfl⟩:=ai.1 U;rw[hz] at e;have e2:g'.1=g.1:=(I g' D e).trans J.symm
   have:g'=g:=Classical.byContradiction λZ=>by
    rcases List.getElem_of_mem A with⟨p,hp,rfl⟩;rcases List.getElem_of_mem D with⟨q,hq,rfl⟩;have C:=J9 hn;rw[amb] at C;rcases Nat.lt_trichotomy p q with h|h|h;·exact C p q hp hq h e2.symm
    ·subst h;exact Z rfl
    ·exact C q p hq hp h e2
   rw[this]
end
def N3(w:Nat->Nat)(x:Bool)(d a:Nat)(pr:List NR)(nm:ByteArray):Nat:=if a=1/\x=false then Zo else(Zy (Sq w (decide (a≠2))) ((ofName nm pr).map QW)).getD d
theorem jL{w:Nat->Nat}(hw:GJ w)(b:Bool)(a:Nat):Sq w b a<Yf:=by
 unfold Sq Yf;have A:=hw (Y4 a);have C:=hw (Yp a);split<;>omega
theorem vG{l:List Z4.Z2}{dn:List (ByteArray×List Z3)}{pr:List NR}{p:YH}{s0 s1:List (Nat×Nat)}(A:Z4.Zt l)(C:MD l dn)(hd:DnF pr p.d dn)(J:Rz p (gsT l dn) s0 s1){w:Nat->Nat}(hw:GJ w){a i:Nat}(ha:a<5)(hi:i<l.length)(D:0<=(l[i]!).num a)(I:w 4=XJ a)(hn:w 0=whole a ((l[i]!).num a).toNat):
 Ev w p=N3 w p.Vy p.d a pr (l[i]!).name:=by
 have hr:=(Z4.fV (A i hi)).2.2.1.1 a ha;unfold Z4.Oo at hr;rw[qZ hw J ha (show((l[i]!).num a).toNat<V1 by unfold V1;omega) (λe=> ?_) (aa3 A C hd.nodup ha hi D) I hn]
 ·unfold bG N3;by_cases hx:a=1/\p.Vy=false;·rw[aG hx,aG hx]
  ·rw[aN hx,aN hx];exact hd.rE _ (λb=>jL hw _ b) _
 ·subst e;have hm:=(Z4.fV (A i hi)).2.2.2.1;unfold Z4.PG at hm;have e2:(l[i]!).num 2=(l[i]!).n2:=rfl;rw[e2] at D ⊢;constructor;·intro e;exact hm (.inl jO)
  ·intro e;exact hm (.inr jO)
end Go.Proofs.YtclgigmgbebhgaaGreatDoor
namespace Go.Proofs.YtclgigmgbebhgaaGreatDoor
open Tryz
open Go Go.Proofs Go.RowKit Go.Shelf
theorem jJ(x:Int)(C:0<=x)(A:x<=18446744073709551615)(w:World):Calls prog 97 #[.int .u64 x] w λe w'=>e=.returned (.int .i64 (Lib.bitLen x.toNat))/\w'=w:=
 calls_of_every_depth λD=>AnySM.bits_LenIn {Tryz.sortInt with} D x w C A
end Go.Proofs.YtclgigmgbebhgaaGreatDoor
