/- TopAsks: part 13: TopRes11 TopRes12 TopRes13 TopRowP TopPl1. -/
import Derived.Deep.MidRow
import Derived.Test.YtclgigmgbebhgaaGreatDoorA11
import Derived.Test.YtclgigmgbebhgaaGreatDoorA12
set_option linter.unusedVariables false
set_option linter.unusedSimpArgs false
set_option maxRecDepth 100000
set_option maxHeartbeats 16000000
namespace Go.Proofs.YtclgigmgbebhgaaGreatDoor
open Tryz
open Go Go.Proofs Go.RowKit
@[go_sem] abbrev rO:Oper:=⟨some 39,.load 73 (.tmp 38),73,"resolve.go:134",#[⟨3,.data⟩],none⟩
@[go_sem] abbrev gJ:Oper:=⟨some 43,.call {callee:=.value (.func 40),args:=#[.tmp 40,.tmp 42],argTypes:=#[3,53]},53,"resolve.go:134",#[⟨5,.data⟩,⟨7,.data⟩],none⟩
@[go_sem] abbrev gI:Oper:=⟨some 45,.build 119 #[(0,.tmp 43),(1,.tmp 44)],119,"resolve.go:134",#[⟨8,.data⟩,⟨9,.data⟩],none⟩
@[go_sem] abbrev rN:Oper:=⟨some 46,.buildSlice 73 1 #[(0,.tmp 45)],73,"resolve.go:134",#[⟨10,.data⟩],none⟩
@[go_sem] abbrev gH:Oper:=⟨some 62,.load 75 (.tmp 61),75,"resolve.go:138",#[⟨7,.data⟩],none⟩
@[go_sem] abbrev gG:Oper:=⟨some 71,.buildSlice 75 1 #[(0,.tmp 70)],75,"resolve.go:138",#[⟨16,.data⟩],none⟩
def Y7(x:Bool)(d:Nat)(num:Nat->Int)(rs:List Z3)(a:Nat):List Xp:=
 if num a<0 then [] else if a=1/\x=false then [] else if Yt a d rs=[] then [] else [(whole a (num a).toNat,Yt a d rs)]
def Nn(x:Bool)(d:Nat)(num:Nat->Int)(rs:List Z3)(E:Nat->List Xp)(i:Nat):Nat->List Xp:=λb=>if b<i then E b++Y7 x d num rs b else E b
def X6(Ys sub:Int)(rs:List Z3)(m:Nat):List (Nat×Nat):=if Ys=(m:Int)+1 then [(sub.toNat,(rs[0]?.map (·.2)).getD 0)] else []
section
variable {lo P:Nat} {W W':World} {d:Nat} {x:Bool} {ve vs:Nat->Value} {E E':Nat->List Xp} {S S':Nat->List (Nat×Nat)}
theorem Yy.congr(h:Yy lo P W d x ve vs E S)(A:∀a,a<5->E a=E' a)(hS:∀m,m<2->S m=S' m):Yy lo P W d x ve vs E' S':=
 ⟨h.blk,h.lw,λa ha=>by rw[<-A a ha];exact h.O8 a ha,λm hm=>by rw[<-hS m hm];exact h.subs m hm,h.mZ,h.mY⟩
theorem Nl{num:Nat->Int}{rs:List Z3}{i:Nat}(A:Y7 x d num rs i=[]):∀a,a<5->Nn x d num rs E i a=Nn x d num rs E (i+1) a:=λa _=>by
 unfold Nn;by_cases h:a<i;·rw[aH h,aH jO]
 ·rw[aN h];by_cases e:a=i;·subst e;rw[aH jO,A,ade]
  ·rw[aN jO]
theorem rM{num:Nat->Int}{rs:List Z3}{i:Nat}{t:Xp}(A:Y7 x d num rs i=[t]):∀a,a<5->Oq (Nn x d num rs E i) i (Nn x d num rs E i i++[t]) a=Nn x d num rs E (i+1) a:=λa _=>by
 by_cases e:a=i;·subst e;rw[XU];unfold Nn;rw[aN jO,aH jO,A]
 ·rw[X9 _ _ e];unfold Nn;by_cases h:a<i;·rw[aH h,aH jO]
  ·rw[aN h,aN jO]
end
def cM(lo P:Nat)(d:Nat)(x:Bool)(E:Nat->List Xp)(S:Nat->List (Nat×Nat))(w w':World):Prop:=∃ve' vs',Yy lo P w' d x ve' vs' E S/\Kept lo P w w'
theorem wH{a:Nat}{z:Int}(h:0<=z):KJ (a:Int) z=((whole a z.toNat:Nat):Int):=by
 unfold KJ whole;by_cases e:a=1;·rw[aH jO,aH e];unfold Wj;omega
 ·rw[aN jO,aN e];omega
theorem kR(y:Z4.Z0){a:Nat}(ha:a<5):(#[Value.string y.name,.int .i64 y.n0,.int .i64 y.n1,.int .i64 y.n2,.int .i64 y.n3,.int .i64 y.n4,.int .i64 y.Ys,.int .i64 y.sub]:Array Value)[1+a]? =some (.int .i64 (y.num a)):=by
 rcases (show a=0\/a=1\/a=2\/a=3\/a=4 from jO) with rfl|rfl|rfl|rfl|rfl<;>rfl
theorem rL{lo PN PL L:Nat}{ra:Option Addr}{rc:Nat}{rs:List Z3}{us:List Value}{k n:Int}{x:Bool}{nv:Value}{d:Nat}{ve vs:Nat->Value}{E:Nat->List Xp}{S:Nat->List (Nat×Nat)}(y:Z4.Z0)(hL:rs.length=L)(h1:1<=L)(XA:L<=1000)(hcs:∀r∈rs,r.1.length<=1000/\∀c∈r.1,c.m<YO/\c.v<YO)(hy:∀a,a<5->y.num a<1073741824)
 (CU:0<=y.Ys) (np:y.Ys<=2) (hs0:0<=y.sub) (hs1:y.sub<4294967296) (hE:∀a,a<5->(E a).length<=1000000) (hS:∀m,m<2->(S m).length<=1000000) (w:World) (hq:Yi lo w (.slice ra L rc) rs us) (hn:Z8 w PN V1 #[.int .i64 k,.int .i64 n,.bool x,nv]) (hp:Yy lo PL w d x ve vs E S):
 Calls prog 38 #[y.val,.slice ra L rc,.pointer (some ⟨PN,0,none⟩),.pointer (some ⟨PL,0,none⟩)] w λe w'=>e=.returned (.tuple #[])/\cM lo PL d x (λa=>E a++Y7 x d y.num rs a) (λm=>S m++X6 y.Ys y.sub rs m) w w':=by
 have hb1:=Yk w (.cells #[.string y.name,.int .i64 y.n0,.int .i64 y.n1,.int .i64 y.n2,.int .i64 y.n3,.int .i64 y.n4,.int .i64 y.Ys,.int .i64 y.sub] 40);have HR:=aT (Z8.new w 40 #[.string y.name,.int .i64 y.n0,.int .i64 y.n1,.int .i64 y.n2,.int .i64 y.n3,.int .i64 y.n4,.int .i64 y.Ys,.int .i64 y.sub]);have HQ:=aT (hq.Zs hb1);have HN:=aT (hn.below hb1 hn.lt);have kQ:=aT (hp.Zs hb1);have HK0:=aT (Kept.Nq (P:=PL) hp.lt hb1);have Nk:lo<=w.heap.size:=hp.lt;have HL:=aT hL;have HC:=aT hcs;have HY:=aT hy;have HEl:=aT hE;have HSl:=aT hS;clear hq hn hp hb1 hL hcs hy hE hS;unfold Z4.Z0.val;go_enter func38,ntmps38;go_upto_region 2 with fail;generalize w.alloc (.cells #[.string y.name,.int .i64 y.n0,.int .i64 y.n1,.int .i64 y.n2,.int .i64 y.n3,.int .i64 y.n4,.int .i64 y.Ys,.int .i64 y.sub] 40)=w1 at*;obtain⟨PR,hPR⟩:=jX w.heap.size;rw[hPR] at HR ⊢;clear hPR;go_loopg [9] 6 (λgg iv wr=>∃(i:Nat) (I:Nat->Value),i<=5/\5-i<gg/\iv=.int .i64 (i:Int)/\Hid (Yy lo PL wr d x I vs (Nn x d y.num rs E i) S)/\Hid (Kept lo PL w1 wr));case atStart=>exact⟨0,ve,jO,jO,rfl,kQ.out.congr (λa _=>by unfold Nn;rw[aN jO]) (λ_ _=>rfl),Kept.refl _ _ _⟩
 case round=>
  obtain⟨i,I,hi5,VM,rfl,HP,HK⟩:=hrel;have Cq:=jZ i;have JS:=jW i;by_cases hlt:i<5
  ·have Zc:(i:Int)<5:=by omega
   have hRw:=HK.out.keep _ _ _ HR.out jD jD jD;have pr:=hRw.cell (1+i);rw[kR y hlt] at pr;have pn:=(HK.out.keep _ _ _ HN.out jD jD jD).e2;have hyz:=HY.out i hlt;obtain⟨z,hz⟩:=jX (y.num i);rw[hz] at pr hyz;have HZ:=aT hz;clear hz hRw;by_cases af9:z<0
   ·have cK:Hid (Y7 x d y.num rs i=[]):=by
     show _=_;unfold Y7;rw[aH (by rw[HZ.out];exact af9)]
    have Z:=aT (HP.out.congr (Nl cK.out) (λ_ _=>rfl));go_wp2_with fail;go_roundg (5-i);case measure=>omega
    case rel=>exact⟨i+1,I,jO,jO,by go_num,Z,HK⟩
   ·have hz0:0<=z:=by omega
    by_cases hx:i=1/\x=false
    ·have cK:Hid (Y7 x d y.num rs i=[]):=by
      show _=_;unfold Y7;rw[HZ.out,aN af9,aH hx]
     have Z:=aT (HP.out.congr (Nl cK.out) (λ_ _=>rfl));have tI:((i:Int) == 1)=true:=by rw[ahc];omega
     rw[hx.2] at pn;clear hx;go_wp2_with fail;go_roundg (5-i);case measure=>omega
     case rel=>exact⟨i+1,I,jO,jO,by go_num,Z,HK⟩
    ·have HX:=aT hx;clear hx;go_upto_region 5 with fail;go_cut [26] from 10 to 50 (λs wx=>s=.bool false/\wr=wx)
     case first=>
      by_cases hi:i=1
      ·have tI:((i:Int) == 1)=true:=by rw[ahc];omega
       have gF:x=true:=by cases x with|true=>rfl|false=>exact absurd ⟨hi,rfl⟩ HX.out
       rw[gF] at pn;clear gF hi;go_wp2_with fail;go_meet;exact⟨rfl,rfl⟩
      ·have tI:((i:Int) == 1)=false:=by rw[af];omega
       clear hi;go_wp2_with fail;go_meet;exact⟨rfl,rfl⟩
     case rest=>
      obtain⟨rfl,rfl⟩:=hcut;clear pr pn;have HS:=aT (sD (a:=i) (d:=d) HL.out XA HC.out wr (HK.out.Ot HQ.out).rules (aP _));have c0:wr.cell? ⟨PL,0,none⟩=some (.int .u32 d):=HP.out.blk.cell 0;go_wp2_with fail;refine HS.out.mono ?_;rintro e w2 ⟨v,us2,rfl,U,hlen,hb⟩;have Z:=aT (HP.out.Zs hb);have kP:=aT (HK.out.trans (Kept.Nq (aO Nk (aO HK0.out.size HK.out.size)) hb));have gX:=aT (U.mono HP.out.lt);have HLn:=aT hlen;have HZ2:Hid (Y7 x d y.num rs i=if Yt i d rs=[] then [] else [(whole i z.toNat,Yt i d rs)]):=by show _=_;unfold Y7;rw[HZ.out,aN (show ¬z<0 from jO),aN HX.out]
      obtain⟨oa,oc,rfl⟩:=ZY U.row;obtain⟨own,hown⟩:∃o,Yt i d rs=o:=⟨_,rfl⟩;rw[hown] at HZ2 HLn gX ⊢;clear U hlen hb HS c0 hown HP HK;obtain⟨M,hM⟩:=jX own.length;rw[hM] at HLn gX ⊢;have HM:=aT hM;clear hM;by_cases h0:M=0
      ·have cK:Hid (Y7 x d y.num rs i=[]):=by
        show _=_;rw[HZ2.out,aH (alb.1 (HM.out.trans h0))]
       have GX:=aT (Z.out.congr (Nl cK.out) (λ_ _=>rfl));subst h0;go_wp2_with fail;go_roundg (5-i);case measure=>omega
       case rel=>exact⟨i+1,I,jO,jO,by go_num,GX,kP⟩
      ·have hM0:0<M:=by omega
       have mz:(0:Int)<(M:Int):=jO;have hM2:decide (0<M)=true:=ace hM0;have hM3:decide ((0:Int)<(M:Int))=true:=ace mz;obtain⟨i0,XW,SC,Vo,TF⟩:=PH kW;have hne:own≠[]:=λe=>h0 (by rw[<-HM.out,e];rfl)
       obtain⟨wn,hwn⟩:∃n,whole i z.toNat=n:=⟨_,rfl⟩;have HWh:=aT (λW=>wI (i:Int) z hz0 hyz W);rw[wH hz0,hwn] at HWh;have cK:Hid (Y7 x d y.num rs i=[(wn,own)]):=by show _=_;rw[HZ2.out,aN hne,hwn]
       clear hne hwn HZ2;have iwz:IntKind.u32.wrap z=z:=by rw[axc];omega
       obtain⟨es,he,hE⟩:=Z.out.O8 i hlt;obtain⟨K,A⟩:=jX es.length;have hKl:K<=1000000:=by
        have h2:=ax List.length he;rw[aac,A] at h2;have h3:Nn x d y.num rs E i i=E i:=by unfold Nn;rw[aN jO]
        rw[h3] at h2;rw[h2];exact HEl.out i hlt
       obtain⟨ea,Y,J⟩:∃ea Y,I i=.slice ea K Y:=by obtain⟨ea,Y,e⟩:=ZY hE.row;exact⟨ea,Y,by rw[e,A]⟩
       have b4:Below w2.heap.size w2 (w2.drew.alloc (.cells #[.int .u32 wn,.slice oa M oc] OG)):=(aG _ w2).drew.alloc (aP _) _;have D:=aT (Z.out.Zs b4);have lK:=aT (kP.out.trans (Kept.Nq Z.out.lt b4));have Co:=aT (gX.out.Zs b4);have HE4:Hid (kU lo (w2.drew.alloc (.cells #[.int .u32 wn,.slice oa M oc] OG)) (I i) es):=⟨ZF hE.row b4,λy hy=>(hE.rs y hy).Zs b4⟩;have zm:Hid ((w2.drew.alloc (.cells #[.int .u32 wn,.slice oa M oc] OG)).ownsRow lo OG 2 (.slice ea K Y) K (es.flatMap JJ)):=by have h:=HE4.out.row;rw[J,A] at h;exact h
       have rK:=aT J;have Hes:=aT he;have HKe:=aT A;have c39:w2.drew.cell? ⟨PL,2+i,none⟩=some (.slice ea K Y):=by have h:=Z.out.blk.cell (2+i);rw[LJ _ _ _ _ hlt,J] at h;exact h
       have c40:(w2.drew.alloc (.cells #[.int .u32 wn,.slice oa M oc] OG)).cell? ⟨PL,2+i,none⟩=some (.slice ea K Y):=by have h:=D.out.blk.cell (2+i);rw[LJ _ _ _ _ hlt,J] at h;exact h
       have c37:w2.cell? ⟨PL,2+i,none⟩=some (.slice ea K Y):=c39;have c38:(w2.alloc (.cells #[.int .u32 wn,.slice oa M oc] OG)).cell? ⟨PL,2+i,none⟩=some (.slice ea K Y):=c40;clear b4 hE he A J;go_upto_region 8 with fail;refine agc (S:=λ_=>True) jK (trivial) (λhHeld=> ?_);refine jT 0 ⟨some 35,.move (.tmp 6),3,"resolve.go:134",#[],none⟩ ?_;try simp only[Act.put,aS,aQ,aR]
       refine jT 1 ⟨some 36,.move (.tmp 6),3,"resolve.go:134",#[],none⟩ ?_;try simp only[Act.put,aS,aQ,aR]
       refine jT 2 ⟨some 37,.fieldAddr 78 (.tmp 3) 2,0,"resolve.go:134",#[],none⟩ ?_;try simp only[Act.put,aS,aQ,aR]
       refine jT 3 ⟨some 38,.indexAddr 74 (.tmp 37) (.tmp 36),0,"resolve.go:134",#[⟨2,.data⟩,⟨1,.data⟩],none⟩ ?_;try simp only[Act.put,aS,aQ,aR]
       refine jT 5 ⟨some 40,.move (.tmp 6),3,"resolve.go:134",#[],none⟩ ?_;try simp only[Act.put,aS,aQ,aR]
       refine jT 6 ⟨some 41,.move (.tmp 7),3,"resolve.go:134",#[],none⟩ ?_;try simp only[Act.put,aS,aQ,aR]
       refine jT 7 ⟨some 42,.convert 3 53 (.tmp 41),53,"resolve.go:134",#[⟨6,.data⟩],none⟩ ?_;try simp only[Act.put,aS,aQ,aR]
       refine jT 9 ⟨some 44,.move (.tmp 8),115,"resolve.go:134",#[],none⟩ ?_;try simp only[Act.put,aS,aQ,aR]
       refine jT 13 ⟨some 48,.fieldAddr 78 (.tmp 3) 2,0,"resolve.go:134",#[],none⟩ ?_;try simp only[Act.put,aS,aQ,aR]
       refine aag (rs:=[4,8]) jK jS ?_;refine ae (o:=rO) rfl (λC A=> ?ar5) (ae (o:=gJ) rfl (λC A=> ?ar6) aad)
       case' ar5=>
        go_simp;refine A.out _ _ hHeld (λhHeld=> ?_);clear A C;try simp only[Act.put,aS,aQ,aR]
        refine aag (rs:=[8]) jK jS ?_;refine ae (o:=gJ) rfl (λC A=> ?aD0) aad;go_simp;refine(HWh.out _).mono ?_;rintro e w7 ⟨rfl,rfl⟩;refine A.out _ _ (trivial) (λhHeld=> ?_);clear A C;try simp only[Act.put,aS,aQ,aR]
        refine jT 10 gI ?_;try simp only[Act.put,aS,aQ,aR]
        refine aag (rs:=[11]) jK jS ?_;refine ae (o:=rN) rfl (λC A=> ?aD1) aad;go_simp;refine A.out _ _ (trivial) (λhHeld=> ?_);clear A C;try simp only[Act.put,aS,aQ,aR]
       case' ar6=>
        go_simp;refine(HWh.out _).mono ?_;rintro e w7 ⟨rfl,rfl⟩;refine A.out _ _ (trivial) (λhHeld=> ?_);clear A C;try simp only[Act.put,aS,aQ,aR]
        refine jT 10 gI ?_;try simp only[Act.put,aS,aQ,aR]
        refine aag (rs:=[4,11]) jK jS ?_;refine ae (o:=rO) rfl (λC A=> ?ar7) (ae (o:=rN) rfl (λC A=> ?ar8) aad)
       case' ar7=>
        go_simp;refine A.out _ _ hHeld (λhHeld=> ?_);clear A C;try simp only[Act.put,aS,aQ,aR]
        refine aag (rs:=[11]) jK jS ?_;refine ae (o:=rN) rfl (λC A=> ?aD2) aad;go_simp;refine A.out _ _ (trivial) (λhHeld=> ?_);clear A C;try simp only[Act.put,aS,aQ,aR]
       case' ar8=>
        go_simp;refine A.out _ _ (trivial) (λhHeld=> ?_);clear A C;try simp only[Act.put,aS,aQ,aR]
        refine aag (rs:=[4]) jK jS ?_;refine ae (o:=rO) rfl (λC A=> ?aD3) aad;go_simp;refine A.out _ _ hHeld (λhHeld=> ?_);clear A C;try simp only[Act.put,aS,aQ,aR]
       all_goals (
        refine aag (rs:=[12]) jK jS ?_;refine ae (o:=⟨some 47,.call {callee:=.builtin .append,args:=#[.tmp 39,.tmp 46],argTypes:=#[73,73]},73,"resolve.go:134",#[⟨4,.data⟩,⟨11,.data⟩,⟨8,.chain⟩],none⟩) rfl (λC A=> ?_) aad;refine step_append_lies _ rfl _ _ 73 rfl lo OG i0 (.agg #[.int .u32 0,.slice none 0 0]) 2 32 underlying73 XW SC Vo TF rfl jD (.slice ea K Y) K (es.flatMap JJ) rfl zm.out ⟨w2.heap.size,0,none⟩ 1 1 [.int .u32 wn,.slice oa M oc] rfl rfl (World.news_of_block (Z8.new w2.drew _ _)) (by simp[Value.oneCell']) jD (by unfold maxLen;omega) jO D.out.lt _ rfl ?_;intro gb cap w8 T LY KH kO;have cI:=D.out.blk.kept LY (λe=>Vi zm.out D.out.blk jD e.symm);have c8:=cI.cell (2+i);rw[LJ _ _ _ _ hlt] at c8;have f8:=cI.frozen (2+i);have Eb:=aT LY;have lh:=aT KH;have IW:=aT T;clear LY KH T cI;refine A.out _ _ (trivial) (λhHeld=> ?_);clear A C;try simp only[Act.put,aS,aQ,aR]
        refine jT 14 ⟨some 49,.indexAddr 74 (.tmp 48) (.tmp 35),0,"resolve.go:134",#[⟨13,.data⟩,⟨0,.data⟩,⟨0,.phase⟩,⟨1,.phase⟩,⟨2,.phase⟩,⟨3,.phase⟩,⟨4,.phase⟩,⟨5,.phase⟩,⟨6,.phase⟩,⟨7,.phase⟩,⟨8,.phase⟩,⟨9,.phase⟩,⟨10,.phase⟩,⟨11,.phase⟩,⟨12,.phase⟩],none⟩ ?_;try simp only[Act.put,aS,aQ,aR]
        refine aag (rs:=[15]) jK jS ?_;refine ae (o:=⟨none,.store 73 (.tmp 49) (.tmp 47),0,"resolve.go:134",#[⟨14,.data⟩,⟨12,.data⟩,⟨12,.chain⟩,⟨0,.phase⟩,⟨1,.phase⟩,⟨2,.phase⟩,⟨3,.phase⟩,⟨4,.phase⟩,⟨5,.phase⟩,⟨6,.phase⟩,⟨7,.phase⟩,⟨8,.phase⟩,⟨9,.phase⟩,⟨10,.phase⟩,⟨11,.phase⟩,⟨12,.phase⟩],none⟩) rfl (λC A=> ?_) aad;go_simp;refine A.out _ _ (trivial) (λhHeld=> ?_);clear A C;try simp only[Act.put,aS,aQ,aR]
        refine akc jK ?_ _)
       all_goals (
        have HPP:=aT (D.out.ar3 hlt Co.out (by rw[rK.out];exact Eb.out) (n:=wn) rfl Hes.out HE4.out (by rw[HKe.out];exact IW.out) (by rw[rK.out];exact lh.out.imp (λe=>e.symm) (λe=>by rw[e];rfl)));have HP9:=aT (HPP.out.1.congr (rM cK.out) (λ_ _=>rfl));have HK9:=aT (lK.out.trans HPP.out.2);go_wp2_with fail;go_roundg (5-i)
        (case measure=>omega)
        (case rel=>exact⟨i+1,_,jO,jO,by go_num,HP9,HK9⟩))
  ·obtain rfl:i=5:=by omega
   have Zc:¬((5:Nat):Int)<5:=jO;have CQ:Hid (Yy lo PL wr d x I vs (λa=>E a++Y7 x d y.num rs a) S):=HP.out.congr (λa ha=>by unfold Nn;rw[aH ha]) (λ_ _=>rfl);have hRw:=HK.out.keep _ _ _ HR.out jD jD jD;obtain⟨_,_,_,_,_,_,p6,p7⟩:=hRw.q8;have HKw:=aT (HK0.out.trans HK.out);obtain⟨mx,hmx⟩:=jX y.Ys;obtain⟨sb,hsb⟩:=jX y.sub;rw[hmx] at p6 CU np;rw[hsb] at p7 hs0 hs1;have HMX:=aT hmx;have HSB:=aT hsb;clear hmx hsb hRw HP;by_cases hz:mx=0
   ·subst hz;go_wp2_with fail;go_end0
    have HPF:Hid (Yy lo PL wr d x I vs (λa=>E a++Y7 x d y.num rs a) (λb=>S b++X6 y.Ys y.sub rs b)):=CQ.out.congr (λ_ _=>rfl) (λm _=>by unfold X6;rw[HMX.out,aN jO,ade])
    exact⟨rfl,I,vs,HPF.out,HKw.out⟩
   ·obtain⟨m,hm⟩:∃m:Nat,mx=(m:Int)+1:=⟨(mx-1).toNat,jO⟩;have JO:m<2:=jO;obtain⟨sn,hsn⟩:∃sn:Nat,sb=(sn:Int):=⟨sb.toNat,jO⟩;subst hm hsn;obtain⟨i0,XW,SC,Vo,TF⟩:=PH kV;have aD4:(0:Int)<(m:Int)+1:=jO;have iwm:IntKind.i64.wrap ((m:Int)+1-1)=(m:Int):=by rw[aJ _ jO];omega
    have aD5:IntKind.i64.wrap (m:Int)=(m:Int):=aJ _ jO;have iws:IntKind.u32.wrap (sn:Int)=(sn:Int):=by rw[axc];omega
    have m0':=jZ m;have m2':(m:Int)<2:=jO;obtain⟨r,hr⟩:∃r,rs[0]? =some r:=⟨_,aM (by rw[HL.out];exact h1)⟩;obtain⟨g,u,hra,hg,_,hu,y0,y1⟩:=(HK.out.Ot HQ.out).cell hr;subst hra;have hL0:(0:Int)<(L:Int):=jO;have hLn:0<L:=jO;have hLd:decide (0<L)=true:=ace hLn;have hLz:decide ((0:Int)<(L:Int))=true:=ace hL0;have y1:wr.cell? ⟨g,1,none⟩=some (.int .u32 r.2):=y1;have HSt:Hid (X6 y.Ys y.sub rs m=[(sn,r.2)]):=by show _=_;unfold X6;rw[HMX.out,HSB.out,aH rfl,hr];rfl
    have Um:Hid (∀b,b≠m->X6 y.Ys y.sub rs b=[]):=λb hb=>by unfold X6;rw[HMX.out,aN jO]
    have kY:=hr;clear hr hu y0;obtain⟨rd,hrd⟩:=jX r.2;rw[hrd] at y1 HSt;have ag0:=hrd;clear hrd;have NS:Hid (∀W:World,Kept lo PL w1 W->W.cell? ⟨PR,6,none⟩=some (.int .i64 ((m:Int)+1))/\W.cell? ⟨PR,7,none⟩=some (.int .i64 sn)/\W.cell? ⟨g,1,none⟩=some (.int .u32 rd)):=λW hW=>by have hR8:=hW.keep _ _ _ HR.out jD jD jD;refine⟨(hR8.cell 6).trans (by rw[<-HMX.out];rfl),(hR8.cell 7).trans (by rw[<-HSB.out];rfl),?_⟩;obtain⟨g2,u2,e2,_,_,_,_,z1⟩:=(hW.Ot HQ.out).cell kY;cases e2;rw[<-ag0];exact z1
    clear kY ag0;obtain⟨K,A⟩:=jX ((S m).length);have hKl:K<=1000000:=by rw[<-A];exact HSl.out m JO
    have U:wr.ownsRow lo Oy 2 (vs m) (S m).length ((S m).flatMap encS):=CQ.out.subs m JO;obtain⟨ea,Y,J⟩:∃ea Y,vs m=.slice ea K Y:=by obtain⟨ea,Y,e⟩:=ZY U;exact⟨ea,Y,by rw[e,A]⟩
    have b4:Below wr.heap.size wr (wr.drew.alloc (.cells #[.int .u32 sn,.int .u32 rd] Oy)):=(aG _ wr).drew.alloc (aP _) _;have D:=aT (CQ.out.Zs b4);have lK:=aT (HKw.out.trans (Kept.Nq CQ.out.lt b4));have zm:Hid ((wr.drew.alloc (.cells #[.int .u32 sn,.int .u32 rd] Oy)).ownsRow lo Oy 2 (.slice ea K Y) K ((S m).flatMap encS)):=by have h:=ZF U b4;rw[J,A] at h;exact h
    have rK:=aT J;have HKe:=aT A;have c37:wr.cell? ⟨PL,7+m,none⟩=some (.slice ea K Y):=by have h:=CQ.out.blk.cell (7+m);rw[LI _ _ _ _ JO,J] at h;exact h
    have c38:(wr.alloc (.cells #[.int .u32 sn,.int .u32 rd] Oy)).cell? ⟨PL,7+m,none⟩=some (.slice ea K Y):=by have h:=D.out.blk.cell (7+m);rw[LI _ _ _ _ JO,J] at h;exact h
    have kd:Kept lo PL w1 wr.drew:=HK.out.trans (Kept.drew CQ.out.lt);have ka:Kept lo PL w1 (wr.drew.alloc (.cells #[.int .u32 sn,.int .u32 rd] Oy)):=HK.out.trans (Kept.Nq CQ.out.lt b4);clear b4 U A J;go_upto_region 11 with fail;refine agc (S:=λw'=>w'.cell? ⟨PR,6,none⟩=some (.int .i64 ((m:Int)+1))/\w'.cell? ⟨PR,7,none⟩=some (.int .i64 sn)/\w'.cell? ⟨g,1,none⟩=some (.int .u32 rd)) jK (NS.out _ (by first|(with_reducible assumption)|(with_reducible exact kd)|(with_reducible exact ka)|exact kd|exact ka)) (λhHeld=> ?_);refine jT 0 ⟨some 54,.fieldAddr 40 (.tmp 4) 2,0,"resolve.go:138",#[],none⟩ ?_;try simp only[Act.put,aS,aQ,aR]
    refine jT 1 ⟨some 55,.load 3 (.tmp 54),3,"resolve.go:138",#[⟨0,.data⟩],none⟩ ?_;try simp only[Act.put,aS,aQ,aR]
    refine jT 2 ⟨some 56,.binOp .sub 3 (.tmp 55) (.const (.int .i64 1)) 3,3,"resolve.go:138",#[⟨1,.data⟩],none⟩ ?_;try simp only[Act.put,aS,aQ,aR]
    refine jT 3 ⟨some 57,.fieldAddr 40 (.tmp 4) 2,0,"resolve.go:138",#[],none⟩ ?_;try simp only[Act.put,aS,aQ,aR]
    refine jT 4 ⟨some 58,.load 3 (.tmp 57),3,"resolve.go:138",#[⟨3,.data⟩],none⟩ ?_;try simp only[Act.put,aS,aQ,aR]
    refine jT 5 ⟨some 59,.binOp .sub 3 (.tmp 58) (.const (.int .i64 1)) 3,3,"resolve.go:138",#[⟨4,.data⟩],none⟩ ?_;try simp only[Act.put,aS,aQ,aR]
    refine jT 6 ⟨some 60,.fieldAddr 78 (.tmp 3) 3,0,"resolve.go:138",#[],none⟩ ?_;try simp only[Act.put,aS,aQ,aR]
    refine jT 7 ⟨some 61,.indexAddr 76 (.tmp 60) (.tmp 59),0,"resolve.go:138",#[⟨6,.data⟩,⟨5,.data⟩],none⟩ ?_;try simp only[Act.put,aS,aQ,aR]
    refine jT 9 ⟨some 63,.fieldAddr 40 (.tmp 4) 3,0,"resolve.go:138",#[],none⟩ ?_;try simp only[Act.put,aS,aQ,aR]
    refine jT 10 ⟨some 64,.load 3 (.tmp 63),3,"resolve.go:138",#[⟨9,.data⟩],none⟩ ?_;try simp only[Act.put,aS,aQ,aR]
    refine jT 11 ⟨some 65,.convert 3 53 (.tmp 64),53,"resolve.go:138",#[⟨10,.data⟩],none⟩ ?_;try simp only[Act.put,aS,aQ,aR]
    refine jT 12 ⟨some 66,.move (.tmp 1),115,"resolve.go:138",#[],none⟩ ?_;try simp only[Act.put,aS,aQ,aR]
    refine jT 13 ⟨some 67,.indexAddr 115 (.tmp 66) (.const (.int .i64 0)),0,"resolve.go:138",#[⟨12,.data⟩],none⟩ ?_;try simp only[Act.put,aS,aQ,aR]
    refine jT 14 ⟨some 68,.fieldAddr 121 (.tmp 67) 1,0,"resolve.go:138",#[⟨13,.data⟩],none⟩ ?_;try simp only[Act.put,aS,aQ,aR]
    refine jT 15 ⟨some 69,.load 53 (.tmp 68),53,"resolve.go:138",#[⟨14,.data⟩],none⟩ ?_;try simp only[Act.put,aS,aQ,aR]
    refine jT 16 ⟨some 70,.build 123 #[(0,.tmp 65),(1,.tmp 69)],123,"resolve.go:138",#[⟨11,.data⟩,⟨15,.data⟩],none⟩ ?_;try simp only[Act.put,aS,aQ,aR]
    refine jT 19 ⟨some 73,.fieldAddr 78 (.tmp 3) 3,0,"resolve.go:138",#[],none⟩ ?_;try simp only[Act.put,aS,aQ,aR]
    refine aag (rs:=[8,17]) jK jS ?_;refine ae (o:=gH) rfl (λC A=> ?ar9) (ae (o:=gG) rfl (λC A=> ?as0) aad)
    case' ar9=>
     go_simp;refine A.out _ _ hHeld (λhHeld=> ?_);clear A C;try simp only[Act.put,aS,aQ,aR]
     refine aag (rs:=[17]) jK jS ?_;refine ae (o:=gG) rfl (λC A=> ?aD6) aad;go_simp;refine A.out _ _ (NS.out _ (by first|(with_reducible assumption)|(with_reducible exact kd)|(with_reducible exact ka)|exact kd|exact ka)) (λhHeld=> ?_);clear A C;try simp only[Act.put,aS,aQ,aR]
    case' as0=>
     go_simp;refine A.out _ _ (NS.out _ (by first|(with_reducible assumption)|(with_reducible exact kd)|(with_reducible exact ka)|exact kd|exact ka)) (λhHeld=> ?_);clear A C;try simp only[Act.put,aS,aQ,aR]
     refine aag (rs:=[8]) jK jS ?_;refine ae (o:=gH) rfl (λC A=> ?aD7) aad;go_simp;refine A.out _ _ hHeld (λhHeld=> ?_);clear A C;try simp only[Act.put,aS,aQ,aR]
    all_goals (
     refine aag (rs:=[18]) jK jS ?_;refine ae (o:=⟨some 72,.call {callee:=.builtin .append,args:=#[.tmp 62,.tmp 71],argTypes:=#[75,75]},75,"resolve.go:138",#[⟨8,.data⟩,⟨17,.data⟩],none⟩) rfl (λC A=> ?_) aad;refine step_append_lies _ rfl _ _ 75 rfl lo Oy i0 (.agg #[.int .u32 0,.int .u32 0]) 2 8 underlying75 XW SC Vo TF rfl jD (.slice ea K Y) K ((S m).flatMap encS) rfl zm.out ⟨wr.heap.size,0,none⟩ 1 1 [.int .u32 sn,.int .u32 rd] rfl rfl (World.news_of_block (Z8.new wr.drew _ _)) (by simp[Value.oneCell']) jD (by unfold maxLen;omega) jO D.out.lt _ rfl ?_;intro gb cap w8 T LY KH kO;have HPP:=aT (D.out.ar4 JO (by rw[rK.out];exact LY) (n:=sn) (c:=rd) rfl (by rw[HKe.out];exact T) (by rw[rK.out];exact KH.imp (λe=>e.symm) (λe=>by rw[e];rfl)));have k8:Kept lo PL w1 w8:=ka.trans (Kept.grown D.out.lt zm.out (.inr rfl) LY);have ks:=ka.trans HPP.out.2;have cI:=D.out.blk.kept LY (λe=>Vi zm.out D.out.blk jD e.symm);have c8:=cI.cell (7+m);rw[LI _ _ _ _ JO] at c8;have f8:=cI.frozen (7+m);clear LY KH T cI;refine A.out _ _ (NS.out _ (by first|(with_reducible assumption)|(with_reducible exact kd)|(with_reducible exact ka)|exact kd|exact ka)) (λhHeld=> ?_);clear A C;try simp only[Act.put,aS,aQ,aR]
     refine jT 20 ⟨some 74,.indexAddr 76 (.tmp 73) (.tmp 56),0,"resolve.go:138",#[⟨19,.data⟩,⟨2,.data⟩,⟨0,.phase⟩,⟨1,.phase⟩,⟨2,.phase⟩,⟨3,.phase⟩,⟨4,.phase⟩,⟨5,.phase⟩,⟨6,.phase⟩,⟨7,.phase⟩,⟨8,.phase⟩,⟨9,.phase⟩,⟨10,.phase⟩,⟨11,.phase⟩,⟨12,.phase⟩,⟨13,.phase⟩,⟨14,.phase⟩,⟨15,.phase⟩,⟨16,.phase⟩,⟨17,.phase⟩,⟨18,.phase⟩],none⟩ ?_;try simp only[Act.put,aS,aQ,aR]
     refine aag (rs:=[21]) jK jS ?_;refine ae (o:=⟨none,.store 75 (.tmp 74) (.tmp 72),0,"resolve.go:138",#[⟨20,.data⟩,⟨18,.data⟩,⟨18,.chain⟩,⟨0,.phase⟩,⟨1,.phase⟩,⟨2,.phase⟩,⟨3,.phase⟩,⟨4,.phase⟩,⟨5,.phase⟩,⟨6,.phase⟩,⟨7,.phase⟩,⟨8,.phase⟩,⟨9,.phase⟩,⟨10,.phase⟩,⟨11,.phase⟩,⟨12,.phase⟩,⟨13,.phase⟩,⟨14,.phase⟩,⟨15,.phase⟩,⟨16,.phase⟩,⟨17,.phase⟩,⟨18,.phase⟩],none⟩) rfl (λC A=> ?_) aad;go_simp;refine A.out _ _ (NS.out _ (by first|(with_reducible assumption)|(with_reducible exact kd)|(with_reducible exact ka)|exact kd|exact ka)) (λhHeld=> ?_);clear A C;try simp only[Act.put,aS,aQ,aR]
     refine akc jK ?_ _)
    all_goals (
     have HPF:Hid (Yy lo PL _ d x I _ (λa=>E a++Y7 x d y.num rs a) (λb=>S b++X6 y.Ys y.sub rs b)):=HPP.out.1.congr (λ_ _=>rfl) (λb _=>by
      by_cases e:b=m;·subst e;rw[XU,HSt.out]
      ·rw[X9 _ _ e,Um.out b e,ade])
     have HKF:=aT (lK.out.trans HPP.out.2);go_wp2_with fail;go_end0;exact⟨rfl,I,_,HPF.out,HKF.out⟩)
theorem Q2{l:List Z4.Z0}(D:Z4.Zv l)(nm:ByteArray):(∀a,a<5->(YP l nm).num a<1073741824)/\0<=(YP l nm).Ys/\(YP l nm).Ys<=2/\0<=(YP l nm).sub/\(YP l nm).sub<4294967296:=by
 unfold YP;by_cases h:Z4.firstIdx (Z4.Uy nm) l<0;·rw[aH h];refine⟨λa ha=> ?_,jD,jD,jD,jD⟩;rcases (show a=0\/a=1\/a=2\/a=3\/a=4 from jO) with rfl|rfl|rfl|rfl|rfl<;>decide
 ·rw[aN h];have A:(Z4.firstIdx (Z4.Uy nm) l).toNat<l.length:=by rcases Z4.RL (Z4.Uy nm) l with e|⟨e1,e2⟩<;>omega
  obtain⟨_,_,⟨hr,hm⟩,_,_⟩:=Z4.cT (D _ A);obtain⟨m0,C,ms,mp⟩:=hm;refine⟨λa ha=> ?_,m0,C,?_,?_⟩;·have:=hr a ha;unfold Z4.NU at this;omega
  ·by_cases e:(l[(Z4.firstIdx (Z4.Uy nm) l).toNat]!).Ys=0
   ·rw[ms e]
    decide
   ·have:=mp jO;omega
  ·by_cases e:(l[(Z4.firstIdx (Z4.Uy nm) l).toNat]!).Ys=0
   ·rw[ms e]
    decide
   ·have:=mp jO;omega
def RA(r:NR):Z3:=(r.cs,Yf r.k r.n)
inductive Ux:List NR->List (ByteArray×List Z3)->Prop
 |nil:Ux [] []
 |more {a b:List NR} {nm:ByteArray} {out:List (ByteArray×List Z3)}:Ux a out->b≠[]->(∀r∈b,r.nm=nm)->(∀g,out.getLast? =some g->g.1≠nm)->Ux (a++b) (out++[(nm,b.map RA)])
theorem Ux.len{a:List NR}{out:List (ByteArray×List Z3)}(h:Ux a out):out.length<=a.length:=by
 induction h with
 |nil=>exact aP _
 | @more a b nm out _ hb _ _ A=>
   rw[ay,ay];have:b.length≠0:=λe=>hb (alb.1 e)
   show out.length+1<=_;omega
section
variable (x:Bool) (d:Nat) (l:List Z4.Z0)
def Xx(dn:List (ByteArray×List Z3))(a:Nat):List Xp:=dn.flatMap λg=>Y7 x d (YP l g.1).num g.2 a
def WY(dn:List (ByteArray×List Z3))(m:Nat):List (Nat×Nat):=dn.flatMap λg=>X6 (YP l g.1).Ys (YP l g.1).sub g.2 m
theorem BX(dn:List (ByteArray×List Z3))(g:ByteArray×List Z3)(a:Nat):Xx x d l (dn++[g]) a=Xx x d l dn a++Y7 x d (YP l g.1).num g.2 a:=by
 unfold Xx;rw[aca,acb,ase,ade]
theorem BW(dn:List (ByteArray×List Z3))(g:ByteArray×List Z3)(m:Nat):WY l (dn++[g]) m=WY l dn m++X6 (YP l g.1).Ys (YP l g.1).sub g.2 m:=by
 unfold WY;rw[aca,acb,ase,ade]
theorem Q1(dn:List (ByteArray×List Z3))(a:Nat):(Xx x d l dn a).length<=dn.length:=by
 induction dn with
 |nil=>exact aP _
 |cons g r A=>
  unfold Xx at*;rw[acb,ay,aj];have:(Y7 x d (YP l g.1).num g.2 a).length<=1:=by
   unfold Y7;split;·exact abb _
   ·split;·exact abb _
    ·split;·exact abb _
     ·exact aP _
  omega
theorem Vx(dn:List (ByteArray×List Z3))(m:Nat):(WY l dn m).length<=dn.length:=by
 induction dn with
 |nil=>exact aP _
 |cons g r A=>
  unfold WY at*;rw[acb,ay,aj];have:(X6 (YP l g.1).Ys (YP l g.1).sub g.2 m).length<=1:=by
   unfold X6;split;·exact aP _
   ·exact abb _
  omega
end
theorem TZ.cell{lo:Nat}{W:World}{rs:List NR}{us:List Value}{a:Option Addr}{n c:Nat}(h:TZ lo W (.slice a n c) rs us){i:Nat}{r:NR}(hr:rs[i]? =some r):∃g u,a=some ⟨g,0,none⟩/\g<W.heap.size/\us[i]? =some u/\W.cell? ⟨g,i*4,none⟩=some (.string r.nm)/\W.cell? ⟨g,i*4+1,none⟩=some (.int .i64 r.k)/\W.cell? ⟨g,i*4+2,none⟩=some (.int .i64 r.n)/\W.cell? ⟨g,i*4+3,none⟩=some u/\W.ownsRow lo TC 4 u r.cs.length (r.cs.flatMap cL):=by
 have A:=(aq.1 hr).1;obtain⟨u,hu⟩:∃u,us[i]? =some u:=⟨_,aM (by rw[h.len];exact A)⟩;have hn:n=rs.length:=by obtain⟨a',Y,T⟩:=ZY h.row;injection T
 subst hn;rcases h.row.2 with⟨e,U⟩|⟨g,cap,D,e,C,J,_⟩;·omega
 ·injection e with e1 _ e2;subst e1;have at_:∀j,j<4->W.cell? ⟨g,i*4+j,none⟩=(rC r u)[j]? :=λj I=>by rw[h.row.cellAt (i*4+j) jO,RO rs us i r u hr hu j I]
  exact⟨g,u,rfl,(aab.1 J).1,hu,at_ 0 jD,at_ 1 jD,at_ 2 jD,at_ 3 jD,h.cs i u r hu hr⟩
theorem Yi.more{lo:Nat}{W W':World}{v:Value}{l:List Z3}{us:List Value}{x:Value}{cs:List Z5}{code gb cap:Nat}(h:Yi lo W v l us)(hx:W.ownsRow 0 TC 4 x cs.length (cs.flatMap cL))(Y:W.grownBy W' v.ownBlock)(C:W'.ownsRow lo TQ 2 (.slice (some ⟨gb,0,none⟩) (l.length+1) cap) (l.length+1) (Xh l us++[x,.int .u32 code])):Yi lo W' (.slice (some ⟨gb,0,none⟩) (l.length+1) cap) (l++[(cs,code)]) (us++[x]):=by
 have A:∀{u:Value} {ds:List Z5},W.ownsRow 0 TC 4 u ds.length (ds.flatMap cL)->W'.ownsRow 0 TC 4 u ds.length (ds.flatMap cL):=λ{u ds} I=>by
  refine I.kept Y ?_;cases hv:v.ownBlock with
  |none=>cases u.ownBlock<;>simp
  |some k=>
   obtain⟨T,U⟩:=Xr h.row hv;exact .inr (Vi I U jD)
 refine⟨?_,?_,λj u r hu hr=> ?_⟩;·rw[ay,ay,h.len];rfl
 ·rw[ay,Pb _ _ _ _ h.len];exact C
 ·by_cases J:j<l.length;·rw[abc (by rw[h.len];exact J)] at hu;rw[abc J] at hr;exact A (h.cs j u r hu hr)
  ·rw[aae (by rw[h.len];omega),h.len] at hu;rw[aae jO] at hr
   have D:j-l.length=0:=by have:=(aq.1 hr).1;simp at this;omega
   rw[D] at hu hr;simp at hu hr;subst hu hr;exact A hx
def WX:Array Value:=#[.int .u32 0,.bool false,.slice none 0 0,.slice none 0 0,.slice none 0 0,.slice none 0 0,.slice none 0 0,.slice none 0 0,.slice none 0 0]
structure LX(lo BN R PL:Nat)(k n:Int)(x:Bool)(nv:Value)(d:Nat)(l:List Z4.Z0)(w:World)(rn:List NR)(us:List Value)(dn:List (ByteArray×List Z3))(ve vs:Nat->Value)(W:World):Prop where
 hn:Z8 W BN V1 #[.int .i64 k,.int .i64 n,.bool x,nv]
 hr:Z8 W R Xy WX
 rows:TZ lo W nv rn us
 Nj:Yy lo PL W d x ve vs (Xx x d l dn) (WY l dn)
 Zs:Below lo w W
 lw:lo<=W.heap.size
 ne:R≠PL
 lr:lo<=R
section
variable {lo BN R PL:Nat} {k n:Int} {x:Bool} {nv:Value} {d:Nat} {l:List Z4.Z0} {w W W':World} {rn:List NR} {us:List Value} {dn:List (ByteArray×List Z3)} {ve vs:Nat->Value}
theorem LX.to(h:LX lo BN R PL k n x nv d l w rn us dn ve vs W)(hb:Below W.heap.size W W'):LX lo BN R PL k n x nv d l w rn us dn ve vs W':=
 ⟨h.hn.below hb h.hn.lt,h.hr.below hb h.hr.lt,h.rows.Zs hb,h.Nj.Zs hb,h.Zs.trans (hb.mono h.lw),aO h.lw hb.size,h.ne,h.lr⟩
theorem LX.kept{dn':List (ByteArray×List Z3)}{ve' vs':Nat->Value}(h:LX lo BN R PL k n x nv d l w rn us dn ve vs W)(hk:Kept lo PL W W')(hp:Yy lo PL W' d x ve' vs' (Xx x d l dn') (WY l dn')):LX lo BN R PL k n x nv d l w rn us dn' ve' vs' W':=
 ⟨hk.keep _ _ _ h.hn jD jD jD,hk.yV _ _ h.hr h.ne,hk.YP h.rows,hp,h.Zs.trans hk.Zs,aO h.lw hk.size,h.ne,h.lr⟩
theorem LX.start{w5 Wf:World}(hn:Z8 w5 BN V1 #[.int .i64 k,.int .i64 n,.bool x,nv])(hr:Z8 w5 R Xy WX)(D:TZ lo w5 nv rn us)(hb:Below lo w w5)(A:lo<=w5.heap.size)(J:lo<=R)(C:Below w5.heap.size w5 Wf)(I:w5.heap.size<=PL)(blk:Z8 Wf PL Xy (Vj d x (λ_=>.slice none 0 0) (λ_=>.slice none 0 0))):
 LX lo BN R PL k n x nv d l w rn us [] (λ_=>.slice none 0 0) (λ_=>.slice none 0 0) Wf:=
 ⟨hn.below C hn.lt,hr.below C hr.lt,D.Zs C,⟨blk,aO A I,λa _=>⟨[],rfl,ane _ _ _ _,λy hy=>(by cases hy)⟩,λm _=>ane _ _ _ _,λa b _ _ _ k e=>(by cases e),λa b _ _ _ k e=>(by cases e)⟩,hb.trans (C.mono A),aO A C.size,λe=>(by have:=hr.lt;omega),J⟩
end
end Go.Proofs.YtclgigmgbebhgaaGreatDoor
namespace Go.Proofs.YtclgigmgbebhgaaGreatDoor
open Tryz
open Go Go.Proofs
theorem yT:Wj=2 ^ 30:=jD
theorem cH{n:Nat}(h:n<Wj):n &&& Wj=0:=by
 apply Nat.eq_of_testBit_eq;intro i;rw[Nat.testBit_and,Nat.zero_testBit,yT,Nat.testBit_two_pow];by_cases e:30=i;·subst e;rw[Nat.testBit_lt_two_pow (show n<2 ^ 30 from h)];rfl
 ·rw[aee e,Bool.and_false]
theorem kN{n:Nat}(h:n<Wj):(n+Wj) &&& Wj≠0:=by
 intro e;have e2:=ax (λk=>k.testBit 30) e;simp only[Nat.testBit_and,Nat.zero_testBit] at e2;rw[yT,Nat.testBit_two_pow,Nat.add_comm,Nat.testBit_two_pow_add_eq,Nat.testBit_lt_two_pow (show n<2 ^ 30 from h)] at e2;simp at e2
def X5(a:Nat):Nat:=if a=2 then QR else if a=3 then QQ else if a=4 then QP else RV
structure Rz(p:YH)(gs:List Pc)(s0 s1:List (Nat×Nat)):Prop where
 a0:UK p.Vy p.d gs s0 s1 0 p.p0
 a1:p.Vy=true->UK p.Vy p.d gs s0 s1 1 p.p1
 a1n:WO p.p1
 a2:UK p.Vy p.d gs s0 s1 2 p.p2
 a3:UK p.Vy p.d gs s0 s1 3 p.p3
 a4:UK p.Vy p.d gs s0 s1 4 p.p4
 rules:∀g∈gs,Uz g.rules
theorem Rz.ok{p:YH}{gs:List Pc}{s0 s1:List (Nat×Nat)}(h:Rz p gs s0 s1):p.ok:=⟨h.a0.1,h.a1n,h.a2.1,h.a3.1,h.a4.1⟩
def cG(w:Nat->Nat)(Vy:Bool)(d a:Nat)(G:List Z3):Nat:=if a=1/\Vy=false then Zo else(ZC (VX w (decide (a≠2))) G).getD d
def gz(gs:List Pc)(a n:Nat)(G:List Z3):Prop:=(∃g∈gs,g.num a=n/\g.rules=G/\∀g'∈gs,g'.num a=n->g'=g)\/(G=[]/\∀g∈gs,g.num a≠n)
theorem rJ{w:Nat->Nat}(hw:He w){p:YH}{gs:List Pc}{s0 s1:List (Nat×Nat)}(h:Rz p gs s0 s1){a n:Nat}{G:List Z3}(ha:a<5)(hn:n<Wj)(A:a=2->n≠102/\n≠117)(J:gz gs a n G)(C:w 4=X5 a)(D:w 0=whole a n):
 ET w p=cG w p.Vy p.d a G:=by
 unfold ET cG;have T:n≠NONE:=by have:Wj<NONE:=jD;omega
 match a,ha with
 |0,_=>
  have D:w 0=n:=D;rw[aH (show w 4=RV from C),D];unfold xW;rw[aN T,aN (by rw[cH hn];decide),aN jS];have:=RM hw h.a0 (λe=>jO) h.rules A J;exact this
 |1,_=>
  have D:w 0=n+Wj:=D;rw[aH (show w 4=RV from C),D];unfold xW;have I:n+Wj≠NONE:=by have:Wj+Wj<NONE:=jD;omega
  rw[aN I,aH (kN hn)];cases hx:p.Vy with
  |false=>rw[aH rfl,aH ⟨rfl,rfl⟩]
  |true=>
   rw[aN jD,aN jS];exact RM hw (h.a1 hx) (λ_=>hx) h.rules A J
 |2,_=>
  have D:w 0=n:=D;have C:w 4=QR:=C;rw[aN (by rw[C];decide),aH C,D,aN jS];exact RM hw h.a2 (λe=>jO) h.rules A J
 |3,_=>
  have D:w 0=n:=D;have C:w 4=QQ:=C;rw[aN (by rw[C];decide),aN (by rw[C];decide),aH C,D,aN jS];exact RM hw h.a3 (λe=>jO) h.rules A J
 |4,_=>
  have D:w 0=n:=D;have C:w 4=QP:=C;rw[aN (by rw[C];decide),aN (by rw[C];decide),aN (by rw[C];decide),aH C,D,aN jS];exact RM hw h.a4 (λe=>jO) h.rules A J
end Go.Proofs.YtclgigmgbebhgaaGreatDoor
namespace Go.Proofs.YtclgigmgbebhgaaGreatDoor
open Tryz
open Go Go.Proofs Go.RowKit
theorem Ux.last{a:List NR}{out:List (ByteArray×List Z3)}(h:Ux a out):(a=[]/\out=[])\/∃r g,a.getLast? =some r/\out.getLast? =some g/\g.1=r.nm:=by
 cases h with
 |nil=>exact .inl ⟨rfl,rfl⟩
 | @more a b nm out h hb hn hl=>
   have hz:b.getLast? =some (b.getLast hb):=aoe hb;refine .inr ⟨b.getLast hb,(nm,b.map RA),?_,jS,(hn _ (axe hb)).symm⟩;rw[arf,hz];rfl
theorem BU{a1 b1 a2 b2:List NR}{nm:ByteArray}(e:a1++b1=a2++b2)(I:∀r∈b1,r.nm=nm)(C:∀r∈b2,r.nm=nm)(J:∀r,a1.getLast? =some r->r.nm≠nm)(D:∀r,a2.getLast? =some r->r.nm≠nm):a1=a2/\b1=b2:=by
 rcases List.append_eq_append_iff.1 e with⟨c,e1,e2⟩|⟨c,e1,e2⟩
 ·cases c with
  |nil=>simp at e1 e2;exact⟨e1.symm,e2⟩
  |cons x c=>
   have A:x::c≠[]:=jS;have hz:=aoe A;have hm:(x::c).getLast A∈b1:=by rw[e2];exact abe.2 (.inl (axe A))
   exact absurd (I _ hm) (D _ (by rw[e1,arf,hz];rfl))
 ·cases c with
  |nil=>simp at e1 e2;exact⟨e1,e2.symm⟩
  |cons x c=>
   have A:x::c≠[]:=jS;have hz:=aoe A;have hm:(x::c).getLast A∈b2:=by rw[e2];exact abe.2 (.inl (axe A))
   exact absurd (C _ hm) (J _ (by rw[e1,arf,hz];rfl))
theorem Ux.uniq{a:List NR}{o1:List (ByteArray×List Z3)}(Y:Ux a o1):∀{U:List (ByteArray×List Z3)},Ux a U->o1=U:=by
 induction Y with
 |nil=>
  intro U D;rcases D.last with⟨_,e⟩|⟨r,_,e,_⟩;·exact e.symm
  ·simp at e
 | @more a1 b1 C aD8 Y A T Z ih=>
   intro U D;generalize hx:a1++b1=x at D;cases D with
   |nil=>exact absurd (List.append_eq_nil_iff.1 hx).2 A
   | @more a2 b2 nm2 aD9 D I J hl2=>
     have z1:=aoe A;have z2:=aoe I;have e1:(a1++b1).getLast? =some (b1.getLast A):=by rw[arf,z1];rfl
     have e2:(a2++b2).getLast? =some (b2.getLast I):=by rw[arf,z2];rfl
     rw[hx,e2] at e1;have e3:C=nm2:=by rw[<-T _ (axe A),<-J _ (axe I),au e1]
     subst e3;have la:∀{a:List NR} {o:List (ByteArray×List Z3)},Ux a o->(∀g,o.getLast? =some g->g.1≠C)->∀r,a.getLast? =some r->r.nm≠C:=λ{a o} h hl r hr=>by
      rcases h.last with⟨e,_⟩|⟨r',g,e1,e2,e3⟩;·rw[e] at hr;cases hr
      ·rw[e1] at hr;cases hr;rw[<-e3];exact hl g e2
     obtain⟨ea,eb⟩:=BU hx T J (la Y Z) (la D hl2);subst ea eb;rw[ih D]
theorem wG(f:ByteArray->List NR)(hf:∀nm,∀r∈f nm,r.nm=nm):∀(ns:List ByteArray),ns.Nodup->Ux (ns.flatMap f) ((ns.filter (λnm=>decide (f nm≠[]))).map λnm=>(nm,(f nm).map RA)):=by
 intro ns;have D:∀(k:Nat) (ns:List ByteArray),ns.length=k->ns.Nodup->Ux (ns.flatMap f) ((ns.filter (λnm=>decide (f nm≠[]))).map λnm=>(nm,(f nm).map RA)):=by
  intro k
  induction k with
  |zero=>
   intro ns e _;obtain rfl:=alb.1 e;exact Ux.nil
  |succ k U=>
   intro ns e hd;have A:ns≠[]:=λh=>by rw[h] at e;cases e
   have e2:ns=ns.dropLast++[ns.getLast A]:=(apd A).symm;generalize ns.dropLast=q at e2;generalize ns.getLast A=nm at e2;subst e2;have J:=U q (by simpa using e) (atf.1 hd).1;have I:nm∉q:=λh=>(atf.1 hd).2.2 nm h nm jS rfl
   rw[aca,acb,ase,ade,ayf,adb];by_cases C:f nm=[];·rw[C,ade,List.filter_cons_of_neg (by simp[C])];simpa using J
   ·rw[List.filter_cons_of_pos (by simp[C])];refine J.more C (hf nm) (λg T e=> ?_);have:=List.mem_of_getLast? T;obtain⟨m,hm,rfl⟩:=ah.1 this;have e:m=nm:=e;subst e;exact I (apg.1 hm).1
 exact D ns.length ns rfl
theorem Ry{pr:List NR}{gs:List UL}(ho:Sk pr gs){nm:ByteArray}{r:NR}(h:r∈X0 gs nm):r.nm=nm/\∃q∈pr,q.nm=nm/\q.k=r.k/\q.n=r.n/\r.cs.length<=q.cs.length:=by
 unfold X0 at h;obtain⟨G,D,h⟩:=aqe.1 h;split at h;·rename_i e;obtain⟨A,q,U,C,J,T,I⟩:=ho.rs G D r h;exact⟨A.trans e,q,U,by rw[C,A,e],J,T,I⟩
 ·cases h
theorem Ts{k n:Int}{gs:List UL}{nm:ByteArray}{r:NR}(h:r∈TK k n gs nm):r∈X0 gs nm:=by
 unfold TK at h;exact aug.1 ((List.dropWhile_suffix _).subset (aug.1 h))
theorem Ea(k n:Int)(gs:List UL)(nm:ByteArray):(TK k n gs nm).length<=(X0 gs nm).length:=by
 unfold TK;rw[ava];have:=(List.dropWhile_suffix (λr:NR=>decide (r.k=k/\r.n=n)) (l:=(X0 gs nm).reverse)).length_le;rwa [ava] at this
theorem KG{k n:Int}:∀m:List NR,WL (Yf k n) (m.reverse.map RA) ((m.dropWhile (λr=>decide (r.k=k/\r.n=n))).reverse.map RA)
 |[]=>WL.same _
 |z::m=>by
  have A:=KG (k:=k) (n:=n) m;rw[aqa];by_cases h:z.k=k/\z.n=n
  ·rw[aH (by simpa using h),awe,adb];have:RA z=(z.cs,Yf k n):=by unfold RA;rw[h.1,h.2]
   rw[aed,ard,this];exact WL.one A
  ·rw[aN (by simpa using h)];exact WL.same _
theorem IV{rs g:List Z3}(h:Ub rs g):g.length<=rs.length:=by
 induction h with
 |nil=>exact aP _
 |gone _ _ A=>rw[ay];omega
 |hid _ _ _ A=>rw[ay];omega
 |more _ _ _ A=>rw[ay,ay,aj,aj];omega
theorem Oo{α:Type}(p:α->Bool):∀l:List α,(l.filter p).length+(l.filter λx=> !p x).length=l.length
 |[]=>rfl
 |x::l=>by have A:=Oo p l;rw[aog,aog];cases p x<;>simp<;>omega
theorem Rx{α:Type}{p:α->Bool}{l:List α}{x:α}(h:x∈l.filter p):x∈l:=(apg.1 h).1
theorem O7:∀(ns:List ByteArray) (pr:List NR),ns.Nodup->(ns.map λnm=>(ofName nm pr).length).sum<=pr.length
 |[],pr,_=>abb _
 |nm::ns,pr,h=>by
  have A:=ayd.1 h;have D:=O7 ns (pr.filter λr=> !decide (r.nm=nm)) A.2;have e:(ns.map λm=>(ofName m (pr.filter λr=> !decide (r.nm=nm))).length)=ns.map λm=>(ofName m pr).length:=asc (λm hm=>by
   unfold ofName;rw[List.filter_filter]
   congr 1
   apply List.filter_congr;intro r _;by_cases e:r.nm=m
   ·have C:¬r.nm=nm:=λe2=>A.1 (by rw[<-e2,e];exact hm)
    rw[ace e,aee C];rfl
   ·rw[aee e];rfl)
  rw[e] at D;rw[aed,ajf];have hs:=Oo (λr:NR=>decide (r.nm=nm)) pr;have I:(ofName nm pr).length=(pr.filter λr=>decide (r.nm=nm)).length:=rfl;omega
theorem BS{α:Type}(f g:α->Nat):∀l:List α,(∀x∈l,f x<=g x)->(l.map f).sum<=(l.map g).sum
 |[],_=>aP _
 |x::l,h=>by have C:=h x jS;have A:=BS f g l (λy hy=>h y (by simp[hy]));rw[aed,aed,ajf,ajf];omega
theorem KF{α:Type}(f:α->Nat)(p:α->Bool):∀l:List α,((l.filter p).map f).sum<=(l.map f).sum
 |[]=>aP _
 |x::l=>by
  have A:=KF f p l;rw[aog];split;·rw[aed,aed,ajf,ajf];omega
  ·rw[aed,ajf];omega
def rI(k n:Int)(gs:List UL)(ss:List ByteArray):List (ByteArray×List Z3):=(ss.filter (λnm=>decide (TK k n gs nm≠[]))).map λnm=>(nm,(TK k n gs nm).map RA)
structure DnF(pr:List NR)(d:Nat)(dn:List (ByteArray×List Z3)):Prop where
 nodup:(dn.map (·.1)).Nodup
 ne:∀g∈dn,g.2≠[]
 inp:∀g∈dn,∃q∈pr,q.nm=g.1
 rules:∀g∈dn,Uz g.2
 code:∀g∈dn,∀r∈g.2,r.2<4294967296
 cs:∀g∈dn,∀r∈g.2,∃q∈pr,r.1.length<=q.cs.length
 cnt:(dn.map (λg=>g.2.length)).sum<=pr.length
 rX:∀ar:Nat->Nat,(∀a,ar a<YO)->∀nm,(ZC ar (((dn.find? (λg=>decide (g.1=nm))).map (·.2)).getD [])).getD d=(ZC ar ((ofName nm pr).map RA)).getD d
theorem O6(f:ByteArray->List NR)(nm:ByteArray):∀ns:List ByteArray,(nm∈ns->((((ns.filter (λm=>decide (f m≠[]))).map λm=>(m,(f m).map RA)).find? (λg=>decide (g.1=nm))).map (·.2)).getD []=(f nm).map RA)/\(nm∉ns->((((ns.filter (λm=>decide (f m≠[]))).map λm=>(m,(f m).map RA)).find? (λg=>decide (g.1=nm))).map (·.2)).getD []=[])
 |[]=>⟨λh=>(by cases h),λ_=>rfl⟩
 |m::ns=>by
  obtain⟨C,A⟩:=O6 f nm ns;by_cases I:f m=[]
  ·rw[List.filter_cons_of_neg (by simp[I])];refine⟨λh=> ?_,λh=>A (λD=>h (aff _ D))⟩;by_cases e:nm∈ns;·exact C e
   ·rcases abf.1 h with rfl|h;·rw[A e,I];rfl
    ·exact absurd h e
  ·rw[List.filter_cons_of_pos (by simp[I]),aed];by_cases e:m=nm;·subst e;rw[aqb jS];exact⟨λ_=>rfl,λh=>absurd agd h⟩
   ·rw[anb (by simpa using e)];refine⟨λh=>C ?_,λh=>A (λD=>h (aff _ D))⟩;rcases abf.1 h with h|h;·exact absurd h.symm e
    ·exact h
theorem rH{pr:List NR}{gs:List UL}{ss:List ByteArray}{k n:Int}{rn:List NR}{dn:List (ByteArray×List Z3)}(yY:ss.Perm (gs.map (·.nm)))(gy:gs.Pairwise (λx y=>x.nm≠y.nm))(T:Tu Yf pr gs)(D:Sk pr gs)(Cy:ss.flatMap (TK k n gs)=rn)(Y:Ux rn dn)
 (hr:∀r∈pr,∀c∈r.cs,c.right) (ha:∀r∈pr,Yo.Zw r.k r.n=true):DnF pr (Yf k n) dn:=by
 have Z:ss.Nodup:=yY.nodup_iff.2 (afa.2 gy);have e:dn=rI k n gs ss:=by rw[<-Cy] at Y;exact Y.uniq (wG (TK k n gs) (λnm r h=>(Ry D (Ts h)).1) ss Z)
 clear Y Cy;subst e;have A:∀g∈rI k n gs ss,g.2=(TK k n gs g.1).map RA/\TK k n gs g.1≠[]:=λg C=>by obtain⟨nm,J,rfl⟩:=ah.1 C;exact⟨rfl,by simpa using (apg.1 J).2⟩
 have Ce:∀nm,∀r∈(ofName nm pr).map RA,∀c∈r.1,c.right:=λnm r h=>by obtain⟨q,I,rfl⟩:=ah.1 h;exact hr q (Rx I)
 have hN:∀nm,Uz ((X0 gs nm).map RA):=λnm=>Ep (T nm) (Ce nm)
 refine⟨?_,λg C=> ?_,λg C=> ?_,λg C r h=> ?_,λg C r h=> ?_,λg C r h=> ?_,?_,λar har nm=> ?_⟩;·unfold rI;rw[akb];have:(ss.filter (λnm=>decide (TK k n gs nm≠[]))).map ((·.1)∘λnm=>(nm,(TK k n gs nm).map RA))=ss.filter (λnm=>decide (TK k n gs nm≠[])):=List.map_id'' (λ_=>rfl) _;rw[this];exact Z.filter _
 ·obtain⟨e1,e2⟩:=A g C;rw[e1];exact λh=>e2 (List.map_eq_nil_iff.1 h)
 ·obtain⟨e1,e2⟩:=A g C;obtain⟨r,hr⟩:=List.exists_mem_of_ne_nil _ e2;obtain⟨_,q,I,h2,_⟩:=Ry D (Ts hr);exact⟨q,I,h2⟩
 ·rw[(A g C).1] at h;obtain⟨q,I,rfl⟩:=ah.1 h;exact hN g.1 (RA q) (List.mem_map_of_mem (Ts I))
 ·rw[(A g C).1] at h;obtain⟨q,I,rfl⟩:=ah.1 h;obtain⟨_,q2,U,_,h3,h4,_⟩:=Ry D (Ts I);have:=(KL (ha q2 U)).1;rw[h3,h4] at this;exact this
 ·rw[(A g C).1] at h;obtain⟨q,I,rfl⟩:=ah.1 h;obtain⟨_,q2,U,_,_,_,h5⟩:=Ry D (Ts I);exact⟨q2,U,h5⟩
 ·unfold rI;rw[akb];refine aO (KF _ _ ss) (aO (BS _ (λnm=>(ofName nm pr).length) ss (λnm _=> ?_)) (O7 ss pr Z));show((TK k n gs nm).map RA).length<=_;rw[aac];have J:=Ea k n gs nm;have h2:=IV (T nm);rw[aac,aac] at h2;omega
 ·unfold rI
  have hs:(ZC ar ((TK k n gs nm).map RA)).getD (Yf k n)=(ZC ar ((ofName nm pr).map RA)).getD (Yf k n):=by have J:=KG (k:=k) (n:=n) (X0 gs nm).reverse;rw[axd] at J;have h2:=Jh (ar:=ar) J;have h3:=tN har (T nm) (Ce nm);show(ZC ar (((X0 gs nm).reverse.dropWhile (λr=>decide (r.k=k/\r.n=n))).reverse.map RA)).getD _=_;rw[h2];exact ax (λo:Option Nat=>o.getD (Yf k n)) h3
  by_cases hm:nm∈ss;·rw[(O6 (TK k n gs) nm ss).1 hm];exact hs
  ·rw[(O6 (TK k n gs) nm ss).2 hm];have h0:X0 gs nm=[]:=XV (λG hG e=>hm (yY.mem_iff.2 (ah.2 ⟨G,hG,e⟩)));have J:TK k n gs nm=[]:=by unfold TK;rw[h0];rfl
   rw[J] at hs;exact hs
end Go.Proofs.YtclgigmgbebhgaaGreatDoor
