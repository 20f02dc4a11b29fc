/- TopOther: part 13: TopRes11 TopRes12 TopRes13 TopRowP TopPl1. -/
import Derived.Deep.MidRow
import Derived.Test.YtclgigmgbebhgaaGreatDoorO11
import Derived.Test.YtclgigmgbebhgaaGreatDoorO12
set_option linter.unusedVariables false
set_option linter.unusedSimpArgs false
set_option maxRecDepth 100000
set_option maxHeartbeats 16000000
namespace Go.Proofs.YtclgigmgbebhgaaGreatDoor
open Tryz
open Go Go.Proofs Go.RowKit
@[go_sem] abbrev rp:Oper:=⟨some 39,.load 73 (.tmp 38),73,"resolve.go:134",#[⟨3,.data⟩],none⟩
@[go_sem] abbrev fL:Oper:=⟨some 43,.call {callee:=.value (.func 40),args:=#[.tmp 40,.tmp 42],argTypes:=#[3,53]},53,"resolve.go:134",#[⟨5,.data⟩,⟨7,.data⟩],none⟩
@[go_sem] abbrev fK:Oper:=⟨some 45,.build 119 #[(0,.tmp 43),(1,.tmp 44)],119,"resolve.go:134",#[⟨8,.data⟩,⟨9,.data⟩],none⟩
@[go_sem] abbrev rj:Oper:=⟨some 46,.buildSlice 73 1 #[(0,.tmp 45)],73,"resolve.go:134",#[⟨10,.data⟩],none⟩
@[go_sem] abbrev fJ:Oper:=⟨some 62,.load 75 (.tmp 61),75,"resolve.go:138",#[⟨7,.data⟩],none⟩
@[go_sem] abbrev fI:Oper:=⟨some 71,.buildSlice 75 1 #[(0,.tmp 70)],75,"resolve.go:138",#[⟨16,.data⟩],none⟩
def Y6(x:Bool)(d:Nat)(num:Nat->Int)(rs:List Z3)(a:Nat):List Xo:=
 if num a<0 then [] else if a=1/\x=false then [] else if Yu a d rs=[] then [] else [(whole a (num a).toNat,Yu a d rs)]
def Nd(x:Bool)(d:Nat)(num:Nat->Int)(rs:List Z3)(E:Nat->List Xo)(i:Nat):Nat->List Xo:=λb=>if b<i then E b++Y6 x d num rs b else E b
def X5(Yv sub:Int)(rs:List Z3)(m:Nat):List (Nat×Nat):=if Yv=(m:Int)+1 then [(sub.toNat,(rs[0]?.map (·.2)).getD 0)] else []
section
variable {lo P:Nat} {W W':World} {d:Nat} {x:Bool} {ve vs:Nat->Value} {E E':Nat->List Xo} {S S':Nat->List (Nat×Nat)}
theorem YA.congr(h:YA lo P W d x ve vs E S)(A:∀a,a<5->E a=E' a)(hS:∀m,m<2->S m=S' m):YA lo P W d x ve vs E' S':=
 ⟨h.blk,h.lw,λa ha=>by rw[<-A a ha];exact h.O3 a ha,λm hm=>by rw[<-hS m hm];exact h.subs m hm,h.mN,h.mM⟩
theorem Nc{num:Nat->Int}{rs:List Z3}{i:Nat}(A:Y6 x d num rs i=[]):∀a,a<5->Nd x d num rs E i a=Nd x d num rs E (i+1) a:=λa _=>by
 unfold Nd;by_cases h:a<i;·rw[aG h,aG jO]
 ·rw[aN h];by_cases e:a=i;·subst e;rw[aG jO,A,ade]
  ·rw[aN jO]
theorem ri{num:Nat->Int}{rs:List Z3}{i:Nat}{t:Xo}(A:Y6 x d num rs i=[t]):∀a,a<5->Og (Nd x d num rs E i) i (Nd x d num rs E i i++[t]) a=Nd x d num rs E (i+1) a:=λa _=>by
 by_cases e:a=i;·subst e;rw[XV];unfold Nd;rw[aN jO,aG jO,A]
 ·rw[X9 _ _ e];unfold Nd;by_cases h:a<i;·rw[aG h,aG jO]
  ·rw[aN h,aN jO]
end
def bL(lo P:Nat)(d:Nat)(x:Bool)(E:Nat->List Xo)(S:Nat->List (Nat×Nat))(w w':World):Prop:=∃ve' vs',YA lo P w' d x ve' vs' E S/\Kept lo P w w'
theorem vR{a:Nat}{z:Int}(h:0<=z):Kq (a:Int) z=((whole a z.toNat:Nat):Int):=by
 unfold Kq whole;by_cases e:a=1;·rw[aG jO,aG e];unfold V1;omega
 ·rw[aN jO,aN e];omega
theorem kx(y:Z4.Z2){a:Nat}(ha:a<5):(#[Value.string y.name,.int .i64 y.n0,.int .i64 y.n1,.int .i64 y.n2,.int .i64 y.n3,.int .i64 y.n4,.int .i64 y.Yv,.int .i64 y.sub]:Array Value)[1+a]? =some (.int .i64 (y.num a)):=by
 rcases (show a=0\/a=1\/a=2\/a=3\/a=4 from jO) with rfl|rfl|rfl|rfl|rfl<;>rfl
theorem rh{lo PN PL L:Nat}{ra:Option Addr}{rc:Nat}{rs:List Z3}{us:List Value}{k n:Int}{x:Bool}{nv:Value}{d:Nat}{ve vs:Nat->Value}{E:Nat->List Xo}{S:Nat->List (Nat×Nat)}(y:Z4.Z2)(hL:rs.length=L)(h1:1<=L)(Xl:L<=1000)(hcs:∀r∈rs,r.1.length<=1000/\∀c∈r.1,c.m<Yf/\c.v<Yf)(hy:∀a,a<5->y.num a<1073741824)
 (Cj:0<=y.Yv) (mW:y.Yv<=2) (hs0:0<=y.sub) (hs1:y.sub<4294967296) (hE:∀a,a<5->(E a).length<=1000000) (hS:∀m,m<2->(S m).length<=1000000) (w:World) (hq:Yk lo w (.slice ra L rc) rs us) (hn:Z7 w PN VZ #[.int .i64 k,.int .i64 n,.bool x,nv]) (hp:YA lo PL w d x ve vs E S):
 Calls prog 38 #[y.val,.slice ra L rc,.pointer (some ⟨PN,0,none⟩),.pointer (some ⟨PL,0,none⟩)] w λe w'=>e=.returned (.tuple #[])/\bL lo PL d x (λa=>E a++Y6 x d y.num rs a) (λm=>S m++X5 y.Yv y.sub rs m) w w':=by
 have hb1:=Yl w (.cells #[.string y.name,.int .i64 y.n0,.int .i64 y.n1,.int .i64 y.n2,.int .i64 y.n3,.int .i64 y.n4,.int .i64 y.Yv,.int .i64 y.sub] 40);have HR:=aT (Z7.new w 40 #[.string y.name,.int .i64 y.n0,.int .i64 y.n1,.int .i64 y.n2,.int .i64 y.n3,.int .i64 y.n4,.int .i64 y.Yv,.int .i64 y.sub]);have HQ:=aT (hq.Zs hb1);have HN:=aT (hn.below hb1 hn.lt);have kv:=aT (hp.Zs hb1);have HK0:=aT (Kept.Ng (P:=PL) hp.lt hb1);have Nb:lo<=w.heap.size:=hp.lt;have HL:=aT hL;have HC:=aT hcs;have HY:=aT hy;have HEl:=aT hE;have HSl:=aT hS;clear hq hn hp hb1 hL hcs hy hE hS;unfold Z4.Z2.val;go_enter func38,ntmps38;go_upto_region 2 with fail;generalize w.alloc (.cells #[.string y.name,.int .i64 y.n0,.int .i64 y.n1,.int .i64 y.n2,.int .i64 y.n3,.int .i64 y.n4,.int .i64 y.Yv,.int .i64 y.sub] 40)=w1 at*;obtain⟨PR,hPR⟩:=jX w.heap.size;rw[hPR] at HR ⊢;clear hPR;go_loopg [9] 6 (λgg iv wr=>∃(i:Nat) (D:Nat->Value),i<=5/\5-i<gg/\iv=.int .i64 (i:Int)/\Hid (YA lo PL wr d x D vs (Nd x d y.num rs E i) S)/\Hid (Kept lo PL w1 wr));case atStart=>exact⟨0,ve,jO,jO,rfl,kv.out.congr (λa _=>by unfold Nd;rw[aN jO]) (λ_ _=>rfl),Kept.refl _ _ _⟩
 case round=>
  obtain⟨i,D,hi5,VP,rfl,HP,HK⟩:=hrel;have yU:=jZ i;have Jz:=jW i;by_cases hlt:i<5
  ·have Y8:(i:Int)<5:=by omega
   have hRw:=HK.out.keep _ _ _ HR.out jD jD jD;have pr:=hRw.cell (1+i);rw[kx y hlt] at pr;have pn:=(HK.out.keep _ _ _ HN.out jD jD jD).e2;have hyz:=HY.out i hlt;obtain⟨z,hz⟩:=jX (y.num i);rw[hz] at pr hyz;have HZ:=aT hz;clear hz hRw;by_cases ai3:z<0
   ·have bK:Hid (Y6 x d y.num rs i=[]):=by
     show _=_;unfold Y6;rw[aG (by rw[HZ.out];exact ai3)]
    have Z:=aT (HP.out.congr (Nc bK.out) (λ_ _=>rfl));go_wp2_with fail;go_roundg (5-i);case measure=>omega
    case rel=>exact⟨i+1,D,jO,jO,by go_num,Z,HK⟩
   ·have hz0:0<=z:=by omega
    by_cases hx:i=1/\x=false
    ·have bK:Hid (Y6 x d y.num rs i=[]):=by
      show _=_;unfold Y6;rw[HZ.out,aN ai3,aG hx]
     have Z:=aT (HP.out.congr (Nc bK.out) (λ_ _=>rfl));have sX:((i:Int) == 1)=true:=by rw[ahd];omega
     rw[hx.2] at pn;clear hx;go_wp2_with fail;go_roundg (5-i);case measure=>omega
     case rel=>exact⟨i+1,D,jO,jO,by go_num,Z,HK⟩
    ·have HX:=aT hx;clear hx;go_upto_region 5 with fail;go_cut [26] from 10 to 50 (λs wx=>s=.bool false/\wr=wx)
     case first=>
      by_cases hi:i=1
      ·have sX:((i:Int) == 1)=true:=by rw[ahd];omega
       have fH:x=true:=by cases x with|true=>rfl|false=>exact absurd ⟨hi,rfl⟩ HX.out
       rw[fH] at pn;clear fH hi;go_wp2_with fail;go_meet;exact⟨rfl,rfl⟩
      ·have sX:((i:Int) == 1)=false:=by rw[ae];omega
       clear hi;go_wp2_with fail;go_meet;exact⟨rfl,rfl⟩
     case rest=>
      obtain⟨rfl,rfl⟩:=hcut;clear pr pn;have HS:=aT (rS (a:=i) (d:=d) HL.out Xl HC.out wr (HK.out.Oh HQ.out).rules (aR _));have c0:wr.cell? ⟨PL,0,none⟩=some (.int .u32 d):=HP.out.blk.cell 0;go_wp2_with fail;refine HS.out.mono ?_;rintro e w2 ⟨v,us2,rfl,T,hlen,hb⟩;have Z:=aT (HP.out.Zs hb);have bJ:=aT (HK.out.trans (Kept.Ng (aO Nb (aO HK0.out.size HK.out.size)) hb));have fY:=aT (T.mono HP.out.lt);have HLn:=aT hlen;have HZ2:Hid (Y6 x d y.num rs i=if Yu i d rs=[] then [] else [(whole i z.toNat,Yu i d rs)]):=by show _=_;unfold Y6;rw[HZ.out,aN (show ¬z<0 from jO),aN HX.out]
      obtain⟨oa,oc,rfl⟩:=Z1 T.row;obtain⟨own,hown⟩:∃o,Yu i d rs=o:=⟨_,rfl⟩;rw[hown] at HZ2 HLn fY ⊢;clear T hlen hb HS c0 hown HP HK;obtain⟨M,hM⟩:=jX own.length;rw[hM] at HLn fY ⊢;have HM:=aT hM;clear hM;by_cases h0:M=0
      ·have bK:Hid (Y6 x d y.num rs i=[]):=by
        show _=_;rw[HZ2.out,aG (ahf.1 (HM.out.trans h0))]
       have Gs:=aT (Z.out.congr (Nc bK.out) (λ_ _=>rfl));subst h0;go_wp2_with fail;go_roundg (5-i);case measure=>omega
       case rel=>exact⟨i+1,D,jO,jO,by go_num,Gs,bJ⟩
      ·have hM0:0<M:=by omega
       have lX:(0:Int)<(M:Int):=jO;have hM2:decide (0<M)=true:=adb hM0;have hM3:decide ((0:Int)<(M:Int))=true:=adb lX;obtain⟨i0,XX,SC,Vo,TD⟩:=RP kC;have hne:own≠[]:=λe=>h0 (by rw[<-HM.out,e];rfl)
       obtain⟨wn,hwn⟩:∃n,whole i z.toNat=n:=⟨_,rfl⟩;have HWh:=aT (λW=>vS (i:Int) z hz0 hyz W);rw[vR hz0,hwn] at HWh;have bK:Hid (Y6 x d y.num rs i=[(wn,own)]):=by show _=_;rw[HZ2.out,aN hne,hwn]
       clear hne hwn HZ2;have iwz:IntKind.u32.wrap z=z:=by rw[axe];omega
       obtain⟨es,he,hE⟩:=Z.out.O3 i hlt;obtain⟨K,A⟩:=jX es.length;have hKl:K<=1000000:=by
        have h2:=aq List.length he;rw[aad,A] at h2;have h3:Nd x d y.num rs E i i=E i:=by unfold Nd;rw[aN jO]
        rw[h3] at h2;rw[h2];exact HEl.out i hlt
       obtain⟨ea,Y,U⟩:∃ea Y,D i=.slice ea K Y:=by obtain⟨ea,Y,e⟩:=Z1 hE.row;exact⟨ea,Y,by rw[e,A]⟩
       have b4:Below w2.heap.size w2 (w2.drew.alloc (.cells #[.int .u32 wn,.slice oa M oc] Oy)):=(aH _ w2).drew.alloc (aR _) _;have I:=aT (Z.out.Zs b4);have lf:=aT (bJ.out.trans (Kept.Ng Z.out.lt b4));have BB:=aT (fY.out.Zs b4);have HE4:Hid (kz lo (w2.drew.alloc (.cells #[.int .u32 wn,.slice oa M oc] Oy)) (D i) es):=⟨ZE hE.row b4,λy hy=>(hE.rs y hy).Zs b4⟩;have yT:Hid ((w2.drew.alloc (.cells #[.int .u32 wn,.slice oa M oc] Oy)).ownsRow lo Oy 2 (.slice ea K Y) K (es.flatMap Jq)):=by have h:=HE4.out.row;rw[U,A] at h;exact h
       have rf:=aT U;have Hes:=aT he;have HKe:=aT A;have c39:w2.drew.cell? ⟨PL,2+i,none⟩=some (.slice ea K Y):=by have h:=Z.out.blk.cell (2+i);rw[Lq _ _ _ _ hlt,U] at h;exact h
       have c40:(w2.drew.alloc (.cells #[.int .u32 wn,.slice oa M oc] Oy)).cell? ⟨PL,2+i,none⟩=some (.slice ea K Y):=by have h:=I.out.blk.cell (2+i);rw[Lq _ _ _ _ hlt,U] at h;exact h
       have c37:w2.cell? ⟨PL,2+i,none⟩=some (.slice ea K Y):=c39;have c38:(w2.alloc (.cells #[.int .u32 wn,.slice oa M oc] Oy)).cell? ⟨PL,2+i,none⟩=some (.slice ea K Y):=c40;clear b4 hE he A U;go_upto_region 8 with fail;refine akd (S:=λ_=>True) jK (trivial) (λhHeld=> ?_);refine jT 0 ⟨some 35,.move (.tmp 6),3,"resolve.go:134",#[],none⟩ ?_;try simp only[Act.put,aS,aP,aQ]
       refine jT 1 ⟨some 36,.move (.tmp 6),3,"resolve.go:134",#[],none⟩ ?_;try simp only[Act.put,aS,aP,aQ]
       refine jT 2 ⟨some 37,.fieldAddr 78 (.tmp 3) 2,0,"resolve.go:134",#[],none⟩ ?_;try simp only[Act.put,aS,aP,aQ]
       refine jT 3 ⟨some 38,.indexAddr 74 (.tmp 37) (.tmp 36),0,"resolve.go:134",#[⟨2,.data⟩,⟨1,.data⟩],none⟩ ?_;try simp only[Act.put,aS,aP,aQ]
       refine jT 5 ⟨some 40,.move (.tmp 6),3,"resolve.go:134",#[],none⟩ ?_;try simp only[Act.put,aS,aP,aQ]
       refine jT 6 ⟨some 41,.move (.tmp 7),3,"resolve.go:134",#[],none⟩ ?_;try simp only[Act.put,aS,aP,aQ]
       refine jT 7 ⟨some 42,.convert 3 53 (.tmp 41),53,"resolve.go:134",#[⟨6,.data⟩],none⟩ ?_;try simp only[Act.put,aS,aP,aQ]
       refine jT 9 ⟨some 44,.move (.tmp 8),115,"resolve.go:134",#[],none⟩ ?_;try simp only[Act.put,aS,aP,aQ]
       refine jT 13 ⟨some 48,.fieldAddr 78 (.tmp 3) 2,0,"resolve.go:134",#[],none⟩ ?_;try simp only[Act.put,aS,aP,aQ]
       refine aaf (rs:=[4,8]) jK jS ?_;refine ag (o:=rp) rfl (λC A=> ?aw0) (ag (o:=fL) rfl (λC A=> ?aw1) aab)
       case' aw0=>
        go_simp;refine A.out _ _ hHeld (λhHeld=> ?_);clear A C;try simp only[Act.put,aS,aP,aQ]
        refine aaf (rs:=[8]) jK jS ?_;refine ag (o:=fL) rfl (λC A=> ?aH6) aab;go_simp;refine(HWh.out _).mono ?_;rintro e w7 ⟨rfl,rfl⟩;refine A.out _ _ (trivial) (λhHeld=> ?_);clear A C;try simp only[Act.put,aS,aP,aQ]
        refine jT 10 fK ?_;try simp only[Act.put,aS,aP,aQ]
        refine aaf (rs:=[11]) jK jS ?_;refine ag (o:=rj) rfl (λC A=> ?aH7) aab;go_simp;refine A.out _ _ (trivial) (λhHeld=> ?_);clear A C;try simp only[Act.put,aS,aP,aQ]
       case' aw1=>
        go_simp;refine(HWh.out _).mono ?_;rintro e w7 ⟨rfl,rfl⟩;refine A.out _ _ (trivial) (λhHeld=> ?_);clear A C;try simp only[Act.put,aS,aP,aQ]
        refine jT 10 fK ?_;try simp only[Act.put,aS,aP,aQ]
        refine aaf (rs:=[4,11]) jK jS ?_;refine ag (o:=rp) rfl (λC A=> ?aw3) (ag (o:=rj) rfl (λC A=> ?aw4) aab)
       case' aw3=>
        go_simp;refine A.out _ _ hHeld (λhHeld=> ?_);clear A C;try simp only[Act.put,aS,aP,aQ]
        refine aaf (rs:=[11]) jK jS ?_;refine ag (o:=rj) rfl (λC A=> ?aH8) aab;go_simp;refine A.out _ _ (trivial) (λhHeld=> ?_);clear A C;try simp only[Act.put,aS,aP,aQ]
       case' aw4=>
        go_simp;refine A.out _ _ (trivial) (λhHeld=> ?_);clear A C;try simp only[Act.put,aS,aP,aQ]
        refine aaf (rs:=[4]) jK jS ?_;refine ag (o:=rp) rfl (λC A=> ?aH9) aab;go_simp;refine A.out _ _ hHeld (λhHeld=> ?_);clear A C;try simp only[Act.put,aS,aP,aQ]
       all_goals (
        refine aaf (rs:=[12]) jK jS ?_;refine ag (o:=⟨some 47,.call {callee:=.builtin .append,args:=#[.tmp 39,.tmp 46],argTypes:=#[73,73]},73,"resolve.go:134",#[⟨4,.data⟩,⟨11,.data⟩,⟨8,.chain⟩],none⟩) rfl (λC A=> ?_) aab;refine step_append_lies _ rfl _ _ 73 rfl lo Oy i0 (.agg #[.int .u32 0,.slice none 0 0]) 2 32 underlying73 XX SC Vo TD rfl jD (.slice ea K Y) K (es.flatMap Jq) rfl yT.out ⟨w2.heap.size,0,none⟩ 1 1 [.int .u32 wn,.slice oa M oc] rfl rfl (World.news_of_block (Z7.new w2.drew _ _)) (by simp[Value.oneCell']) jD (by unfold maxLen;omega) jO I.out.lt _ rfl ?_;intro gb cap w8 J LG Kp ku;have bI:=I.out.blk.kept LG (λe=>Ve yT.out I.out.blk jD e.symm);have c8:=bI.cell (2+i);rw[Lq _ _ _ _ hlt] at c8;have f8:=bI.frozen (2+i);have DC:=aT LG;have kI:=aT Kp;have Im:=aT J;clear LG Kp J bI;refine A.out _ _ (trivial) (λhHeld=> ?_);clear A C;try simp only[Act.put,aS,aP,aQ]
        refine jT 14 ⟨some 49,.indexAddr 74 (.tmp 48) (.tmp 35),0,"resolve.go:134",#[⟨13,.data⟩,⟨0,.data⟩,⟨0,.phase⟩,⟨1,.phase⟩,⟨2,.phase⟩,⟨3,.phase⟩,⟨4,.phase⟩,⟨5,.phase⟩,⟨6,.phase⟩,⟨7,.phase⟩,⟨8,.phase⟩,⟨9,.phase⟩,⟨10,.phase⟩,⟨11,.phase⟩,⟨12,.phase⟩],none⟩ ?_;try simp only[Act.put,aS,aP,aQ]
        refine aaf (rs:=[15]) jK jS ?_;refine ag (o:=⟨none,.store 73 (.tmp 49) (.tmp 47),0,"resolve.go:134",#[⟨14,.data⟩,⟨12,.data⟩,⟨12,.chain⟩,⟨0,.phase⟩,⟨1,.phase⟩,⟨2,.phase⟩,⟨3,.phase⟩,⟨4,.phase⟩,⟨5,.phase⟩,⟨6,.phase⟩,⟨7,.phase⟩,⟨8,.phase⟩,⟨9,.phase⟩,⟨10,.phase⟩,⟨11,.phase⟩,⟨12,.phase⟩],none⟩) rfl (λC A=> ?_) aab;go_simp;refine A.out _ _ (trivial) (λhHeld=> ?_);clear A C;try simp only[Act.put,aS,aP,aQ]
        refine ama jK ?_ _)
       all_goals (
        have HPP:=aT (I.out.av8 hlt BB.out (by rw[rf.out];exact DC.out) (n:=wn) rfl Hes.out HE4.out (by rw[HKe.out];exact Im.out) (by rw[rf.out];exact kI.out.imp (λe=>e.symm) (λe=>by rw[e];rfl)));have HP9:=aT (HPP.out.1.congr (ri bK.out) (λ_ _=>rfl));have HK9:=aT (lf.out.trans HPP.out.2);go_wp2_with fail;go_roundg (5-i)
        (case measure=>omega)
        (case rel=>exact⟨i+1,_,jO,jO,by go_num,HP9,HK9⟩))
  ·obtain rfl:i=5:=by omega
   have Y8:¬((5:Nat):Int)<5:=jO;have Cf:Hid (YA lo PL wr d x D vs (λa=>E a++Y6 x d y.num rs a) S):=HP.out.congr (λa ha=>by unfold Nd;rw[aG ha]) (λ_ _=>rfl);have hRw:=HK.out.keep _ _ _ HR.out jD jD jD;obtain⟨_,_,_,_,_,_,p6,p7⟩:=hRw.q8;have HKw:=aT (HK0.out.trans HK.out);obtain⟨mx,hmx⟩:=jX y.Yv;obtain⟨sb,hsb⟩:=jX y.sub;rw[hmx] at p6 Cj mW;rw[hsb] at p7 hs0 hs1;have HMX:=aT hmx;have HSB:=aT hsb;clear hmx hsb hRw HP;by_cases hz:mx=0
   ·subst hz;go_wp2_with fail;go_end0
    have HPF:Hid (YA lo PL wr d x D vs (λa=>E a++Y6 x d y.num rs a) (λb=>S b++X5 y.Yv y.sub rs b)):=Cf.out.congr (λ_ _=>rfl) (λm _=>by unfold X5;rw[HMX.out,aN jO,ade])
    exact⟨rfl,D,vs,HPF.out,HKw.out⟩
   ·obtain⟨m,hm⟩:∃m:Nat,mx=(m:Int)+1:=⟨(mx-1).toNat,jO⟩;have Jw:m<2:=jO;obtain⟨sn,hsn⟩:∃sn:Nat,sb=(sn:Int):=⟨sb.toNat,jO⟩;subst hm hsn;obtain⟨i0,XX,SC,Vo,TD⟩:=RP kA;have aI0:(0:Int)<(m:Int)+1:=jO;have iwm:IntKind.i64.wrap ((m:Int)+1-1)=(m:Int):=by rw[aJ _ jO];omega
    have aI1:IntKind.i64.wrap (m:Int)=(m:Int):=aJ _ jO;have iws:IntKind.u32.wrap (sn:Int)=(sn:Int):=by rw[axe];omega
    have m0':=jZ m;have m2':(m:Int)<2:=jO;obtain⟨r,hr⟩:∃r,rs[0]? =some r:=⟨_,aM (by rw[HL.out];exact h1)⟩;obtain⟨g,u,hra,hg,_,hu,y0,y1⟩:=(HK.out.Oh HQ.out).cell hr;subst hra;have hL0:(0:Int)<(L:Int):=jO;have hLn:0<L:=jO;have hLd:decide (0<L)=true:=adb hLn;have hLz:decide ((0:Int)<(L:Int))=true:=adb hL0;have y1:wr.cell? ⟨g,1,none⟩=some (.int .u32 r.2):=y1;have HSt:Hid (X5 y.Yv y.sub rs m=[(sn,r.2)]):=by show _=_;unfold X5;rw[HMX.out,HSB.out,aG rfl,hr];rfl
    have Uj:Hid (∀b,b≠m->X5 y.Yv y.sub rs b=[]):=λb hb=>by unfold X5;rw[HMX.out,aN jO]
    have kE:=hr;clear hr hu y0;obtain⟨rd,hrd⟩:=jX r.2;rw[hrd] at y1 HSt;have ai4:=hrd;clear hrd;have NG:Hid (∀W:World,Kept lo PL w1 W->W.cell? ⟨PR,6,none⟩=some (.int .i64 ((m:Int)+1))/\W.cell? ⟨PR,7,none⟩=some (.int .i64 sn)/\W.cell? ⟨g,1,none⟩=some (.int .u32 rd)):=λW hW=>by have hR8:=hW.keep _ _ _ HR.out jD jD jD;refine⟨(hR8.cell 6).trans (by rw[<-HMX.out];rfl),(hR8.cell 7).trans (by rw[<-HSB.out];rfl),?_⟩;obtain⟨g2,u2,e2,_,_,_,_,z1⟩:=(hW.Oh HQ.out).cell kE;cases e2;rw[<-ai4];exact z1
    clear kE ai4;obtain⟨K,A⟩:=jX ((S m).length);have hKl:K<=1000000:=by rw[<-A];exact HSl.out m Jw
    have T:wr.ownsRow lo Ot 2 (vs m) (S m).length ((S m).flatMap encS):=Cf.out.subs m Jw;obtain⟨ea,Y,U⟩:∃ea Y,vs m=.slice ea K Y:=by obtain⟨ea,Y,e⟩:=Z1 T;exact⟨ea,Y,by rw[e,A]⟩
    have b4:Below wr.heap.size wr (wr.drew.alloc (.cells #[.int .u32 sn,.int .u32 rd] Ot)):=(aH _ wr).drew.alloc (aR _) _;have I:=aT (Cf.out.Zs b4);have lf:=aT (HKw.out.trans (Kept.Ng Cf.out.lt b4));have yT:Hid ((wr.drew.alloc (.cells #[.int .u32 sn,.int .u32 rd] Ot)).ownsRow lo Ot 2 (.slice ea K Y) K ((S m).flatMap encS)):=by have h:=ZE T b4;rw[U,A] at h;exact h
    have rf:=aT U;have HKe:=aT A;have c37:wr.cell? ⟨PL,7+m,none⟩=some (.slice ea K Y):=by have h:=Cf.out.blk.cell (7+m);rw[Lp _ _ _ _ Jw,U] at h;exact h
    have c38:(wr.alloc (.cells #[.int .u32 sn,.int .u32 rd] Ot)).cell? ⟨PL,7+m,none⟩=some (.slice ea K Y):=by have h:=I.out.blk.cell (7+m);rw[Lp _ _ _ _ Jw,U] at h;exact h
    have kd:Kept lo PL w1 wr.drew:=HK.out.trans (Kept.drew Cf.out.lt);have ka:Kept lo PL w1 (wr.drew.alloc (.cells #[.int .u32 sn,.int .u32 rd] Ot)):=HK.out.trans (Kept.Ng Cf.out.lt b4);clear b4 T A U;go_upto_region 11 with fail;refine akd (S:=λw'=>w'.cell? ⟨PR,6,none⟩=some (.int .i64 ((m:Int)+1))/\w'.cell? ⟨PR,7,none⟩=some (.int .i64 sn)/\w'.cell? ⟨g,1,none⟩=some (.int .u32 rd)) jK (NG.out _ (by first|(with_reducible assumption)|(with_reducible exact kd)|(with_reducible exact ka)|exact kd|exact ka)) (λhHeld=> ?_);refine jT 0 ⟨some 54,.fieldAddr 40 (.tmp 4) 2,0,"resolve.go:138",#[],none⟩ ?_;try simp only[Act.put,aS,aP,aQ]
    refine jT 1 ⟨some 55,.load 3 (.tmp 54),3,"resolve.go:138",#[⟨0,.data⟩],none⟩ ?_;try simp only[Act.put,aS,aP,aQ]
    refine jT 2 ⟨some 56,.binOp .sub 3 (.tmp 55) (.const (.int .i64 1)) 3,3,"resolve.go:138",#[⟨1,.data⟩],none⟩ ?_;try simp only[Act.put,aS,aP,aQ]
    refine jT 3 ⟨some 57,.fieldAddr 40 (.tmp 4) 2,0,"resolve.go:138",#[],none⟩ ?_;try simp only[Act.put,aS,aP,aQ]
    refine jT 4 ⟨some 58,.load 3 (.tmp 57),3,"resolve.go:138",#[⟨3,.data⟩],none⟩ ?_;try simp only[Act.put,aS,aP,aQ]
    refine jT 5 ⟨some 59,.binOp .sub 3 (.tmp 58) (.const (.int .i64 1)) 3,3,"resolve.go:138",#[⟨4,.data⟩],none⟩ ?_;try simp only[Act.put,aS,aP,aQ]
    refine jT 6 ⟨some 60,.fieldAddr 78 (.tmp 3) 3,0,"resolve.go:138",#[],none⟩ ?_;try simp only[Act.put,aS,aP,aQ]
    refine jT 7 ⟨some 61,.indexAddr 76 (.tmp 60) (.tmp 59),0,"resolve.go:138",#[⟨6,.data⟩,⟨5,.data⟩],none⟩ ?_;try simp only[Act.put,aS,aP,aQ]
    refine jT 9 ⟨some 63,.fieldAddr 40 (.tmp 4) 3,0,"resolve.go:138",#[],none⟩ ?_;try simp only[Act.put,aS,aP,aQ]
    refine jT 10 ⟨some 64,.load 3 (.tmp 63),3,"resolve.go:138",#[⟨9,.data⟩],none⟩ ?_;try simp only[Act.put,aS,aP,aQ]
    refine jT 11 ⟨some 65,.convert 3 53 (.tmp 64),53,"resolve.go:138",#[⟨10,.data⟩],none⟩ ?_;try simp only[Act.put,aS,aP,aQ]
    refine jT 12 ⟨some 66,.move (.tmp 1),115,"resolve.go:138",#[],none⟩ ?_;try simp only[Act.put,aS,aP,aQ]
    refine jT 13 ⟨some 67,.indexAddr 115 (.tmp 66) (.const (.int .i64 0)),0,"resolve.go:138",#[⟨12,.data⟩],none⟩ ?_;try simp only[Act.put,aS,aP,aQ]
    refine jT 14 ⟨some 68,.fieldAddr 121 (.tmp 67) 1,0,"resolve.go:138",#[⟨13,.data⟩],none⟩ ?_;try simp only[Act.put,aS,aP,aQ]
    refine jT 15 ⟨some 69,.load 53 (.tmp 68),53,"resolve.go:138",#[⟨14,.data⟩],none⟩ ?_;try simp only[Act.put,aS,aP,aQ]
    refine jT 16 ⟨some 70,.build 123 #[(0,.tmp 65),(1,.tmp 69)],123,"resolve.go:138",#[⟨11,.data⟩,⟨15,.data⟩],none⟩ ?_;try simp only[Act.put,aS,aP,aQ]
    refine jT 19 ⟨some 73,.fieldAddr 78 (.tmp 3) 3,0,"resolve.go:138",#[],none⟩ ?_;try simp only[Act.put,aS,aP,aQ]
    refine aaf (rs:=[8,17]) jK jS ?_;refine ag (o:=fJ) rfl (λC A=> ?aw5) (ag (o:=fI) rfl (λC A=> ?aw6) aab)
    case' aw5=>
     go_simp;refine A.out _ _ hHeld (λhHeld=> ?_);clear A C;try simp only[Act.put,aS,aP,aQ]
     refine aaf (rs:=[17]) jK jS ?_;refine ag (o:=fI) rfl (λC A=> ?aI2) aab;go_simp;refine A.out _ _ (NG.out _ (by first|(with_reducible assumption)|(with_reducible exact kd)|(with_reducible exact ka)|exact kd|exact ka)) (λhHeld=> ?_);clear A C;try simp only[Act.put,aS,aP,aQ]
    case' aw6=>
     go_simp;refine A.out _ _ (NG.out _ (by first|(with_reducible assumption)|(with_reducible exact kd)|(with_reducible exact ka)|exact kd|exact ka)) (λhHeld=> ?_);clear A C;try simp only[Act.put,aS,aP,aQ]
     refine aaf (rs:=[8]) jK jS ?_;refine ag (o:=fJ) rfl (λC A=> ?aI3) aab;go_simp;refine A.out _ _ hHeld (λhHeld=> ?_);clear A C;try simp only[Act.put,aS,aP,aQ]
    all_goals (
     refine aaf (rs:=[18]) jK jS ?_;refine ag (o:=⟨some 72,.call {callee:=.builtin .append,args:=#[.tmp 62,.tmp 71],argTypes:=#[75,75]},75,"resolve.go:138",#[⟨8,.data⟩,⟨17,.data⟩],none⟩) rfl (λC A=> ?_) aab;refine step_append_lies _ rfl _ _ 75 rfl lo Ot i0 (.agg #[.int .u32 0,.int .u32 0]) 2 8 underlying75 XX SC Vo TD rfl jD (.slice ea K Y) K ((S m).flatMap encS) rfl yT.out ⟨wr.heap.size,0,none⟩ 1 1 [.int .u32 sn,.int .u32 rd] rfl rfl (World.news_of_block (Z7.new wr.drew _ _)) (by simp[Value.oneCell']) jD (by unfold maxLen;omega) jO I.out.lt _ rfl ?_;intro gb cap w8 J LG Kp ku;have HPP:=aT (I.out.av9 Jw (by rw[rf.out];exact LG) (n:=sn) (c:=rd) rfl (by rw[HKe.out];exact J) (by rw[rf.out];exact Kp.imp (λe=>e.symm) (λe=>by rw[e];rfl)));have k8:Kept lo PL w1 w8:=ka.trans (Kept.grown I.out.lt yT.out (.inr rfl) LG);have ks:=ka.trans HPP.out.2;have bI:=I.out.blk.kept LG (λe=>Ve yT.out I.out.blk jD e.symm);have c8:=bI.cell (7+m);rw[Lp _ _ _ _ Jw] at c8;have f8:=bI.frozen (7+m);clear LG Kp J bI;refine A.out _ _ (NG.out _ (by first|(with_reducible assumption)|(with_reducible exact kd)|(with_reducible exact ka)|exact kd|exact ka)) (λhHeld=> ?_);clear A C;try simp only[Act.put,aS,aP,aQ]
     refine jT 20 ⟨some 74,.indexAddr 76 (.tmp 73) (.tmp 56),0,"resolve.go:138",#[⟨19,.data⟩,⟨2,.data⟩,⟨0,.phase⟩,⟨1,.phase⟩,⟨2,.phase⟩,⟨3,.phase⟩,⟨4,.phase⟩,⟨5,.phase⟩,⟨6,.phase⟩,⟨7,.phase⟩,⟨8,.phase⟩,⟨9,.phase⟩,⟨10,.phase⟩,⟨11,.phase⟩,⟨12,.phase⟩,⟨13,.phase⟩,⟨14,.phase⟩,⟨15,.phase⟩,⟨16,.phase⟩,⟨17,.phase⟩,⟨18,.phase⟩],none⟩ ?_;try simp only[Act.put,aS,aP,aQ]
     refine aaf (rs:=[21]) jK jS ?_;refine ag (o:=⟨none,.store 75 (.tmp 74) (.tmp 72),0,"resolve.go:138",#[⟨20,.data⟩,⟨18,.data⟩,⟨18,.chain⟩,⟨0,.phase⟩,⟨1,.phase⟩,⟨2,.phase⟩,⟨3,.phase⟩,⟨4,.phase⟩,⟨5,.phase⟩,⟨6,.phase⟩,⟨7,.phase⟩,⟨8,.phase⟩,⟨9,.phase⟩,⟨10,.phase⟩,⟨11,.phase⟩,⟨12,.phase⟩,⟨13,.phase⟩,⟨14,.phase⟩,⟨15,.phase⟩,⟨16,.phase⟩,⟨17,.phase⟩,⟨18,.phase⟩],none⟩) rfl (λC A=> ?_) aab;go_simp;refine A.out _ _ (NG.out _ (by first|(with_reducible assumption)|(with_reducible exact kd)|(with_reducible exact ka)|exact kd|exact ka)) (λhHeld=> ?_);clear A C;try simp only[Act.put,aS,aP,aQ]
     refine ama jK ?_ _)
    all_goals (
     have HPF:Hid (YA lo PL _ d x D _ (λa=>E a++Y6 x d y.num rs a) (λb=>S b++X5 y.Yv y.sub rs b)):=HPP.out.1.congr (λ_ _=>rfl) (λb _=>by
      by_cases e:b=m;·subst e;rw[XV,HSt.out]
      ·rw[X9 _ _ e,Uj.out b e,ade])
     have HKF:=aT (lf.out.trans HPP.out.2);go_wp2_with fail;go_end0;exact⟨rfl,D,_,HPF.out,HKF.out⟩)
theorem QX{l:List Z4.Z2}(C:Z4.Zt l)(nm:ByteArray):(∀a,a<5->(YO l nm).num a<1073741824)/\0<=(YO l nm).Yv/\(YO l nm).Yv<=2/\0<=(YO l nm).sub/\(YO l nm).sub<4294967296:=by
 unfold YO;by_cases h:Z4.firstIdx (Z4.RI nm) l<0;·rw[aG h];refine⟨λa ha=> ?_,jD,jD,jD,jD⟩;rcases (show a=0\/a=1\/a=2\/a=3\/a=4 from jO) with rfl|rfl|rfl|rfl|rfl<;>decide
 ·rw[aN h];have A:(Z4.firstIdx (Z4.RI nm) l).toNat<l.length:=by rcases Z4.RJ (Z4.RI nm) l with e|⟨e1,e2⟩<;>omega
  obtain⟨_,_,⟨hr,hm⟩,_,_⟩:=Z4.fV (C _ A);obtain⟨m0,D,ms,mp⟩:=hm;refine⟨λa ha=> ?_,m0,D,?_,?_⟩;·have:=hr a ha;unfold Z4.Oo at this;omega
  ·by_cases e:(l[(Z4.firstIdx (Z4.RI nm) l).toNat]!).Yv=0
   ·rw[ms e]
    decide
   ·have:=mp jO;omega
  ·by_cases e:(l[(Z4.firstIdx (Z4.RI nm) l).toNat]!).Yv=0
   ·rw[ms e]
    decide
   ·have:=mp jO;omega
def QW(r:NR):Z3:=(r.cs,XR r.k r.n)
inductive Ur:List NR->List (ByteArray×List Z3)->Prop
 |nil:Ur [] []
 |more {a b:List NR} {nm:ByteArray} {out:List (ByteArray×List Z3)}:Ur a out->b≠[]->(∀r∈b,r.nm=nm)->(∀g,out.getLast? =some g->g.1≠nm)->Ur (a++b) (out++[(nm,b.map QW)])
theorem Ur.len{a:List NR}{out:List (ByteArray×List Z3)}(h:Ur a out):out.length<=a.length:=by
 induction h with
 |nil=>exact aR _
 | @more a b nm out _ hb _ _ A=>
   rw[ay,ay];have:b.length≠0:=λe=>hb (ahf.1 e)
   show out.length+1<=_;omega
section
variable (x:Bool) (d:Nat) (l:List Z4.Z2)
def Xx(dn:List (ByteArray×List Z3))(a:Nat):List Xo:=dn.flatMap λg=>Y6 x d (YO l g.1).num g.2 a
def WR(dn:List (ByteArray×List Z3))(m:Nat):List (Nat×Nat):=dn.flatMap λg=>X5 (YO l g.1).Yv (YO l g.1).sub g.2 m
theorem A7(dn:List (ByteArray×List Z3))(g:ByteArray×List Z3)(a:Nat):Xx x d l (dn++[g]) a=Xx x d l dn a++Y6 x d (YO l g.1).num g.2 a:=by
 unfold Xx;rw[acb,acd,asg,ade]
theorem A6(dn:List (ByteArray×List Z3))(g:ByteArray×List Z3)(m:Nat):WR l (dn++[g]) m=WR l dn m++X5 (YO l g.1).Yv (YO l g.1).sub g.2 m:=by
 unfold WR;rw[acb,acd,asg,ade]
theorem QV(dn:List (ByteArray×List Z3))(a:Nat):(Xx x d l dn a).length<=dn.length:=by
 induction dn with
 |nil=>exact aR _
 |cons g r A=>
  unfold Xx at*;rw[acd,ay,aj];have:(Y6 x d (YO l g.1).num g.2 a).length<=1:=by
   unfold Y6;split;·exact abc _
   ·split;·exact abc _
    ·split;·exact abc _
     ·exact aR _
  omega
theorem Vx(dn:List (ByteArray×List Z3))(m:Nat):(WR l dn m).length<=dn.length:=by
 induction dn with
 |nil=>exact aR _
 |cons g r A=>
  unfold WR at*;rw[acd,ay,aj];have:(X5 (YO l g.1).Yv (YO l g.1).sub g.2 m).length<=1:=by
   unfold X5;split;·exact aR _
   ·exact abc _
  omega
end
theorem TX.cell{lo:Nat}{W:World}{rs:List NR}{us:List Value}{a:Option Addr}{n c:Nat}(h:TX lo W (.slice a n c) rs us){i:Nat}{r:NR}(hr:rs[i]? =some r):∃g u,a=some ⟨g,0,none⟩/\g<W.heap.size/\us[i]? =some u/\W.cell? ⟨g,i*4,none⟩=some (.string r.nm)/\W.cell? ⟨g,i*4+1,none⟩=some (.int .i64 r.k)/\W.cell? ⟨g,i*4+2,none⟩=some (.int .i64 r.n)/\W.cell? ⟨g,i*4+3,none⟩=some u/\W.ownsRow lo TC 4 u r.cs.length (r.cs.flatMap cL):=by
 have A:=(au.1 hr).1;obtain⟨u,hu⟩:∃u,us[i]? =some u:=⟨_,aM (by rw[h.len];exact A)⟩;have hn:n=rs.length:=by obtain⟨a',Y,T⟩:=Z1 h.row;injection T
 subst hn;rcases h.row.2 with⟨e,U⟩|⟨g,cap,D,e,I,C,_⟩;·omega
 ·injection e with e1 _ e2;subst e1;have at_:∀j,j<4->W.cell? ⟨g,i*4+j,none⟩=(rC r u)[j]? :=λj J=>by rw[h.row.cellAt (i*4+j) jO,RN rs us i r u hr hu j J]
  exact⟨g,u,rfl,(aaa.1 C).1,hu,at_ 0 jD,at_ 1 jD,at_ 2 jD,at_ 3 jD,h.cs i u r hu hr⟩
theorem Yk.more{lo:Nat}{W W':World}{v:Value}{l:List Z3}{us:List Value}{x:Value}{cs:List Z5}{code gb cap:Nat}(h:Yk lo W v l us)(hx:W.ownsRow 0 TC 4 x cs.length (cs.flatMap cL))(T:W.grownBy W' v.ownBlock)(C:W'.ownsRow lo TQ 2 (.slice (some ⟨gb,0,none⟩) (l.length+1) cap) (l.length+1) (Xe l us++[x,.int .u32 code])):Yk lo W' (.slice (some ⟨gb,0,none⟩) (l.length+1) cap) (l++[(cs,code)]) (us++[x]):=by
 have A:∀{u:Value} {ds:List Z5},W.ownsRow 0 TC 4 u ds.length (ds.flatMap cL)->W'.ownsRow 0 TC 4 u ds.length (ds.flatMap cL):=λ{u ds} I=>by
  refine I.kept T ?_;cases hv:v.ownBlock with
  |none=>cases u.ownBlock<;>simp
  |some k=>
   obtain⟨U,Y⟩:=Xq h.row hv;exact .inr (Ve I Y jD)
 refine⟨?_,?_,λj u r hu hr=> ?_⟩;·rw[ay,ay,h.len];rfl
 ·rw[ay,O7 _ _ _ _ h.len];exact C
 ·by_cases J:j<l.length;·rw[abb (by rw[h.len];exact J)] at hu;rw[abb J] at hr;exact A (h.cs j u r hu hr)
  ·rw[aae (by rw[h.len];omega),h.len] at hu;rw[aae jO] at hr
   have D:j-l.length=0:=by have:=(au.1 hr).1;simp at this;omega
   rw[D] at hu hr;simp at hu hr;subst hu hr;exact A hx
def WQ:Array Value:=#[.int .u32 0,.bool false,.slice none 0 0,.slice none 0 0,.slice none 0 0,.slice none 0 0,.slice none 0 0,.slice none 0 0,.slice none 0 0]
structure LF(lo BN R PL:Nat)(k n:Int)(x:Bool)(nv:Value)(d:Nat)(l:List Z4.Z2)(w:World)(rn:List NR)(us:List Value)(dn:List (ByteArray×List Z3))(ve vs:Nat->Value)(W:World):Prop where
 hn:Z7 W BN VZ #[.int .i64 k,.int .i64 n,.bool x,nv]
 hr:Z7 W R Xy WQ
 rows:TX lo W nv rn us
 Na:YA lo PL W d x ve vs (Xx x d l dn) (WR l dn)
 Zs:Below lo w W
 lw:lo<=W.heap.size
 ne:R≠PL
 lr:lo<=R
section
variable {lo BN R PL:Nat} {k n:Int} {x:Bool} {nv:Value} {d:Nat} {l:List Z4.Z2} {w W W':World} {rn:List NR} {us:List Value} {dn:List (ByteArray×List Z3)} {ve vs:Nat->Value}
theorem LF.to(h:LF lo BN R PL k n x nv d l w rn us dn ve vs W)(hb:Below W.heap.size W W'):LF lo BN R PL k n x nv d l w rn us dn ve vs W':=
 ⟨h.hn.below hb h.hn.lt,h.hr.below hb h.hr.lt,h.rows.Zs hb,h.Na.Zs hb,h.Zs.trans (hb.mono h.lw),aO h.lw hb.size,h.ne,h.lr⟩
theorem LF.kept{dn':List (ByteArray×List Z3)}{ve' vs':Nat->Value}(h:LF lo BN R PL k n x nv d l w rn us dn ve vs W)(hk:Kept lo PL W W')(hp:YA lo PL W' d x ve' vs' (Xx x d l dn') (WR l dn')):LF lo BN R PL k n x nv d l w rn us dn' ve' vs' W':=
 ⟨hk.keep _ _ _ h.hn jD jD jD,hk.yH _ _ h.hr h.ne,hk.YO h.rows,hp,h.Zs.trans hk.Zs,aO h.lw hk.size,h.ne,h.lr⟩
theorem LF.start{w5 Wf:World}(hn:Z7 w5 BN VZ #[.int .i64 k,.int .i64 n,.bool x,nv])(hr:Z7 w5 R Xy WQ)(C:TX lo w5 nv rn us)(hb:Below lo w w5)(A:lo<=w5.heap.size)(J:lo<=R)(D:Below w5.heap.size w5 Wf)(I:w5.heap.size<=PL)(blk:Z7 Wf PL Xy (Vf d x (λ_=>.slice none 0 0) (λ_=>.slice none 0 0))):
 LF lo BN R PL k n x nv d l w rn us [] (λ_=>.slice none 0 0) (λ_=>.slice none 0 0) Wf:=
 ⟨hn.below D hn.lt,hr.below D hr.lt,C.Zs D,⟨blk,aO A I,λa _=>⟨[],rfl,akg _ _ _ _,λy hy=>(by cases hy)⟩,λm _=>akg _ _ _ _,λa b _ _ _ k e=>(by cases e),λa b _ _ _ k e=>(by cases e)⟩,hb.trans (D.mono A),aO A D.size,λe=>(by have:=hr.lt;omega),J⟩
end
end Go.Proofs.YtclgigmgbebhgaaGreatDoor
namespace Go.Proofs.YtclgigmgbebhgaaGreatDoor
open Tryz
open Go Go.Proofs
theorem yF:V1=2 ^ 30:=jD
theorem bH{n:Nat}(h:n<V1):n &&& V1=0:=by
 apply Nat.eq_of_testBit_eq;intro i;rw[Nat.testBit_and,Nat.zero_testBit,yF,Nat.testBit_two_pow];by_cases e:30=i;·subst e;rw[Nat.testBit_lt_two_pow (show n<2 ^ 30 from h)];rfl
 ·rw[aee e,Bool.and_false]
theorem kt{n:Nat}(h:n<V1):(n+V1) &&& V1≠0:=by
 intro e;have e2:=aq (λk=>k.testBit 30) e;simp only[Nat.testBit_and,Nat.zero_testBit] at e2;rw[yF,Nat.testBit_two_pow,Nat.add_comm,Nat.testBit_two_pow_add_eq,Nat.testBit_lt_two_pow (show n<2 ^ 30 from h)] at e2;simp at e2
def XJ(a:Nat):Nat:=if a=2 then Pk else if a=3 then Pj else if a=4 then Ph else QN
structure Rz(p:YH)(gs:List O8)(s0 s1:List (Nat×Nat)):Prop where
 a0:UG p.Vy p.d gs s0 s1 0 p.p0
 a1:p.Vy=true->UG p.Vy p.d gs s0 s1 1 p.p1
 a1n:WJ p.p1
 a2:UG p.Vy p.d gs s0 s1 2 p.p2
 a3:UG p.Vy p.d gs s0 s1 3 p.p3
 a4:UG p.Vy p.d gs s0 s1 4 p.p4
 rules:∀g∈gs,Us g.rules
theorem Rz.ok{p:YH}{gs:List O8}{s0 s1:List (Nat×Nat)}(h:Rz p gs s0 s1):p.ok:=⟨h.a0.1,h.a1n,h.a2.1,h.a3.1,h.a4.1⟩
def bG(w:Nat->Nat)(Vy:Bool)(d a:Nat)(G:List Z3):Nat:=if a=1/\Vy=false then Zo else(Zy (Sq w (decide (a≠2))) G).getD d
def fG(gs:List O8)(a n:Nat)(G:List Z3):Prop:=(∃g∈gs,g.num a=n/\g.rules=G/\∀g'∈gs,g'.num a=n->g'=g)\/(G=[]/\∀g∈gs,g.num a≠n)
theorem qZ{w:Nat->Nat}(hw:GJ w){p:YH}{gs:List O8}{s0 s1:List (Nat×Nat)}(h:Rz p gs s0 s1){a n:Nat}{G:List Z3}(ha:a<5)(hn:n<V1)(C:a=2->n≠102/\n≠117)(J:fG gs a n G)(A:w 4=XJ a)(D:w 0=whole a n):
 Ev w p=bG w p.Vy p.d a G:=by
 unfold Ev bG;have T:n≠NONE:=by have:V1<NONE:=jD;omega
 match a,ha with
 |0,_=>
  have D:w 0=n:=D;rw[aG (show w 4=QN from A),D];unfold xy;rw[aN T,aN (by rw[bH hn];decide),aN jS];have:=RL hw h.a0 (λe=>jO) h.rules C J;exact this
 |1,_=>
  have D:w 0=n+V1:=D;rw[aG (show w 4=QN from A),D];unfold xy;have I:n+V1≠NONE:=by have:V1+V1<NONE:=jD;omega
  rw[aN I,aG (kt hn)];cases hx:p.Vy with
  |false=>rw[aG rfl,aG ⟨rfl,rfl⟩]
  |true=>
   rw[aN jD,aN jS];exact RL hw (h.a1 hx) (λ_=>hx) h.rules C J
 |2,_=>
  have D:w 0=n:=D;have A:w 4=Pk:=A;rw[aN (by rw[A];decide),aG A,D,aN jS];exact RL hw h.a2 (λe=>jO) h.rules C J
 |3,_=>
  have D:w 0=n:=D;have A:w 4=Pj:=A;rw[aN (by rw[A];decide),aN (by rw[A];decide),aG A,D,aN jS];exact RL hw h.a3 (λe=>jO) h.rules C J
 |4,_=>
  have D:w 0=n:=D;have A:w 4=Ph:=A;rw[aN (by rw[A];decide),aN (by rw[A];decide),aN (by rw[A];decide),aG A,D,aN jS];exact RL hw h.a4 (λe=>jO) h.rules C J
end Go.Proofs.YtclgigmgbebhgaaGreatDoor
namespace Go.Proofs.YtclgigmgbebhgaaGreatDoor
open Tryz
open Go Go.Proofs Go.RowKit
theorem Ur.last{a:List NR}{out:List (ByteArray×List Z3)}(h:Ur a out):(a=[]/\out=[])\/∃r g,a.getLast? =some r/\out.getLast? =some g/\g.1=r.nm:=by
 cases h with
 |nil=>exact .inl ⟨rfl,rfl⟩
 | @more a b nm out h hb hn hl=>
   have hz:b.getLast? =some (b.getLast hb):=aof hb;refine .inr ⟨b.getLast hb,(nm,b.map QW),?_,jS,(hn _ (axg hb)).symm⟩;rw[arf,hz];rfl
theorem A5{a1 b1 a2 b2:List NR}{nm:ByteArray}(e:a1++b1=a2++b2)(C:∀r∈b1,r.nm=nm)(J:∀r∈b2,r.nm=nm)(I:∀r,a1.getLast? =some r->r.nm≠nm)(D:∀r,a2.getLast? =some r->r.nm≠nm):a1=a2/\b1=b2:=by
 rcases List.append_eq_append_iff.1 e with⟨c,e1,e2⟩|⟨c,e1,e2⟩
 ·cases c with
  |nil=>simp at e1 e2;exact⟨e1.symm,e2⟩
  |cons x c=>
   have A:x::c≠[]:=jS;have hz:=aof A;have hm:(x::c).getLast A∈b1:=by rw[e2];exact abe.2 (.inl (axg A))
   exact absurd (C _ hm) (D _ (by rw[e1,arf,hz];rfl))
 ·cases c with
  |nil=>simp at e1 e2;exact⟨e1,e2.symm⟩
  |cons x c=>
   have A:x::c≠[]:=jS;have hz:=aof A;have hm:(x::c).getLast A∈b2:=by rw[e2];exact abe.2 (.inl (axg A))
   exact absurd (J _ hm) (I _ (by rw[e1,arf,hz];rfl))
theorem Ur.uniq{a:List NR}{o1:List (ByteArray×List Z3)}(h1:Ur a o1):∀{U:List (ByteArray×List Z3)},Ur a U->o1=U:=by
 induction h1 with
 |nil=>
  intro U I;rcases I.last with⟨_,e⟩|⟨r,_,e,_⟩;·exact e.symm
  ·simp at e
 | @more a1 Z D aI4 h1 A T hl1 ih=>
   intro U I;generalize hx:a1++Z=x at I;cases I with
   |nil=>exact absurd (List.append_eq_nil_iff.1 hx).2 A
   | @more a2 b2 Y aI5 I C J hl2=>
     have z1:=aof A;have z2:=aof C;have e1:(a1++Z).getLast? =some (Z.getLast A):=by rw[arf,z1];rfl
     have e2:(a2++b2).getLast? =some (b2.getLast C):=by rw[arf,z2];rfl
     rw[hx,e2] at e1;have e3:D=Y:=by rw[<-T _ (axg A),<-J _ (axg C),ax e1]
     subst e3;have la:∀{a:List NR} {o:List (ByteArray×List Z3)},Ur a o->(∀g,o.getLast? =some g->g.1≠D)->∀r,a.getLast? =some r->r.nm≠D:=λ{a o} h hl r hr=>by
      rcases h.last with⟨e,_⟩|⟨r',g,e1,e2,e3⟩;·rw[e] at hr;cases hr
      ·rw[e1] at hr;cases hr;rw[<-e3];exact hl g e2
     obtain⟨ea,eb⟩:=A5 hx T J (la h1 hl1) (la I hl2);subst ea eb;rw[ih I]
theorem vQ(f:ByteArray->List NR)(hf:∀nm,∀r∈f nm,r.nm=nm):∀(ns:List ByteArray),ns.Nodup->Ur (ns.flatMap f) ((ns.filter (λnm=>decide (f nm≠[]))).map λnm=>(nm,(f nm).map QW)):=by
 intro ns;have D:∀(k:Nat) (ns:List ByteArray),ns.length=k->ns.Nodup->Ur (ns.flatMap f) ((ns.filter (λnm=>decide (f nm≠[]))).map λnm=>(nm,(f nm).map QW)):=by
  intro k
  induction k with
  |zero=>
   intro ns e _;obtain rfl:=ahf.1 e;exact Ur.nil
  |succ k T=>
   intro ns e hd;have A:ns≠[]:=λh=>by rw[h] at e;cases e
   have e2:ns=ns.dropLast++[ns.getLast A]:=(ape A).symm;generalize ns.dropLast=q at e2;generalize ns.getLast A=nm at e2;subst e2;have J:=T q (by simpa using e) (aub.1 hd).1;have I:nm∉q:=λh=>(aub.1 hd).2.2 nm h nm jS rfl
   rw[acb,acd,asg,ade,ave,acf];by_cases C:f nm=[];·rw[C,ade,List.filter_cons_of_neg (by simp[C])];simpa using J
   ·rw[List.filter_cons_of_pos (by simp[C])];refine J.more C (hf nm) (λg U e=> ?_);have:=List.mem_of_getLast? U;obtain⟨m,hm,rfl⟩:=ai.1 this;have e:m=nm:=e;subst e;exact I (aqa.1 hm).1
 exact D ns.length ns rfl
theorem Ry{pr:List NR}{gs:List UH}(ho:Sn pr gs){nm:ByteArray}{r:NR}(h:r∈X1 gs nm):r.nm=nm/\∃q∈pr,q.nm=nm/\q.k=r.k/\q.n=r.n/\r.cs.length<=q.cs.length:=by
 unfold X1 at h;obtain⟨G,D,h⟩:=aqf.1 h;split at h;·rename_i e;obtain⟨A,q,J,I,U,C,T⟩:=ho.rs G D r h;exact⟨A.trans e,q,J,by rw[I,A,e],U,C,T⟩
 ·cases h
theorem Tr{k n:Int}{gs:List UH}{nm:ByteArray}{r:NR}(h:r∈TI k n gs nm):r∈X1 gs nm:=by
 unfold TI at h;exact avb.1 ((List.dropWhile_suffix _).subset (avb.1 h))
theorem DB(k n:Int)(gs:List UH)(nm:ByteArray):(TI k n gs nm).length<=(X1 gs nm).length:=by
 unfold TI;rw[avc];have:=(List.dropWhile_suffix (λr:NR=>decide (r.k=k/\r.n=n)) (l:=(X1 gs nm).reverse)).length_le;rwa [avc] at this
theorem Ko{k n:Int}:∀m:List NR,WG (XR k n) (m.reverse.map QW) ((m.dropWhile (λr=>decide (r.k=k/\r.n=n))).reverse.map QW)
 |[]=>WG.same _
 |z::m=>by
  have A:=Ko (k:=k) (n:=n) m;rw[aqb];by_cases h:z.k=k/\z.n=n
  ·rw[aG (by simpa using h),awg,acf];have:QW z=(z.cs,XR k n):=by unfold QW;rw[h.1,h.2]
   rw[aec,apb,this];exact WG.one A
  ·rw[aN (by simpa using h)];exact WG.same _
theorem Il{rs g:List Z3}(h:Ua rs g):g.length<=rs.length:=by
 induction h with
 |nil=>exact aR _
 |gone _ _ A=>rw[ay];omega
 |hid _ _ _ A=>rw[ay];omega
 |more _ _ _ A=>rw[ay,ay,aj,aj];omega
theorem Oe{α:Type}(p:α->Bool):∀l:List α,(l.filter p).length+(l.filter λx=> !p x).length=l.length
 |[]=>rfl
 |x::l=>by have A:=Oe p l;rw[amf,amf];cases p x<;>simp<;>omega
theorem Rx{α:Type}{p:α->Bool}{l:List α}{x:α}(h:x∈l.filter p):x∈l:=(aqa.1 h).1
theorem O2:∀(ns:List ByteArray) (pr:List NR),ns.Nodup->(ns.map λnm=>(ofName nm pr).length).sum<=pr.length
 |[],pr,_=>abc _
 |nm::ns,pr,h=>by
  have A:=aye.1 h;have C:=O2 ns (pr.filter λr=> !decide (r.nm=nm)) A.2;have e:(ns.map λm=>(ofName m (pr.filter λr=> !decide (r.nm=nm))).length)=ns.map λm=>(ofName m pr).length:=asf (λm hm=>by
   unfold ofName;rw[List.filter_filter]
   congr 1
   apply List.filter_congr;intro r _;by_cases e:r.nm=m
   ·have I:¬r.nm=nm:=λe2=>A.1 (by rw[<-e2,e];exact hm)
    rw[adb e,aee I];rfl
   ·rw[aee e];rfl)
  rw[e] at C;rw[aec,ajg];have hs:=Oe (λr:NR=>decide (r.nm=nm)) pr;have D:(ofName nm pr).length=(pr.filter λr=>decide (r.nm=nm)).length:=rfl;omega
theorem A0{α:Type}(f g:α->Nat):∀l:List α,(∀x∈l,f x<=g x)->(l.map f).sum<=(l.map g).sum
 |[],_=>aR _
 |x::l,h=>by have A:=h x jS;have C:=A0 f g l (λy hy=>h y (by simp[hy]));rw[aec,aec,ajg,ajg];omega
theorem Kn{α:Type}(f:α->Nat)(p:α->Bool):∀l:List α,((l.filter p).map f).sum<=(l.map f).sum
 |[]=>aR _
 |x::l=>by
  have A:=Kn f p l;rw[amf];split;·rw[aec,aec,ajg,ajg];omega
  ·rw[aec,ajg];omega
def qY(k n:Int)(gs:List UH)(ss:List ByteArray):List (ByteArray×List Z3):=(ss.filter (λnm=>decide (TI k n gs nm≠[]))).map λnm=>(nm,(TI k n gs nm).map QW)
structure DnF(pr:List NR)(d:Nat)(dn:List (ByteArray×List Z3)):Prop where
 nodup:(dn.map (·.1)).Nodup
 ne:∀g∈dn,g.2≠[]
 inp:∀g∈dn,∃q∈pr,q.nm=g.1
 rules:∀g∈dn,Us g.2
 code:∀g∈dn,∀r∈g.2,r.2<4294967296
 cs:∀g∈dn,∀r∈g.2,∃q∈pr,r.1.length<=q.cs.length
 cnt:(dn.map (λg=>g.2.length)).sum<=pr.length
 rE:∀ar:Nat->Nat,(∀a,ar a<Yf)->∀nm,(Zy ar (((dn.find? (λg=>decide (g.1=nm))).map (·.2)).getD [])).getD d=(Zy ar ((ofName nm pr).map QW)).getD d
theorem O1(f:ByteArray->List NR)(nm:ByteArray):∀ns:List ByteArray,(nm∈ns->((((ns.filter (λm=>decide (f m≠[]))).map λm=>(m,(f m).map QW)).find? (λg=>decide (g.1=nm))).map (·.2)).getD []=(f nm).map QW)/\(nm∉ns->((((ns.filter (λm=>decide (f m≠[]))).map λm=>(m,(f m).map QW)).find? (λg=>decide (g.1=nm))).map (·.2)).getD []=[])
 |[]=>⟨λh=>(by cases h),λ_=>rfl⟩
 |m::ns=>by
  obtain⟨C,A⟩:=O1 f nm ns;by_cases D:f m=[]
  ·rw[List.filter_cons_of_neg (by simp[D])];refine⟨λh=> ?_,λh=>A (λI=>h (afd _ I))⟩;by_cases e:nm∈ns;·exact C e
   ·rcases abf.1 h with rfl|h;·rw[A e,D];rfl
    ·exact absurd h e
  ·rw[List.filter_cons_of_pos (by simp[D]),aec];by_cases e:m=nm;·subst e;rw[aqc jS];exact⟨λ_=>rfl,λh=>absurd agf h⟩
   ·rw[anb (by simpa using e)];refine⟨λh=>C ?_,λh=>A (λI=>h (afd _ I))⟩;rcases abf.1 h with h|h;·exact absurd h.symm e
    ·exact h
theorem qX{pr:List NR}{gs:List UH}{ss:List ByteArray}{k n:Int}{rn:List NR}{dn:List (ByteArray×List Z3)}(yJ:ss.Perm (gs.map (·.nm)))(fF:gs.Pairwise (λx y=>x.nm≠y.nm))(Z:Tt XR pr gs)(D:Sn pr gs)(kr:ss.flatMap (TI k n gs)=rn)(T:Ur rn dn)
 (hr:∀r∈pr,∀c∈r.cs,c.right) (ha:∀r∈pr,X7.Zc r.k r.n=true):DnF pr (XR k n) dn:=by
 have Y:ss.Nodup:=yJ.nodup_iff.2 (aeg.2 fF);have e:dn=qY k n gs ss:=by rw[<-kr] at T;exact T.uniq (vQ (TI k n gs) (λnm r h=>(Ry D (Tr h)).1) ss Y)
 clear T kr;subst e;have A:∀g∈qY k n gs ss,g.2=(TI k n gs g.1).map QW/\TI k n gs g.1≠[]:=λg C=>by obtain⟨nm,U,rfl⟩:=ai.1 C;exact⟨rfl,by simpa using (aqa.1 U).2⟩
 have tR:∀nm,∀r∈(ofName nm pr).map QW,∀c∈r.1,c.right:=λnm r h=>by obtain⟨q,I,rfl⟩:=ai.1 h;exact hr q (Rx I)
 have hN:∀nm,Us ((X1 gs nm).map QW):=λnm=>DW (Z nm) (tR nm)
 refine⟨?_,λg C=> ?_,λg C=> ?_,λg C r h=> ?_,λg C r h=> ?_,λg C r h=> ?_,?_,λar har nm=> ?_⟩;·unfold qY;rw[akb];have:(ss.filter (λnm=>decide (TI k n gs nm≠[]))).map ((·.1)∘λnm=>(nm,(TI k n gs nm).map QW))=ss.filter (λnm=>decide (TI k n gs nm≠[])):=List.map_id'' (λ_=>rfl) _;rw[this];exact Y.filter _
 ·obtain⟨e1,e2⟩:=A g C;rw[e1];exact λh=>e2 (List.map_eq_nil_iff.1 h)
 ·obtain⟨e1,e2⟩:=A g C;obtain⟨r,hr⟩:=List.exists_mem_of_ne_nil _ e2;obtain⟨_,q,I,h2,_⟩:=Ry D (Tr hr);exact⟨q,I,h2⟩
 ·rw[(A g C).1] at h;obtain⟨q,I,rfl⟩:=ai.1 h;exact hN g.1 (QW q) (List.mem_map_of_mem (Tr I))
 ·rw[(A g C).1] at h;obtain⟨q,I,rfl⟩:=ai.1 h;obtain⟨_,q2,J,_,h3,h4,_⟩:=Ry D (Tr I);have:=(Kr (ha q2 J)).1;rw[h3,h4] at this;exact this
 ·rw[(A g C).1] at h;obtain⟨q,I,rfl⟩:=ai.1 h;obtain⟨_,q2,J,_,_,_,h5⟩:=Ry D (Tr I);exact⟨q2,J,h5⟩
 ·unfold qY;rw[akb];refine aO (Kn _ _ ss) (aO (A0 _ (λnm=>(ofName nm pr).length) ss (λnm _=> ?_)) (O2 ss pr Y));show((TI k n gs nm).map QW).length<=_;rw[aad];have U:=DB k n gs nm;have h2:=Il (Z nm);rw[aad,aad] at h2;omega
 ·unfold qY
  have hs:(Zy ar ((TI k n gs nm).map QW)).getD (XR k n)=(Zy ar ((ofName nm pr).map QW)).getD (XR k n):=by have U:=Ko (k:=k) (n:=n) (X1 gs nm).reverse;rw[axf] at U;have h2:=IV (ar:=ar) U;have h3:=th har (Z nm) (tR nm);show(Zy ar (((X1 gs nm).reverse.dropWhile (λr=>decide (r.k=k/\r.n=n))).reverse.map QW)).getD _=_;rw[h2];exact aq (λo:Option Nat=>o.getD (XR k n)) h3
  by_cases hm:nm∈ss;·rw[(O1 (TI k n gs) nm ss).1 hm];exact hs
  ·rw[(O1 (TI k n gs) nm ss).2 hm];have h0:X1 gs nm=[]:=XW (λG hG e=>hm (yJ.mem_iff.2 (ai.2 ⟨G,hG,e⟩)));have U:TI k n gs nm=[]:=by unfold TI;rw[h0];rfl
   rw[U] at hs;exact hs
end Go.Proofs.YtclgigmgbebhgaaGreatDoor
