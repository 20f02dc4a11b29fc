/- TopFirst: part 13: TopRes11 TopRes12 TopRes13 TopRowP TopPl1. -/
import Derived.Deep.MidRow
import Derived.Test.YtclgigmgbebhgaaGreatDoorF11
import Derived.Test.YtclgigmgbebhgaaGreatDoorF12
set_option linter.unusedVariables false
set_option linter.unusedSimpArgs false
set_option maxRecDepth 100000
set_option maxHeartbeats 16000000
namespace Go.Proofs.YtclgigmgbebhgaaGreatDoor
open Tryz
open Go Go.Proofs Go.RowKit
@[go_sem] abbrev qU:Oper:=⟨some 39,.load 73 (.tmp 38),73,"resolve.go:134",#[⟨3,.data⟩],none⟩
@[go_sem] abbrev gj:Oper:=⟨some 43,.call {callee:=.value (.func 40),args:=#[.tmp 40,.tmp 42],argTypes:=#[3,53]},53,"resolve.go:134",#[⟨5,.data⟩,⟨7,.data⟩],none⟩
@[go_sem] abbrev gi:Oper:=⟨some 45,.build 119 #[(0,.tmp 43),(1,.tmp 44)],119,"resolve.go:134",#[⟨8,.data⟩,⟨9,.data⟩],none⟩
@[go_sem] abbrev qT:Oper:=⟨some 46,.buildSlice 73 1 #[(0,.tmp 45)],73,"resolve.go:134",#[⟨10,.data⟩],none⟩
@[go_sem] abbrev gh:Oper:=⟨some 62,.load 75 (.tmp 61),75,"resolve.go:138",#[⟨7,.data⟩],none⟩
@[go_sem] abbrev fZ:Oper:=⟨some 71,.buildSlice 75 1 #[(0,.tmp 70)],75,"resolve.go:138",#[⟨16,.data⟩],none⟩
def Y1(x:Bool)(d:Nat)(num:Nat->Int)(rs:List Z3)(a:Nat):List Xk:=
 if num a<0 then [] else if a=1/\x=false then [] else if Yn a d rs=[] then [] else [(whole a (num a).toNat,Yn a d rs)]
def M4(x:Bool)(d:Nat)(num:Nat->Int)(rs:List Z3)(E:Nat->List Xk)(i:Nat):Nat->List Xk:=λb=>if b<i then E b++Y1 x d num rs b else E b
def X1(Yp sub:Int)(rs:List Z3)(m:Nat):List (Nat×Nat):=if Yp=(m:Int)+1 then [(sub.toNat,(rs[0]?.map (·.2)).getD 0)] else []
section
variable {lo P:Nat} {W W':World} {d:Nat} {x:Bool} {ve vs:Nat->Value} {E E':Nat->List Xk} {S S':Nat->List (Nat×Nat)}
theorem Yt.congr(h:Yt lo P W d x ve vs E S)(C:∀a,a<5->E a=E' a)(hS:∀m,m<2->S m=S' m):Yt lo P W d x ve vs E' S':=
 ⟨h.blk,h.lw,λa ha=>by rw[<-C a ha];exact h.OT a ha,λm hm=>by rw[<-hS m hm];exact h.subs m hm,h.mW,h.mV⟩
theorem M0{num:Nat->Int}{rs:List Z3}{i:Nat}(C:Y1 x d num rs i=[]):∀a,a<5->M4 x d num rs E i a=M4 x d num rs E (i+1) a:=λa _=>by
 unfold M4;by_cases h:a<i;·rw[aF h,aF jO]
 ·rw[aN h];by_cases e:a=i;·subst e;rw[aF jO,C,adb]
  ·rw[aN jO]
theorem qR{num:Nat->Int}{rs:List Z3}{i:Nat}{t:Xk}(C:Y1 x d num rs i=[t]):∀a,a<5->N2 (M4 x d num rs E i) i (M4 x d num rs E i i++[t]) a=M4 x d num rs E (i+1) a:=λa _=>by
 by_cases e:a=i;·subst e;rw[XQ];unfold M4;rw[aN jO,aF jO,C]
 ·rw[X4 _ _ e];unfold M4;by_cases h:a<i;·rw[aF h,aF jO]
  ·rw[aN h,aN jO]
end
def cf(lo P:Nat)(d:Nat)(x:Bool)(E:Nat->List Xk)(S:Nat->List (Nat×Nat))(w w':World):Prop:=∃ve' vs',Yt lo P w' d x ve' vs' E S/\Kept lo P w w'
theorem vJ{a:Nat}{z:Int}(h:0<=z):Kg (a:Int) z=((whole a z.toNat:Nat):Int):=by
 unfold Kg whole;by_cases e:a=1;·rw[aF jO,aF e];unfold VT;omega
 ·rw[aN jO,aN e];omega
theorem kK(y:Z4.Z1){a:Nat}(ha:a<5):(#[Value.string y.name,.int .i64 y.n0,.int .i64 y.n1,.int .i64 y.n2,.int .i64 y.n3,.int .i64 y.n4,.int .i64 y.Yp,.int .i64 y.sub]:Array Value)[1+a]? =some (.int .i64 (y.num a)):=by
 rcases (show a=0\/a=1\/a=2\/a=3\/a=4 from jO) with rfl|rfl|rfl|rfl|rfl<;>rfl
theorem qQ{lo PN PL L:Nat}{ra:Option Addr}{rc:Nat}{rs:List Z3}{us:List Value}{k n:Int}{x:Bool}{nv:Value}{d:Nat}{ve vs:Nat->Value}{E:Nat->List Xk}{S:Nat->List (Nat×Nat)}(y:Z4.Z1)(hL:rs.length=L)(h1:1<=L)(Xo:L<=1000)(hcs:∀r∈rs,r.1.length<=1000/\∀c∈r.1,c.m<YN/\c.v<YN)(hy:∀a,a<5->y.num a<1073741824)
 (Fo:0<=y.Yp) (ni:y.Yp<=2) (hs0:0<=y.sub) (hs1:y.sub<4294967296) (hE:∀a,a<5->(E a).length<=1000000) (hS:∀m,m<2->(S m).length<=1000000) (w:World) (hq:Yd lo w (.slice ra L rc) rs us) (hn:Z7 w PN VQ #[.int .i64 k,.int .i64 n,.bool x,nv]) (hp:Yt lo PL w d x ve vs E S):
 Calls prog 38 #[y.val,.slice ra L rc,.pointer (some ⟨PN,0,none⟩),.pointer (some ⟨PL,0,none⟩)] w λe w'=>e=.returned (.tuple #[])/\cf lo PL d x (λa=>E a++Y1 x d y.num rs a) (λm=>S m++X1 y.Yp y.sub rs m) w w':=by
 have hb1:=Yx w (.cells #[.string y.name,.int .i64 y.n0,.int .i64 y.n1,.int .i64 y.n2,.int .i64 y.n3,.int .i64 y.n4,.int .i64 y.Yp,.int .i64 y.sub] 40);have HR:=aT (Z7.new w 40 #[.string y.name,.int .i64 y.n0,.int .i64 y.n1,.int .i64 y.n2,.int .i64 y.n3,.int .i64 y.n4,.int .i64 y.Yp,.int .i64 y.sub]);have HQ:=aT (hq.Zr hb1);have HN:=aT (hn.below hb1 hn.lt);have kJ:=aT (hp.Zr hb1);have HK0:=aT (Kept.M6 (P:=PL) hp.lt hb1);have MZ:lo<=w.heap.size:=hp.lt;have HL:=aT hL;have HC:=aT hcs;have HY:=aT hy;have HEl:=aT hE;have HSl:=aT hS;clear hq hn hp hb1 hL hcs hy hE hS;unfold Z4.Z1.val;go_enter func38,ntmps38;go_upto_region 2 with fail;generalize w.alloc (.cells #[.string y.name,.int .i64 y.n0,.int .i64 y.n1,.int .i64 y.n2,.int .i64 y.n3,.int .i64 y.n4,.int .i64 y.Yp,.int .i64 y.sub] 40)=w1 at*;obtain⟨PR,hPR⟩:=jX w.heap.size;rw[hPR] at HR ⊢;clear hPR;go_loopg [9] 6 (λgg iv wr=>∃(i:Nat) (J:Nat->Value),i<=5/\5-i<gg/\iv=.int .i64 (i:Int)/\Hid (Yt lo PL wr d x J vs (M4 x d y.num rs E i) S)/\Hid (Kept lo PL w1 wr));case atStart=>exact⟨0,ve,jO,jO,rfl,kJ.out.congr (λa _=>by unfold M4;rw[aN jO]) (λ_ _=>rfl),Kept.refl _ _ _⟩
 case round=>
  obtain⟨i,J,hi5,Vs,rfl,HP,HK⟩:=hrel;have wC:=jZ i;have Jc:=jW i;by_cases hlt:i<5
  ·have Zd:(i:Int)<5:=by omega
   have hRw:=HK.out.keep _ _ _ HR.out jD jD jD;have pr:=hRw.cell (1+i);rw[kK y hlt] at pr;have pn:=(HK.out.keep _ _ _ HN.out jD jD jD).e2;have hyz:=HY.out i hlt;obtain⟨z,hz⟩:=jX (y.num i);rw[hz] at pr hyz;have HZ:=aT hz;clear hz hRw;by_cases ai1:z<0
   ·have bZ:Hid (Y1 x d y.num rs i=[]):=by
     show _=_;unfold Y1;rw[aF (by rw[HZ.out];exact ai1)]
    have Z:=aT (HP.out.congr (M0 bZ.out) (λ_ _=>rfl));go_wp2_with fail;go_roundg (5-i);case measure=>omega
    case rel=>exact⟨i+1,J,jO,jO,by go_num,Z,HK⟩
   ·have hz0:0<=z:=by omega
    by_cases hx:i=1/\x=false
    ·have bZ:Hid (Y1 x d y.num rs i=[]):=by
      show _=_;unfold Y1;rw[HZ.out,aN ai1,aF hx]
     have Z:=aT (HP.out.congr (M0 bZ.out) (λ_ _=>rfl));have sM:((i:Int) == 1)=true:=by rw[ahc];omega
     rw[hx.2] at pn;clear hx;go_wp2_with fail;go_roundg (5-i);case measure=>omega
     case rel=>exact⟨i+1,J,jO,jO,by go_num,Z,HK⟩
    ·have HX:=aT hx;clear hx;go_upto_region 5 with fail;go_cut [26] from 10 to 50 (λs wx=>s=.bool false/\wr=wx)
     case first=>
      by_cases hi:i=1
      ·have sM:((i:Int) == 1)=true:=by rw[ahc];omega
       have fY:x=true:=by cases x with|true=>rfl|false=>exact absurd ⟨hi,rfl⟩ HX.out
       rw[fY] at pn;clear fY hi;go_wp2_with fail;go_meet;exact⟨rfl,rfl⟩
      ·have sM:((i:Int) == 1)=false:=by rw[af];omega
       clear hi;go_wp2_with fail;go_meet;exact⟨rfl,rfl⟩
     case rest=>
      obtain⟨rfl,rfl⟩:=hcut;clear pr pn;have HS:=aT (rJ (a:=i) (d:=d) HL.out Xo HC.out wr (HK.out.N3 HQ.out).rules (aR _));have c0:wr.cell? ⟨PL,0,none⟩=some (.int .u32 d):=HP.out.blk.cell 0;go_wp2_with fail;refine HS.out.mono ?_;rintro e w2 ⟨v,us2,rfl,T,hlen,hb⟩;have Z:=aT (HP.out.Zr hb);have kI:=aT (HK.out.trans (Kept.M6 (aO MZ (aO HK0.out.size HK.out.size)) hb));have gJ:=aT (T.mono HP.out.lt);have HLn:=aT hlen;have HZ2:Hid (Y1 x d y.num rs i=if Yn i d rs=[] then [] else [(whole i z.toNat,Yn i d rs)]):=by show _=_;unfold Y1;rw[HZ.out,aN (show ¬z<0 from jO),aN HX.out]
      obtain⟨oa,oc,rfl⟩:=Z0 T.row;obtain⟨own,hown⟩:∃o,Yn i d rs=o:=⟨_,rfl⟩;rw[hown] at HZ2 HLn gJ ⊢;clear T hlen hb HS c0 hown HP HK;obtain⟨M,hM⟩:=jX own.length;rw[hM] at HLn gJ ⊢;have HM:=aT hM;clear hM;by_cases h0:M=0
      ·have bZ:Hid (Y1 x d y.num rs i=[]):=by
        show _=_;rw[HZ2.out,aF (alb.1 (HM.out.trans h0))]
       have Gm:=aT (Z.out.congr (M0 bZ.out) (λ_ _=>rfl));subst h0;go_wp2_with fail;go_roundg (5-i);case measure=>omega
       case rel=>exact⟨i+1,J,jO,jO,by go_num,Gm,kI⟩
      ·have hM0:0<M:=by omega
       have hM1:(0:Int)<(M:Int):=jO;have hM2:decide (0<M)=true:=acb hM0;have hM3:decide ((0:Int)<(M:Int))=true:=acb hM1;obtain⟨i0,XS,RH,Vb,Tl⟩:=Pq kO;have hne:own≠[]:=λe=>h0 (by rw[<-HM.out,e];rfl)
       obtain⟨wn,hwn⟩:∃n,whole i z.toNat=n:=⟨_,rfl⟩;have HWh:=aT (λW=>vK (i:Int) z hz0 hyz W);rw[vJ hz0,hwn] at HWh;have bZ:Hid (Y1 x d y.num rs i=[(wn,own)]):=by show _=_;rw[HZ2.out,aN hne,hwn]
       clear hne hwn HZ2;have iwz:IntKind.u32.wrap z=z:=by rw[axc];omega
       obtain⟨es,he,hE⟩:=Z.out.OT i hlt;obtain⟨K,C⟩:=jX es.length;have hKl:K<=1000000:=by
        have h2:=ax List.length he;rw[aab,C] at h2;have h3:M4 x d y.num rs E i i=E i:=by unfold M4;rw[aN jO]
        rw[h3] at h2;rw[h2];exact HEl.out i hlt
       obtain⟨ea,ec,U⟩:∃ea ec,J i=.slice ea K ec:=by obtain⟨ea,ec,e⟩:=Z0 hE.row;exact⟨ea,ec,by rw[e,C]⟩
       have b4:Below w2.heap.size w2 (w2.drew.alloc (.cells #[.int .u32 wn,.slice oa M oc] Oj)):=(aG _ w2).drew.alloc (aR _) _;have I:=aT (Z.out.Zr b4);have lz:=aT (kI.out.trans (Kept.M6 Z.out.lt b4));have BB:=aT (gJ.out.Zr b4);have HE4:Hid (kM lo (w2.drew.alloc (.cells #[.int .u32 wn,.slice oa M oc] Oj)) (J i) es):=⟨ZC hE.row b4,λy hy=>(hE.rs y hy).Zr b4⟩;have yU:Hid ((w2.drew.alloc (.cells #[.int .u32 wn,.slice oa M oc] Oj)).ownsRow lo Oj 2 (.slice ea K ec) K (es.flatMap Jb)):=by have h:=HE4.out.row;rw[U,C] at h;exact h
       have qP:=aT U;have Hes:=aT he;have HKe:=aT C;have c39:w2.drew.cell? ⟨PL,2+i,none⟩=some (.slice ea K ec):=by have h:=Z.out.blk.cell (2+i);rw[Lf _ _ _ _ hlt,U] at h;exact h
       have c40:(w2.drew.alloc (.cells #[.int .u32 wn,.slice oa M oc] Oj)).cell? ⟨PL,2+i,none⟩=some (.slice ea K ec):=by have h:=I.out.blk.cell (2+i);rw[Lf _ _ _ _ hlt,U] at h;exact h
       have c37:w2.cell? ⟨PL,2+i,none⟩=some (.slice ea K ec):=c39;have c38:(w2.alloc (.cells #[.int .u32 wn,.slice oa M oc] Oj)).cell? ⟨PL,2+i,none⟩=some (.slice ea K ec):=c40;clear b4 hE he C U;go_upto_region 8 with fail;refine akg (S:=λ_=>True) jK (trivial) (λhHeld=> ?_);refine jT 0 ⟨some 35,.move (.tmp 6),3,"resolve.go:134",#[],none⟩ ?_;try simp only[Act.put,aS,aP,aQ]
       refine jT 1 ⟨some 36,.move (.tmp 6),3,"resolve.go:134",#[],none⟩ ?_;try simp only[Act.put,aS,aP,aQ]
       refine jT 2 ⟨some 37,.fieldAddr 78 (.tmp 3) 2,0,"resolve.go:134",#[],none⟩ ?_;try simp only[Act.put,aS,aP,aQ]
       refine jT 3 ⟨some 38,.indexAddr 74 (.tmp 37) (.tmp 36),0,"resolve.go:134",#[⟨2,.data⟩,⟨1,.data⟩],none⟩ ?_;try simp only[Act.put,aS,aP,aQ]
       refine jT 5 ⟨some 40,.move (.tmp 6),3,"resolve.go:134",#[],none⟩ ?_;try simp only[Act.put,aS,aP,aQ]
       refine jT 6 ⟨some 41,.move (.tmp 7),3,"resolve.go:134",#[],none⟩ ?_;try simp only[Act.put,aS,aP,aQ]
       refine jT 7 ⟨some 42,.convert 3 53 (.tmp 41),53,"resolve.go:134",#[⟨6,.data⟩],none⟩ ?_;try simp only[Act.put,aS,aP,aQ]
       refine jT 9 ⟨some 44,.move (.tmp 8),115,"resolve.go:134",#[],none⟩ ?_;try simp only[Act.put,aS,aP,aQ]
       refine jT 13 ⟨some 48,.fieldAddr 78 (.tmp 3) 2,0,"resolve.go:134",#[],none⟩ ?_;try simp only[Act.put,aS,aP,aQ]
       refine aba (rs:=[4,8]) jK jS ?_;refine ae (o:=qU) rfl (λD C=> ?aw0) (ae (o:=gj) rfl (λD C=> ?aw1) aae)
       case' aw0=>
        go_simp;refine C.out _ _ hHeld (λhHeld=> ?_);clear C D;try simp only[Act.put,aS,aP,aQ]
        refine aba (rs:=[8]) jK jS ?_;refine ae (o:=gj) rfl (λD C=> ?aH9) aae;go_simp;refine(HWh.out _).mono ?_;rintro e w7 ⟨rfl,rfl⟩;refine C.out _ _ (trivial) (λhHeld=> ?_);clear C D;try simp only[Act.put,aS,aP,aQ]
        refine jT 10 gi ?_;try simp only[Act.put,aS,aP,aQ]
        refine aba (rs:=[11]) jK jS ?_;refine ae (o:=qT) rfl (λD C=> ?aI0) aae;go_simp;refine C.out _ _ (trivial) (λhHeld=> ?_);clear C D;try simp only[Act.put,aS,aP,aQ]
       case' aw1=>
        go_simp;refine(HWh.out _).mono ?_;rintro e w7 ⟨rfl,rfl⟩;refine C.out _ _ (trivial) (λhHeld=> ?_);clear C D;try simp only[Act.put,aS,aP,aQ]
        refine jT 10 gi ?_;try simp only[Act.put,aS,aP,aQ]
        refine aba (rs:=[4,11]) jK jS ?_;refine ae (o:=qU) rfl (λD C=> ?aw3) (ae (o:=qT) rfl (λD C=> ?aw4) aae)
       case' aw3=>
        go_simp;refine C.out _ _ hHeld (λhHeld=> ?_);clear C D;try simp only[Act.put,aS,aP,aQ]
        refine aba (rs:=[11]) jK jS ?_;refine ae (o:=qT) rfl (λD C=> ?aI1) aae;go_simp;refine C.out _ _ (trivial) (λhHeld=> ?_);clear C D;try simp only[Act.put,aS,aP,aQ]
       case' aw4=>
        go_simp;refine C.out _ _ (trivial) (λhHeld=> ?_);clear C D;try simp only[Act.put,aS,aP,aQ]
        refine aba (rs:=[4]) jK jS ?_;refine ae (o:=qU) rfl (λD C=> ?aI2) aae;go_simp;refine C.out _ _ hHeld (λhHeld=> ?_);clear C D;try simp only[Act.put,aS,aP,aQ]
       all_goals (
        refine aba (rs:=[12]) jK jS ?_;refine ae (o:=⟨some 47,.call {callee:=.builtin .append,args:=#[.tmp 39,.tmp 46],argTypes:=#[73,73]},73,"resolve.go:134",#[⟨4,.data⟩,⟨11,.data⟩,⟨8,.chain⟩],none⟩) rfl (λD C=> ?_) aae;refine step_append_lies _ rfl _ _ 73 rfl lo Oj i0 (.agg #[.int .u32 0,.slice none 0 0]) 2 32 underlying73 XS RH Vb Tl rfl jD (.slice ea K ec) K (es.flatMap Jb) rfl yU.out ⟨w2.heap.size,0,none⟩ 1 1 [.int .u32 wn,.slice oa M oc] rfl rfl (World.news_of_block (Z7.new w2.drew _ _)) (by simp[Value.oneCell']) jD (by unfold maxLen;omega) jO I.out.lt _ rfl ?_;intro gb cap w8 Y Lt Kf kH;have bW:=I.out.blk.kept Lt (λe=>U4 yU.out I.out.blk jD e.symm);have c8:=bW.cell (2+i);rw[Lf _ _ _ _ hlt] at c8;have f8:=bW.frozen (2+i);have DB:=aT Lt;have kV:=aT Kf;have Ic:=aT Y;clear Lt Kf Y bW;refine C.out _ _ (trivial) (λhHeld=> ?_);clear C D;try simp only[Act.put,aS,aP,aQ]
        refine jT 14 ⟨some 49,.indexAddr 74 (.tmp 48) (.tmp 35),0,"resolve.go:134",#[⟨13,.data⟩,⟨0,.data⟩,⟨0,.phase⟩,⟨1,.phase⟩,⟨2,.phase⟩,⟨3,.phase⟩,⟨4,.phase⟩,⟨5,.phase⟩,⟨6,.phase⟩,⟨7,.phase⟩,⟨8,.phase⟩,⟨9,.phase⟩,⟨10,.phase⟩,⟨11,.phase⟩,⟨12,.phase⟩],none⟩ ?_;try simp only[Act.put,aS,aP,aQ]
        refine aba (rs:=[15]) jK jS ?_;refine ae (o:=⟨none,.store 73 (.tmp 49) (.tmp 47),0,"resolve.go:134",#[⟨14,.data⟩,⟨12,.data⟩,⟨12,.chain⟩,⟨0,.phase⟩,⟨1,.phase⟩,⟨2,.phase⟩,⟨3,.phase⟩,⟨4,.phase⟩,⟨5,.phase⟩,⟨6,.phase⟩,⟨7,.phase⟩,⟨8,.phase⟩,⟨9,.phase⟩,⟨10,.phase⟩,⟨11,.phase⟩,⟨12,.phase⟩],none⟩) rfl (λD C=> ?_) aae;go_simp;refine C.out _ _ (trivial) (λhHeld=> ?_);clear C D;try simp only[Act.put,aS,aP,aQ]
        refine ana jK ?_ _)
       all_goals (
        have HPP:=aT (I.out.av8 hlt BB.out (by rw[qP.out];exact DB.out) (n:=wn) rfl Hes.out HE4.out (by rw[HKe.out];exact Ic.out) (by rw[qP.out];exact kV.out.imp (λe=>e.symm) (λe=>by rw[e];rfl)));have HP9:=aT (HPP.out.1.congr (qR bZ.out) (λ_ _=>rfl));have HK9:=aT (lz.out.trans HPP.out.2);go_wp2_with fail;go_roundg (5-i)
        (case measure=>omega)
        (case rel=>exact⟨i+1,_,jO,jO,by go_num,HP9,HK9⟩))
  ·obtain rfl:i=5:=by omega
   have Zd:¬((5:Nat):Int)<5:=jO;have Ci:Hid (Yt lo PL wr d x J vs (λa=>E a++Y1 x d y.num rs a) S):=HP.out.congr (λa ha=>by unfold M4;rw[aF ha]) (λ_ _=>rfl);have hRw:=HK.out.keep _ _ _ HR.out jD jD jD;obtain⟨_,_,_,_,_,_,p6,p7⟩:=hRw.q8;have HKw:=aT (HK0.out.trans HK.out);obtain⟨mx,hmx⟩:=jX y.Yp;obtain⟨sb,hsb⟩:=jX y.sub;rw[hmx] at p6 Fo ni;rw[hsb] at p7 hs0 hs1;have HMX:=aT hmx;have HSB:=aT hsb;clear hmx hsb hRw HP;by_cases hz:mx=0
   ·subst hz;go_wp2_with fail;go_end0
    have HPF:Hid (Yt lo PL wr d x J vs (λa=>E a++Y1 x d y.num rs a) (λb=>S b++X1 y.Yp y.sub rs b)):=Ci.out.congr (λ_ _=>rfl) (λm _=>by unfold X1;rw[HMX.out,aN jO,adb])
    exact⟨rfl,J,vs,HPF.out,HKw.out⟩
   ·obtain⟨m,hm⟩:∃m:Nat,mx=(m:Int)+1:=⟨(mx-1).toNat,jO⟩;have Jj:m<2:=jO;obtain⟨sn,hsn⟩:∃sn:Nat,sb=(sn:Int):=⟨sb.toNat,jO⟩;subst hm hsn;obtain⟨i0,XS,RH,Vb,Tl⟩:=Pq kN;have aI3:(0:Int)<(m:Int)+1:=jO;have iwm:IntKind.i64.wrap ((m:Int)+1-1)=(m:Int):=by rw[aJ _ jO];omega
    have aI4:IntKind.i64.wrap (m:Int)=(m:Int):=aJ _ jO;have iws:IntKind.u32.wrap (sn:Int)=(sn:Int):=by rw[axc];omega
    have m0':=jZ m;have m2':(m:Int)<2:=jO;obtain⟨r,hr⟩:∃r,rs[0]? =some r:=⟨_,aL (by rw[HL.out];exact h1)⟩;obtain⟨g,u,hra,hg,_,hu,y0,y1⟩:=(HK.out.N3 HQ.out).cell hr;subst hra;have hL0:(0:Int)<(L:Int):=jO;have hLn:0<L:=jO;have hLd:decide (0<L)=true:=acb hLn;have hLz:decide ((0:Int)<(L:Int))=true:=acb hL0;have y1:wr.cell? ⟨g,1,none⟩=some (.int .u32 r.2):=y1;have HSt:Hid (X1 y.Yp y.sub rs m=[(sn,r.2)]):=by show _=_;unfold X1;rw[HMX.out,HSB.out,aF rfl,hr];rfl
    have UB:Hid (∀b,b≠m->X1 y.Yp y.sub rs b=[]):=λb hb=>by unfold X1;rw[HMX.out,aN jO]
    have kQ:=hr;clear hr hu y0;obtain⟨rd,hrd⟩:=jX r.2;rw[hrd] at y1 HSt;have ai2:=hrd;clear hrd;have Nv:Hid (∀W:World,Kept lo PL w1 W->W.cell? ⟨PR,6,none⟩=some (.int .i64 ((m:Int)+1))/\W.cell? ⟨PR,7,none⟩=some (.int .i64 sn)/\W.cell? ⟨g,1,none⟩=some (.int .u32 rd)):=λW hW=>by have hR8:=hW.keep _ _ _ HR.out jD jD jD;refine⟨(hR8.cell 6).trans (by rw[<-HMX.out];rfl),(hR8.cell 7).trans (by rw[<-HSB.out];rfl),?_⟩;obtain⟨g2,u2,e2,_,_,_,_,z1⟩:=(hW.N3 HQ.out).cell kQ;cases e2;rw[<-ai2];exact z1
    clear kQ ai2;obtain⟨K,C⟩:=jX ((S m).length);have hKl:K<=1000000:=by rw[<-C];exact HSl.out m Jj
    have T:wr.ownsRow lo Ob 2 (vs m) (S m).length ((S m).flatMap encS):=Ci.out.subs m Jj;obtain⟨ea,ec,U⟩:∃ea ec,vs m=.slice ea K ec:=by obtain⟨ea,ec,e⟩:=Z0 T;exact⟨ea,ec,by rw[e,C]⟩
    have b4:Below wr.heap.size wr (wr.drew.alloc (.cells #[.int .u32 sn,.int .u32 rd] Ob)):=(aG _ wr).drew.alloc (aR _) _;have I:=aT (Ci.out.Zr b4);have lz:=aT (HKw.out.trans (Kept.M6 Ci.out.lt b4));have yU:Hid ((wr.drew.alloc (.cells #[.int .u32 sn,.int .u32 rd] Ob)).ownsRow lo Ob 2 (.slice ea K ec) K ((S m).flatMap encS)):=by have h:=ZC T b4;rw[U,C] at h;exact h
    have qP:=aT U;have HKe:=aT C;have c37:wr.cell? ⟨PL,7+m,none⟩=some (.slice ea K ec):=by have h:=Ci.out.blk.cell (7+m);rw[Le _ _ _ _ Jj,U] at h;exact h
    have c38:(wr.alloc (.cells #[.int .u32 sn,.int .u32 rd] Ob)).cell? ⟨PL,7+m,none⟩=some (.slice ea K ec):=by have h:=I.out.blk.cell (7+m);rw[Le _ _ _ _ Jj,U] at h;exact h
    have kd:Kept lo PL w1 wr.drew:=HK.out.trans (Kept.drew Ci.out.lt);have ka:Kept lo PL w1 (wr.drew.alloc (.cells #[.int .u32 sn,.int .u32 rd] Ob)):=HK.out.trans (Kept.M6 Ci.out.lt b4);clear b4 T C U;go_upto_region 11 with fail;refine akg (S:=λw'=>w'.cell? ⟨PR,6,none⟩=some (.int .i64 ((m:Int)+1))/\w'.cell? ⟨PR,7,none⟩=some (.int .i64 sn)/\w'.cell? ⟨g,1,none⟩=some (.int .u32 rd)) jK (Nv.out _ (by first|(with_reducible assumption)|(with_reducible exact kd)|(with_reducible exact ka)|exact kd|exact ka)) (λhHeld=> ?_);refine jT 0 ⟨some 54,.fieldAddr 40 (.tmp 4) 2,0,"resolve.go:138",#[],none⟩ ?_;try simp only[Act.put,aS,aP,aQ]
    refine jT 1 ⟨some 55,.load 3 (.tmp 54),3,"resolve.go:138",#[⟨0,.data⟩],none⟩ ?_;try simp only[Act.put,aS,aP,aQ]
    refine jT 2 ⟨some 56,.binOp .sub 3 (.tmp 55) (.const (.int .i64 1)) 3,3,"resolve.go:138",#[⟨1,.data⟩],none⟩ ?_;try simp only[Act.put,aS,aP,aQ]
    refine jT 3 ⟨some 57,.fieldAddr 40 (.tmp 4) 2,0,"resolve.go:138",#[],none⟩ ?_;try simp only[Act.put,aS,aP,aQ]
    refine jT 4 ⟨some 58,.load 3 (.tmp 57),3,"resolve.go:138",#[⟨3,.data⟩],none⟩ ?_;try simp only[Act.put,aS,aP,aQ]
    refine jT 5 ⟨some 59,.binOp .sub 3 (.tmp 58) (.const (.int .i64 1)) 3,3,"resolve.go:138",#[⟨4,.data⟩],none⟩ ?_;try simp only[Act.put,aS,aP,aQ]
    refine jT 6 ⟨some 60,.fieldAddr 78 (.tmp 3) 3,0,"resolve.go:138",#[],none⟩ ?_;try simp only[Act.put,aS,aP,aQ]
    refine jT 7 ⟨some 61,.indexAddr 76 (.tmp 60) (.tmp 59),0,"resolve.go:138",#[⟨6,.data⟩,⟨5,.data⟩],none⟩ ?_;try simp only[Act.put,aS,aP,aQ]
    refine jT 9 ⟨some 63,.fieldAddr 40 (.tmp 4) 3,0,"resolve.go:138",#[],none⟩ ?_;try simp only[Act.put,aS,aP,aQ]
    refine jT 10 ⟨some 64,.load 3 (.tmp 63),3,"resolve.go:138",#[⟨9,.data⟩],none⟩ ?_;try simp only[Act.put,aS,aP,aQ]
    refine jT 11 ⟨some 65,.convert 3 53 (.tmp 64),53,"resolve.go:138",#[⟨10,.data⟩],none⟩ ?_;try simp only[Act.put,aS,aP,aQ]
    refine jT 12 ⟨some 66,.move (.tmp 1),115,"resolve.go:138",#[],none⟩ ?_;try simp only[Act.put,aS,aP,aQ]
    refine jT 13 ⟨some 67,.indexAddr 115 (.tmp 66) (.const (.int .i64 0)),0,"resolve.go:138",#[⟨12,.data⟩],none⟩ ?_;try simp only[Act.put,aS,aP,aQ]
    refine jT 14 ⟨some 68,.fieldAddr 121 (.tmp 67) 1,0,"resolve.go:138",#[⟨13,.data⟩],none⟩ ?_;try simp only[Act.put,aS,aP,aQ]
    refine jT 15 ⟨some 69,.load 53 (.tmp 68),53,"resolve.go:138",#[⟨14,.data⟩],none⟩ ?_;try simp only[Act.put,aS,aP,aQ]
    refine jT 16 ⟨some 70,.build 123 #[(0,.tmp 65),(1,.tmp 69)],123,"resolve.go:138",#[⟨11,.data⟩,⟨15,.data⟩],none⟩ ?_;try simp only[Act.put,aS,aP,aQ]
    refine jT 19 ⟨some 73,.fieldAddr 78 (.tmp 3) 3,0,"resolve.go:138",#[],none⟩ ?_;try simp only[Act.put,aS,aP,aQ]
    refine aba (rs:=[8,17]) jK jS ?_;refine ae (o:=gh) rfl (λD C=> ?aw5) (ae (o:=fZ) rfl (λD C=> ?aw6) aae)
    case' aw5=>
     go_simp;refine C.out _ _ hHeld (λhHeld=> ?_);clear C D;try simp only[Act.put,aS,aP,aQ]
     refine aba (rs:=[17]) jK jS ?_;refine ae (o:=fZ) rfl (λD C=> ?aI5) aae;go_simp;refine C.out _ _ (Nv.out _ (by first|(with_reducible assumption)|(with_reducible exact kd)|(with_reducible exact ka)|exact kd|exact ka)) (λhHeld=> ?_);clear C D;try simp only[Act.put,aS,aP,aQ]
    case' aw6=>
     go_simp;refine C.out _ _ (Nv.out _ (by first|(with_reducible assumption)|(with_reducible exact kd)|(with_reducible exact ka)|exact kd|exact ka)) (λhHeld=> ?_);clear C D;try simp only[Act.put,aS,aP,aQ]
     refine aba (rs:=[8]) jK jS ?_;refine ae (o:=gh) rfl (λD C=> ?aI6) aae;go_simp;refine C.out _ _ hHeld (λhHeld=> ?_);clear C D;try simp only[Act.put,aS,aP,aQ]
    all_goals (
     refine aba (rs:=[18]) jK jS ?_;refine ae (o:=⟨some 72,.call {callee:=.builtin .append,args:=#[.tmp 62,.tmp 71],argTypes:=#[75,75]},75,"resolve.go:138",#[⟨8,.data⟩,⟨17,.data⟩],none⟩) rfl (λD C=> ?_) aae;refine step_append_lies _ rfl _ _ 75 rfl lo Ob i0 (.agg #[.int .u32 0,.int .u32 0]) 2 8 underlying75 XS RH Vb Tl rfl jD (.slice ea K ec) K ((S m).flatMap encS) rfl yU.out ⟨wr.heap.size,0,none⟩ 1 1 [.int .u32 sn,.int .u32 rd] rfl rfl (World.news_of_block (Z7.new wr.drew _ _)) (by simp[Value.oneCell']) jD (by unfold maxLen;omega) jO I.out.lt _ rfl ?_;intro gb cap w8 Y Lt Kf kH;have HPP:=aT (I.out.av9 Jj (by rw[qP.out];exact Lt) (n:=sn) (c:=rd) rfl (by rw[HKe.out];exact Y) (by rw[qP.out];exact Kf.imp (λe=>e.symm) (λe=>by rw[e];rfl)));have k8:Kept lo PL w1 w8:=ka.trans (Kept.grown I.out.lt yU.out (.inr rfl) Lt);have ks:=ka.trans HPP.out.2;have bW:=I.out.blk.kept Lt (λe=>U4 yU.out I.out.blk jD e.symm);have c8:=bW.cell (7+m);rw[Le _ _ _ _ Jj] at c8;have f8:=bW.frozen (7+m);clear Lt Kf Y bW;refine C.out _ _ (Nv.out _ (by first|(with_reducible assumption)|(with_reducible exact kd)|(with_reducible exact ka)|exact kd|exact ka)) (λhHeld=> ?_);clear C D;try simp only[Act.put,aS,aP,aQ]
     refine jT 20 ⟨some 74,.indexAddr 76 (.tmp 73) (.tmp 56),0,"resolve.go:138",#[⟨19,.data⟩,⟨2,.data⟩,⟨0,.phase⟩,⟨1,.phase⟩,⟨2,.phase⟩,⟨3,.phase⟩,⟨4,.phase⟩,⟨5,.phase⟩,⟨6,.phase⟩,⟨7,.phase⟩,⟨8,.phase⟩,⟨9,.phase⟩,⟨10,.phase⟩,⟨11,.phase⟩,⟨12,.phase⟩,⟨13,.phase⟩,⟨14,.phase⟩,⟨15,.phase⟩,⟨16,.phase⟩,⟨17,.phase⟩,⟨18,.phase⟩],none⟩ ?_;try simp only[Act.put,aS,aP,aQ]
     refine aba (rs:=[21]) jK jS ?_;refine ae (o:=⟨none,.store 75 (.tmp 74) (.tmp 72),0,"resolve.go:138",#[⟨20,.data⟩,⟨18,.data⟩,⟨18,.chain⟩,⟨0,.phase⟩,⟨1,.phase⟩,⟨2,.phase⟩,⟨3,.phase⟩,⟨4,.phase⟩,⟨5,.phase⟩,⟨6,.phase⟩,⟨7,.phase⟩,⟨8,.phase⟩,⟨9,.phase⟩,⟨10,.phase⟩,⟨11,.phase⟩,⟨12,.phase⟩,⟨13,.phase⟩,⟨14,.phase⟩,⟨15,.phase⟩,⟨16,.phase⟩,⟨17,.phase⟩,⟨18,.phase⟩],none⟩) rfl (λD C=> ?_) aae;go_simp;refine C.out _ _ (Nv.out _ (by first|(with_reducible assumption)|(with_reducible exact kd)|(with_reducible exact ka)|exact kd|exact ka)) (λhHeld=> ?_);clear C D;try simp only[Act.put,aS,aP,aQ]
     refine ana jK ?_ _)
    all_goals (
     have HPF:Hid (Yt lo PL _ d x J _ (λa=>E a++Y1 x d y.num rs a) (λb=>S b++X1 y.Yp y.sub rs b)):=HPP.out.1.congr (λ_ _=>rfl) (λb _=>by
      by_cases e:b=m;·subst e;rw[XQ,HSt.out]
      ·rw[X4 _ _ e,UB.out b e,adb])
     have HKF:=aT (lz.out.trans HPP.out.2);go_wp2_with fail;go_end0;exact⟨rfl,J,_,HPF.out,HKF.out⟩)
theorem QH{l:List Z4.Z1}(D:Z4.ZA l)(nm:ByteArray):(∀a,a<5->(YK l nm).num a<1073741824)/\0<=(YK l nm).Yp/\(YK l nm).Yp<=2/\0<=(YK l nm).sub/\(YK l nm).sub<4294967296:=by
 unfold YK;by_cases h:Z4.firstIdx (Z4.UO nm) l<0;·rw[aF h];refine⟨λa ha=> ?_,jD,jD,jD,jD⟩;rcases (show a=0\/a=1\/a=2\/a=3\/a=4 from jO) with rfl|rfl|rfl|rfl|rfl<;>decide
 ·rw[aN h];have C:(Z4.firstIdx (Z4.UO nm) l).toNat<l.length:=by rcases Z4.Rj (Z4.UO nm) l with e|⟨e1,e2⟩<;>omega
  obtain⟨_,_,⟨hr,hm⟩,_,_⟩:=Z4.cu (D _ C);obtain⟨m0,I,ms,mp⟩:=hm;refine⟨λa ha=> ?_,m0,I,?_,?_⟩;·have:=hr a ha;unfold Z4.Nx at this;omega
  ·by_cases e:(l[(Z4.firstIdx (Z4.UO nm) l).toNat]!).Yp=0
   ·rw[ms e]
    decide
   ·have:=mp jO;omega
  ·by_cases e:(l[(Z4.firstIdx (Z4.UO nm) l).toNat]!).Yp=0
   ·rw[ms e]
    decide
   ·have:=mp jO;omega
def RF(r:NR):Z3:=(r.cs,YM r.k r.n)
inductive Uh:List NR->List (ByteArray×List Z3)->Prop
 |nil:Uh [] []
 |more {a b:List NR} {nm:ByteArray} {out:List (ByteArray×List Z3)}:Uh a out->b≠[]->(∀r∈b,r.nm=nm)->(∀g,out.getLast? =some g->g.1≠nm)->Uh (a++b) (out++[(nm,b.map RF)])
theorem Uh.len{a:List NR}{out:List (ByteArray×List Z3)}(h:Uh a out):out.length<=a.length:=by
 induction h with
 |nil=>exact aR _
 | @more a b nm out _ hb _ _ C=>
   rw[ay,ay];have:b.length≠0:=λe=>hb (alb.1 e)
   show out.length+1<=_;omega
section
variable (x:Bool) (d:Nat) (l:List Z4.Z1)
def Xu(dn:List (ByteArray×List Z3))(a:Nat):List Xk:=dn.flatMap λg=>Y1 x d (YK l g.1).num g.2 a
def WO(dn:List (ByteArray×List Z3))(m:Nat):List (Nat×Nat):=dn.flatMap λg=>X1 (YK l g.1).Yp (YK l g.1).sub g.2 m
theorem A9(dn:List (ByteArray×List Z3))(g:ByteArray×List Z3)(a:Nat):Xu x d l (dn++[g]) a=Xu x d l dn a++Y1 x d (YK l g.1).num g.2 a:=by
 unfold Xu;rw[aca,ace,asc,adb]
theorem A7(dn:List (ByteArray×List Z3))(g:ByteArray×List Z3)(m:Nat):WO l (dn++[g]) m=WO l dn m++X1 (YK l g.1).Yp (YK l g.1).sub g.2 m:=by
 unfold WO;rw[aca,ace,asc,adb]
theorem QG(dn:List (ByteArray×List Z3))(a:Nat):(Xu x d l dn a).length<=dn.length:=by
 induction dn with
 |nil=>exact aR _
 |cons g r C=>
  unfold Xu at*;rw[ace,ay,ai];have:(Y1 x d (YK l g.1).num g.2 a).length<=1:=by
   unfold Y1;split;·exact abd _
   ·split;·exact abd _
    ·split;·exact abd _
     ·exact aR _
  omega
theorem Vk(dn:List (ByteArray×List Z3))(m:Nat):(WO l dn m).length<=dn.length:=by
 induction dn with
 |nil=>exact aR _
 |cons g r C=>
  unfold WO at*;rw[ace,ay,ai];have:(X1 (YK l g.1).Yp (YK l g.1).sub g.2 m).length<=1:=by
   unfold X1;split;·exact aR _
   ·exact abd _
  omega
end
theorem TK.cell{lo:Nat}{W:World}{rs:List NR}{us:List Value}{a:Option Addr}{n c:Nat}(h:TK lo W (.slice a n c) rs us){i:Nat}{r:NR}(hr:rs[i]? =some r):∃g u,a=some ⟨g,0,none⟩/\g<W.heap.size/\us[i]? =some u/\W.cell? ⟨g,i*4,none⟩=some (.string r.nm)/\W.cell? ⟨g,i*4+1,none⟩=some (.int .i64 r.k)/\W.cell? ⟨g,i*4+2,none⟩=some (.int .i64 r.n)/\W.cell? ⟨g,i*4+3,none⟩=some u/\W.ownsRow lo TC 4 u r.cs.length (r.cs.flatMap cL):=by
 have C:=(ak.1 hr).1;obtain⟨u,hu⟩:∃u,us[i]? =some u:=⟨_,aL (by rw[h.len];exact C)⟩;have hn:n=rs.length:=by obtain⟨a',Z,I⟩:=Z0 h.row;injection I
 subst hn;rcases h.row.2 with⟨e,Y⟩|⟨g,cap,U,e,D,T,_⟩;·omega
 ·injection e with e1 _ e2;subst e1;have at_:∀j,j<4->W.cell? ⟨g,i*4+j,none⟩=(rC r u)[j]? :=λj J=>by rw[h.row.cellAt (i*4+j) jO,Rm rs us i r u hr hu j J]
  exact⟨g,u,rfl,(aac.1 T).1,hu,at_ 0 jD,at_ 1 jD,at_ 2 jD,at_ 3 jD,h.cs i u r hu hr⟩
theorem Yd.more{lo:Nat}{W W':World}{v:Value}{l:List Z3}{us:List Value}{x:Value}{cs:List Z5}{code gb cap:Nat}(h:Yd lo W v l us)(hx:W.ownsRow 0 TC 4 x cs.length (cs.flatMap cL))(U:W.grownBy W' v.ownBlock)(D:W'.ownsRow lo TQ 2 (.slice (some ⟨gb,0,none⟩) (l.length+1) cap) (l.length+1) (Xa l us++[x,.int .u32 code])):Yd lo W' (.slice (some ⟨gb,0,none⟩) (l.length+1) cap) (l++[(cs,code)]) (us++[x]):=by
 have C:∀{u:Value} {ds:List Z5},W.ownsRow 0 TC 4 u ds.length (ds.flatMap cL)->W'.ownsRow 0 TC 4 u ds.length (ds.flatMap cL):=λ{u ds} T=>by
  refine T.kept U ?_;cases hv:v.ownBlock with
  |none=>cases u.ownBlock<;>simp
  |some k=>
   obtain⟨Z,Y⟩:=Xm h.row hv;exact .inr (U4 T Y jD)
 refine⟨?_,?_,λj u r hu hr=> ?_⟩;·rw[ay,ay,h.len];rfl
 ·rw[ay,OW _ _ _ _ h.len];exact D
 ·by_cases J:j<l.length;·rw[abc (by rw[h.len];exact J)] at hu;rw[abc J] at hr;exact C (h.cs j u r hu hr)
  ·rw[aad (by rw[h.len];omega),h.len] at hu;rw[aad jO] at hr
   have I:j-l.length=0:=by have:=(ak.1 hr).1;simp at this;omega
   rw[I] at hu hr;simp at hu hr;subst hu hr;exact C hx
def WN:Array Value:=#[.int .u32 0,.bool false,.slice none 0 0,.slice none 0 0,.slice none 0 0,.slice none 0 0,.slice none 0 0,.slice none 0 0,.slice none 0 0]
structure Ls(lo BN R PL:Nat)(k n:Int)(x:Bool)(nv:Value)(d:Nat)(l:List Z4.Z1)(w:World)(rn:List NR)(us:List Value)(dn:List (ByteArray×List Z3))(ve vs:Nat->Value)(W:World):Prop where
 hn:Z7 W BN VQ #[.int .i64 k,.int .i64 n,.bool x,nv]
 hr:Z7 W R Xw WN
 rows:TK lo W nv rn us
 MX:Yt lo PL W d x ve vs (Xu x d l dn) (WO l dn)
 Zr:Below lo w W
 lw:lo<=W.heap.size
 ne:R≠PL
 lr:lo<=R
section
variable {lo BN R PL:Nat} {k n:Int} {x:Bool} {nv:Value} {d:Nat} {l:List Z4.Z1} {w W W':World} {rn:List NR} {us:List Value} {dn:List (ByteArray×List Z3)} {ve vs:Nat->Value}
theorem Ls.to(h:Ls lo BN R PL k n x nv d l w rn us dn ve vs W)(hb:Below W.heap.size W W'):Ls lo BN R PL k n x nv d l w rn us dn ve vs W':=
 ⟨h.hn.below hb h.hn.lt,h.hr.below hb h.hr.lt,h.rows.Zr hb,h.MX.Zr hb,h.Zr.trans (hb.mono h.lw),aO h.lw hb.size,h.ne,h.lr⟩
theorem Ls.kept{dn':List (ByteArray×List Z3)}{ve' vs':Nat->Value}(h:Ls lo BN R PL k n x nv d l w rn us dn ve vs W)(hk:Kept lo PL W W')(hp:Yt lo PL W' d x ve' vs' (Xu x d l dn') (WO l dn')):Ls lo BN R PL k n x nv d l w rn us dn' ve' vs' W':=
 ⟨hk.keep _ _ _ h.hn jD jD jD,hk.yH _ _ h.hr h.ne,hk.YK h.rows,hp,h.Zr.trans hk.Zr,aO h.lw hk.size,h.ne,h.lr⟩
theorem Ls.start{w5 Wf:World}(hn:Z7 w5 BN VQ #[.int .i64 k,.int .i64 n,.bool x,nv])(hr:Z7 w5 R Xw WN)(D:TK lo w5 nv rn us)(hb:Below lo w w5)(C:lo<=w5.heap.size)(T:lo<=R)(I:Below w5.heap.size w5 Wf)(J:w5.heap.size<=PL)(blk:Z7 Wf PL Xw (U5 d x (λ_=>.slice none 0 0) (λ_=>.slice none 0 0))):
 Ls lo BN R PL k n x nv d l w rn us [] (λ_=>.slice none 0 0) (λ_=>.slice none 0 0) Wf:=
 ⟨hn.below I hn.lt,hr.below I hr.lt,D.Zr I,⟨blk,aO C J,λa _=>⟨[],rfl,anb _ _ _ _,λy hy=>(by cases hy)⟩,λm _=>anb _ _ _ _,λa b _ _ _ k e=>(by cases e),λa b _ _ _ k e=>(by cases e)⟩,hb.trans (I.mono C),aO C I.size,λe=>(by have:=hr.lt;omega),T⟩
end
end Go.Proofs.YtclgigmgbebhgaaGreatDoor
namespace Go.Proofs.YtclgigmgbebhgaaGreatDoor
open Tryz
open Go Go.Proofs
theorem yF:VT=2 ^ 30:=jD
theorem bV{n:Nat}(h:n<VT):n &&& VT=0:=by
 apply Nat.eq_of_testBit_eq;intro i;rw[Nat.testBit_and,Nat.zero_testBit,yF,Nat.testBit_two_pow];by_cases e:30=i;·subst e;rw[Nat.testBit_lt_two_pow (show n<2 ^ 30 from h)];rfl
 ·rw[aeg e,Bool.and_false]
theorem kG{n:Nat}(h:n<VT):(n+VT) &&& VT≠0:=by
 intro e;have e2:=ax (λk=>k.testBit 30) e;simp only[Nat.testBit_and,Nat.zero_testBit] at e2;rw[yF,Nat.testBit_two_pow,Nat.add_comm,Nat.testBit_two_pow_add_eq,Nat.testBit_lt_two_pow (show n<2 ^ 30 from h)] at e2;simp at e2
def Zb(a:Nat):Nat:=if a=2 then O7 else if a=3 then O6 else if a=4 then O5 else Qy
structure Rb(p:YE)(gs:List OX)(s0 s1:List (Nat×Nat)):Prop where
 a0:Ut p.Vl p.d gs s0 s1 0 p.p0
 a1:p.Vl=true->Ut p.Vl p.d gs s0 s1 1 p.p1
 a1n:WE p.p1
 a2:Ut p.Vl p.d gs s0 s1 2 p.p2
 a3:Ut p.Vl p.d gs s0 s1 3 p.p3
 a4:Ut p.Vl p.d gs s0 s1 4 p.p4
 rules:∀g∈gs,Ui g.rules
theorem Rb.ok{p:YE}{gs:List OX}{s0 s1:List (Nat×Nat)}(h:Rb p gs s0 s1):p.ok:=⟨h.a0.1,h.a1n,h.a2.1,h.a3.1,h.a4.1⟩
def bU(w:Nat->Nat)(Vl:Bool)(d a:Nat)(G:List Z3):Nat:=if a=1/\Vl=false then Zm else(ZG (WH w (decide (a≠2))) G).getD d
def fX(gs:List OX)(a n:Nat)(G:List Z3):Prop:=(∃g∈gs,g.num a=n/\g.rules=G/\∀g'∈gs,g'.num a=n->g'=g)\/(G=[]/\∀g∈gs,g.num a≠n)
theorem qO{w:Nat->Nat}(hw:GG w){p:YE}{gs:List OX}{s0 s1:List (Nat×Nat)}(h:Rb p gs s0 s1){a n:Nat}{G:List Z3}(ha:a<5)(hn:n<VT)(D:a=2->n≠102/\n≠117)(J:fX gs a n G)(C:w 4=Zb a)(I:w 0=whole a n):
 Ep w p=bU w p.Vl p.d a G:=by
 unfold Ep bU;have U:n≠NONE:=by have:VT<NONE:=jD;omega
 match a,ha with
 |0,_=>
  have I:w 0=n:=I;rw[aF (show w 4=Qy from C),I];unfold xI;rw[aN U,aN (by rw[bV hn];decide),aN jS];have:=Rk hw h.a0 (λe=>jO) h.rules D J;exact this
 |1,_=>
  have I:w 0=n+VT:=I;rw[aF (show w 4=Qy from C),I];unfold xI;have T:n+VT≠NONE:=by have:VT+VT<NONE:=jD;omega
  rw[aN T,aF (kG hn)];cases hx:p.Vl with
  |false=>rw[aF rfl,aF ⟨rfl,rfl⟩]
  |true=>
   rw[aN jD,aN jS];exact Rk hw (h.a1 hx) (λ_=>hx) h.rules D J
 |2,_=>
  have I:w 0=n:=I;have C:w 4=O7:=C;rw[aN (by rw[C];decide),aF C,I,aN jS];exact Rk hw h.a2 (λe=>jO) h.rules D J
 |3,_=>
  have I:w 0=n:=I;have C:w 4=O6:=C;rw[aN (by rw[C];decide),aN (by rw[C];decide),aF C,I,aN jS];exact Rk hw h.a3 (λe=>jO) h.rules D J
 |4,_=>
  have I:w 0=n:=I;have C:w 4=O5:=C;rw[aN (by rw[C];decide),aN (by rw[C];decide),aN (by rw[C];decide),aF C,I,aN jS];exact Rk hw h.a4 (λe=>jO) h.rules D J
end Go.Proofs.YtclgigmgbebhgaaGreatDoor
namespace Go.Proofs.YtclgigmgbebhgaaGreatDoor
open Tryz
open Go Go.Proofs Go.RowKit
theorem Uh.last{a:List NR}{out:List (ByteArray×List Z3)}(h:Uh a out):(a=[]/\out=[])\/∃r g,a.getLast? =some r/\out.getLast? =some g/\g.1=r.nm:=by
 cases h with
 |nil=>exact .inl ⟨rfl,rfl⟩
 | @more a b nm out h hb hn hl=>
   have hz:b.getLast? =some (b.getLast hb):=aoc hb;refine .inr ⟨b.getLast hb,(nm,b.map RF),?_,jS,(hn _ (axe hb)).symm⟩;rw[ard,hz];rfl
theorem A6{a1 b1 a2 b2:List NR}{nm:ByteArray}(e:a1++b1=a2++b2)(T:∀r∈b1,r.nm=nm)(I:∀r∈b2,r.nm=nm)(J:∀r,a1.getLast? =some r->r.nm≠nm)(D:∀r,a2.getLast? =some r->r.nm≠nm):a1=a2/\b1=b2:=by
 rcases List.append_eq_append_iff.1 e with⟨c,e1,e2⟩|⟨c,e1,e2⟩
 ·cases c with
  |nil=>simp at e1 e2;exact⟨e1.symm,e2⟩
  |cons x c=>
   have C:x::c≠[]:=jS;have hz:=aoc C;have hm:(x::c).getLast C∈b1:=by rw[e2];exact abf.2 (.inl (axe C))
   exact absurd (T _ hm) (D _ (by rw[e1,ard,hz];rfl))
 ·cases c with
  |nil=>simp at e1 e2;exact⟨e1,e2.symm⟩
  |cons x c=>
   have C:x::c≠[]:=jS;have hz:=aoc C;have hm:(x::c).getLast C∈b2:=by rw[e2];exact abf.2 (.inl (axe C))
   exact absurd (I _ hm) (J _ (by rw[e1,ard,hz];rfl))
theorem Uh.uniq{a:List NR}{o1:List (ByteArray×List Z3)}(h1:Uh a o1):∀{Y:List (ByteArray×List Z3)},Uh a Y->o1=Y:=by
 induction h1 with
 |nil=>
  intro Y I;rcases I.last with⟨_,e⟩|⟨r,_,e,_⟩;·exact e.symm
  ·simp at e
 | @more a1 b1 J aI7 h1 C U Z ih=>
   intro Y I;generalize hx:a1++b1=x at I;cases I with
   |nil=>exact absurd (List.append_eq_nil_iff.1 hx).2 C
   | @more a2 b2 nm2 aI8 I D T hl2=>
     have z1:=aoc C;have z2:=aoc D;have e1:(a1++b1).getLast? =some (b1.getLast C):=by rw[ard,z1];rfl
     have e2:(a2++b2).getLast? =some (b2.getLast D):=by rw[ard,z2];rfl
     rw[hx,e2] at e1;have e3:J=nm2:=by rw[<-U _ (axe C),<-T _ (axe D),aq e1]
     subst e3;have la:∀{a:List NR} {o:List (ByteArray×List Z3)},Uh a o->(∀g,o.getLast? =some g->g.1≠J)->∀r,a.getLast? =some r->r.nm≠J:=λ{a o} h hl r hr=>by
      rcases h.last with⟨e,_⟩|⟨r',g,e1,e2,e3⟩;·rw[e] at hr;cases hr
      ·rw[e1] at hr;cases hr;rw[<-e3];exact hl g e2
     obtain⟨ea,eb⟩:=A6 hx U T (la h1 Z) (la I hl2);subst ea eb;rw[ih I]
theorem vI(f:ByteArray->List NR)(hf:∀nm,∀r∈f nm,r.nm=nm):∀(ns:List ByteArray),ns.Nodup->Uh (ns.flatMap f) ((ns.filter (λnm=>decide (f nm≠[]))).map λnm=>(nm,(f nm).map RF)):=by
 intro ns;have J:∀(k:Nat) (ns:List ByteArray),ns.length=k->ns.Nodup->Uh (ns.flatMap f) ((ns.filter (λnm=>decide (f nm≠[]))).map λnm=>(nm,(f nm).map RF)):=by
  intro k
  induction k with
  |zero=>
   intro ns e _;obtain rfl:=alb.1 e;exact Uh.nil
  |succ k U=>
   intro ns e hd;have C:ns≠[]:=λh=>by rw[h] at e;cases e
   have e2:ns=ns.dropLast++[ns.getLast C]:=(apb C).symm;generalize ns.dropLast=q at e2;generalize ns.getLast C=nm at e2;subst e2;have T:=U q (by simpa using e) (atg.1 hd).1;have I:nm∉q:=λh=>(atg.1 hd).2.2 nm h nm jS rfl
   rw[aca,ace,asc,adb,aye,ada];by_cases D:f nm=[];·rw[D,adb,List.filter_cons_of_neg (by simp[D])];simpa using T
   ·rw[List.filter_cons_of_pos (by simp[D])];refine T.more D (hf nm) (λg Y e=> ?_);have:=List.mem_of_getLast? Y;obtain⟨m,hm,rfl⟩:=ah.1 this;have e:m=nm:=e;subst e;exact I (ape.1 hm).1
 exact J ns.length ns rfl
theorem Ra{pr:List NR}{gs:List Uu}(ho:RY pr gs){nm:ByteArray}{r:NR}(h:r∈XW gs nm):r.nm=nm/\∃q∈pr,q.nm=nm/\q.k=r.k/\q.n=r.n/\r.cs.length<=q.cs.length:=by
 unfold XW at h;obtain⟨G,I,h⟩:=aqd.1 h;split at h;·rename_i e;obtain⟨C,q,Y,J,D,U,T⟩:=ho.rs G I r h;exact⟨C.trans e,q,Y,by rw[J,C,e],D,U,T⟩
 ·cases h
theorem Ta{k n:Int}{gs:List Uu}{nm:ByteArray}{r:NR}(h:r∈Ts k n gs nm):r∈XW gs nm:=by
 unfold Ts at h;exact ava.1 ((List.dropWhile_suffix _).subset (ava.1 h))
theorem DA(k n:Int)(gs:List Uu)(nm:ByteArray):(Ts k n gs nm).length<=(XW gs nm).length:=by
 unfold Ts;rw[avb];have:=(List.dropWhile_suffix (λr:NR=>decide (r.k=k/\r.n=n)) (l:=(XW gs nm).reverse)).length_le;rwa [avb] at this
theorem Ke{k n:Int}:∀m:List NR,WB (YM k n) (m.reverse.map RF) ((m.dropWhile (λr=>decide (r.k=k/\r.n=n))).reverse.map RF)
 |[]=>WB.same _
 |z::m=>by
  have C:=Ke (k:=k) (n:=n) m;rw[apf];by_cases h:z.k=k/\z.n=n
  ·rw[aF (by simpa using h),awf,ada];have:RF z=(z.cs,YM k n):=by unfold RF;rw[h.1,h.2]
   rw[aed,aqb,this];exact WB.one C
  ·rw[aN (by simpa using h)];exact WB.same _
theorem Ib{rs g:List Z3}(h:TU rs g):g.length<=rs.length:=by
 induction h with
 |nil=>exact aR _
 |gone _ _ C=>rw[ay];omega
 |hid _ _ _ C=>rw[ay];omega
 |more _ _ _ C=>rw[ay,ay,ai,ai];omega
theorem N1{α:Type}(p:α->Bool):∀l:List α,(l.filter p).length+(l.filter λx=> !p x).length=l.length
 |[]=>rfl
 |x::l=>by have C:=N1 p l;rw[aoe,aoe];cases p x<;>simp<;>omega
theorem Q8{α:Type}{p:α->Bool}{l:List α}{x:α}(h:x∈l.filter p):x∈l:=(ape.1 h).1
theorem OS:∀(ns:List ByteArray) (pr:List NR),ns.Nodup->(ns.map λnm=>(ofName nm pr).length).sum<=pr.length
 |[],pr,_=>abd _
 |nm::ns,pr,h=>by
  have C:=ayc.1 h;have I:=OS ns (pr.filter λr=> !decide (r.nm=nm)) C.2;have e:(ns.map λm=>(ofName m (pr.filter λr=> !decide (r.nm=nm))).length)=ns.map λm=>(ofName m pr).length:=asb (λm hm=>by
   unfold ofName;rw[List.filter_filter]
   congr 1
   apply List.filter_congr;intro r _;by_cases e:r.nm=m
   ·have D:¬r.nm=nm:=λe2=>C.1 (by rw[<-e2,e];exact hm)
    rw[acb e,aeg D];rfl
   ·rw[aeg e];rfl)
  rw[e] at I;rw[aed,akb];have hs:=N1 (λr:NR=>decide (r.nm=nm)) pr;have J:(ofName nm pr).length=(pr.filter λr=>decide (r.nm=nm)).length:=rfl;omega
theorem A5{α:Type}(f g:α->Nat):∀l:List α,(∀x∈l,f x<=g x)->(l.map f).sum<=(l.map g).sum
 |[],_=>aR _
 |x::l,h=>by have C:=h x jS;have D:=A5 f g l (λy hy=>h y (by simp[hy]));rw[aed,aed,akb,akb];omega
theorem Kd{α:Type}(f:α->Nat)(p:α->Bool):∀l:List α,((l.filter p).map f).sum<=(l.map f).sum
 |[]=>aR _
 |x::l=>by
  have C:=Kd f p l;rw[aoe];split;·rw[aed,aed,akb,akb];omega
  ·rw[aed,akb];omega
def qN(k n:Int)(gs:List Uu)(ss:List ByteArray):List (ByteArray×List Z3):=(ss.filter (λnm=>decide (Ts k n gs nm≠[]))).map λnm=>(nm,(Ts k n gs nm).map RF)
structure DnF(pr:List NR)(d:Nat)(dn:List (ByteArray×List Z3)):Prop where
 nodup:(dn.map (·.1)).Nodup
 ne:∀g∈dn,g.2≠[]
 inp:∀g∈dn,∃q∈pr,q.nm=g.1
 rules:∀g∈dn,Ui g.2
 code:∀g∈dn,∀r∈g.2,r.2<4294967296
 cs:∀g∈dn,∀r∈g.2,∃q∈pr,r.1.length<=q.cs.length
 cnt:(dn.map (λg=>g.2.length)).sum<=pr.length
 ri:∀ar:Nat->Nat,(∀a,ar a<YN)->∀nm,(ZG ar (((dn.find? (λg=>decide (g.1=nm))).map (·.2)).getD [])).getD d=(ZG ar ((ofName nm pr).map RF)).getD d
theorem OQ(f:ByteArray->List NR)(nm:ByteArray):∀ns:List ByteArray,(nm∈ns->((((ns.filter (λm=>decide (f m≠[]))).map λm=>(m,(f m).map RF)).find? (λg=>decide (g.1=nm))).map (·.2)).getD []=(f nm).map RF)/\(nm∉ns->((((ns.filter (λm=>decide (f m≠[]))).map λm=>(m,(f m).map RF)).find? (λg=>decide (g.1=nm))).map (·.2)).getD []=[])
 |[]=>⟨λh=>(by cases h),λ_=>rfl⟩
 |m::ns=>by
  obtain⟨D,C⟩:=OQ f nm ns;by_cases J:f m=[]
  ·rw[List.filter_cons_of_neg (by simp[J])];refine⟨λh=> ?_,λh=>C (λI=>h (aff _ I))⟩;by_cases e:nm∈ns;·exact D e
   ·rcases abb.1 h with rfl|h;·rw[C e,J];rfl
    ·exact absurd h e
  ·rw[List.filter_cons_of_pos (by simp[J]),aed];by_cases e:m=nm;·subst e;rw[apg jS];exact⟨λ_=>rfl,λh=>absurd agd h⟩
   ·rw[amf (by simpa using e)];refine⟨λh=>D ?_,λh=>C (λI=>h (aff _ I))⟩;rcases abb.1 h with h|h;·exact absurd h.symm e
    ·exact h
theorem qM{pr:List NR}{gs:List Uu}{ss:List ByteArray}{k n:Int}{rn:List NR}{dn:List (ByteArray×List Z3)}(yK:ss.Perm (gs.map (·.nm)))(fW:gs.Pairwise (λx y=>x.nm≠y.nm))(Z:Tc YM pr gs)(J:RY pr gs)(BM:ss.flatMap (Ts k n gs)=rn)(U:Uh rn dn)
 (hr:∀r∈pr,∀c∈r.cs,c.right) (ha:∀r∈pr,Yk.Zu r.k r.n=true):DnF pr (YM k n) dn:=by
 have T:ss.Nodup:=yK.nodup_iff.2 (afa.2 fW);have e:dn=qN k n gs ss:=by rw[<-BM] at U;exact U.uniq (vI (Ts k n gs) (λnm r h=>(Ra J (Ta h)).1) ss T)
 clear U BM;subst e;have C:∀g∈qN k n gs ss,g.2=(Ts k n gs g.1).map RF/\Ts k n gs g.1≠[]:=λg D=>by obtain⟨nm,h1,rfl⟩:=ah.1 D;exact⟨rfl,by simpa using (ape.1 h1).2⟩
 have yJ:∀nm,∀r∈(ofName nm pr).map RF,∀c∈r.1,c.right:=λnm r h=>by obtain⟨q,I,rfl⟩:=ah.1 h;exact hr q (Q8 I)
 have hN:∀nm,Ui ((XW gs nm).map RF):=λnm=>DU (Z nm) (yJ nm)
 refine⟨?_,λg D=> ?_,λg D=> ?_,λg D r h=> ?_,λg D r h=> ?_,λg D r h=> ?_,?_,λar har nm=> ?_⟩;·unfold qN;rw[akd];have:(ss.filter (λnm=>decide (Ts k n gs nm≠[]))).map ((·.1)∘λnm=>(nm,(Ts k n gs nm).map RF))=ss.filter (λnm=>decide (Ts k n gs nm≠[])):=List.map_id'' (λ_=>rfl) _;rw[this];exact T.filter _
 ·obtain⟨e1,e2⟩:=C g D;rw[e1];exact λh=>e2 (List.map_eq_nil_iff.1 h)
 ·obtain⟨e1,e2⟩:=C g D;obtain⟨r,hr⟩:=List.exists_mem_of_ne_nil _ e2;obtain⟨_,q,I,h2,_⟩:=Ra J (Ta hr);exact⟨q,I,h2⟩
 ·rw[(C g D).1] at h;obtain⟨q,I,rfl⟩:=ah.1 h;exact hN g.1 (RF q) (List.mem_map_of_mem (Ta I))
 ·rw[(C g D).1] at h;obtain⟨q,I,rfl⟩:=ah.1 h;obtain⟨_,q2,Y,_,h3,h4,_⟩:=Ra J (Ta I);have:=(Kh (ha q2 Y)).1;rw[h3,h4] at this;exact this
 ·rw[(C g D).1] at h;obtain⟨q,I,rfl⟩:=ah.1 h;obtain⟨_,q2,Y,_,_,_,h5⟩:=Ra J (Ta I);exact⟨q2,Y,h5⟩
 ·unfold qN;rw[akd];refine aO (Kd _ _ ss) (aO (A5 _ (λnm=>(ofName nm pr).length) ss (λnm _=> ?_)) (OS ss pr T));show((Ts k n gs nm).map RF).length<=_;rw[aab];have h1:=DA k n gs nm;have h2:=Ib (Z nm);rw[aab,aab] at h2;omega
 ·unfold qN
  have hs:(ZG ar ((Ts k n gs nm).map RF)).getD (YM k n)=(ZG ar ((ofName nm pr).map RF)).getD (YM k n):=by have h1:=Ke (k:=k) (n:=n) (XW gs nm).reverse;rw[axd] at h1;have h2:=IE (ar:=ar) h1;have h3:=sS har (Z nm) (yJ nm);show(ZG ar (((XW gs nm).reverse.dropWhile (λr=>decide (r.k=k/\r.n=n))).reverse.map RF)).getD _=_;rw[h2];exact ax (λo:Option Nat=>o.getD (YM k n)) h3
  by_cases hm:nm∈ss;·rw[(OQ (Ts k n gs) nm ss).1 hm];exact hs
  ·rw[(OQ (Ts k n gs) nm ss).2 hm];have h0:XW gs nm=[]:=XR (λG hG e=>hm (yK.mem_iff.2 (ah.2 ⟨G,hG,e⟩)));have h1:Ts k n gs nm=[]:=by unfold Ts;rw[h0];rfl
   rw[h1] at hs;exact hs
end Go.Proofs.YtclgigmgbebhgaaGreatDoor
