/- TopOther: part 44: TopOth. -/
import Derived.Test.YtclgigmgbebhgaaGreatDoorO43
set_option linter.unusedVariables false
set_option linter.unusedSimpArgs false
set_option maxRecDepth 100000
set_option maxHeartbeats 16000000
namespace Go.Proofs.YtclgigmgbebhgaaGreatDoor
open Tryz
open Go Go.Proofs Go.RowKit Go.Deep
@[go_sem] abbrev dI:Oper:=⟨some 46,.buildSlice 35 0 #[],35,"top15.go:155",#[],none⟩
@[go_sem] abbrev nU:Oper:=⟨some 49,.call {callee:=.builtin .append,args:=#[.tmp 46,.tmp 48],argTypes:=#[35,35]},35,"top15.go:155",#[⟨0,.data⟩,⟨2,.data⟩],none⟩
@[go_sem] abbrev nS:Oper:=⟨some 51,.buildSlice 35 1 #[(0,.tmp 50)],35,"top15.go:155",#[⟨4,.data⟩],none⟩
@[go_sem] abbrev nR:Oper:=⟨some 52,.call {callee:=.builtin .append,args:=#[.tmp 49,.tmp 51],argTypes:=#[35,35]},35,"top15.go:155",#[⟨3,.data⟩,⟨5,.data⟩,⟨3,.chain⟩],none⟩
@[go_sem] abbrev nQ:Oper:=⟨some 53,.fieldAddr 37 (.tmp 7) 2,0,"top15.go:155",#[⟨0,.phase⟩,⟨1,.phase⟩,⟨2,.phase⟩,⟨3,.phase⟩,⟨4,.phase⟩,⟨5,.phase⟩,⟨6,.phase⟩],none⟩
@[go_sem] abbrev nP:Oper:=⟨none,.store 35 (.tmp 53) (.tmp 52),0,"top15.go:155",#[⟨7,.data⟩,⟨6,.data⟩,⟨6,.chain⟩,⟨0,.phase⟩,⟨1,.phase⟩,⟨2,.phase⟩,⟨3,.phase⟩,⟨4,.phase⟩,⟨5,.phase⟩,⟨6,.phase⟩],none⟩
theorem ae1:(prog.info? 34).map (λi=>(i.zero,i.size,i.bytes))=some (some (.agg #[.string ⟨#[]⟩,.int .i64 0,.int .i64 0,.slice none 0 0]),4,56):=jK
theorem ae2{k n qk qn:Int}{x:Bool}{rs:List Z0.ZJ}{U6:ByteArray}{Fz:List Z0.YK}{pa qu sa:Option Addr}{pc MS sc LP LL LC:Nat}{l:List Z4.Z2}(hLP:rs.length=LP)(hLL:l.length=LL)(hLC:Fz.length=LC)(w:World)(h1:Z0.Yd w.heap.size w (.slice pa LP pc) rs)(f1:Z0.Cv pa LP pc)(hq:Z0.Xv w.heap.size w qu Fz)(n1:∀r∈rs,∀c∈r.conds,Z0.Pv c)(n2:∀c∈Fz,Z0.Pv c)(hrow:Z4.X2 w (.slice sa LL sc) l)(hp:Zh.Xb w):
 Calls prog 4 #[.agg #[.int .i64 k,.int .i64 n,.bool x,.slice pa LP pc],.slice sa LL sc,.agg #[.string U6,.int .i64 qk,.int .i64 qn,.slice qu LC MS]] w λe w'=>e=.returned (.bool true)/\Below w.heap.size w w':=by
 obtain⟨us,hus,hnw⟩:=h1.us;have HLP:=aT hLP;have HLC:=aT hLC;have HLL:=aT hLL;have HP:=aT hp;have nN:=aT hrow;have HI:=aT h1;have HN1:=aT n1;have nj:=aT n2;have HSF:Hid (Z0.Cv pa LP pc):=f1;have mQ:Hid ((Z0.Yi rs us).length=LP*4):=by rw[<-hLP];exact Z0.NJ rs us hus.1
 have ae3:Hid (∀W,Below w.heap.size w W->∀ad,pa=some ad->∀j u,(Z0.Yi rs us)[j]? =some u->W.cell? (ad.add j)=some u):=λW hb ad e j u hj=>Z0.SI hb (hnw ad e j u hj)
 have rV:Hid (∀u∈Z0.Yi rs us,u.oneCell'=true):=hus.one;have ae4:(rs++[(⟨U6,qk,qn,Fz⟩:Z0.ZJ)]).length=LP+1:=by rw[ay,hLP];rfl
 have nM:Hid (∀(LO:Nat) (v2:Value) (W2:World),Below w.heap.size w W2->W2.ownsRow LO R4 4 v2 (0+LP+1) ([]++Z0.Yi rs us++[.string U6,.int .i64 qk,.int .i64 qn,.slice qu LC MS])->Z0.Yd W2.heap.size W2 v2 (rs++[(⟨U6,qk,qn,Fz⟩:Z0.ZJ)])):=λLO v2 W2 hb ho=>by have hsn:=(hus.below hb (aR _)).snoc (r:=(⟨U6,qk,qn,Fz⟩:Z0.ZJ)) (uc:=MS) (hq.below hb (aR _));refine Z0.Yd.ap3 (N:=w.heap.size) (us:=us++[.slice qu Fz.length MS]) (lo:=LO) (t:=R4) ?_ hsn hb.size;rw[ae4,Z0.OU rs us ⟨U6,qk,qn,Fz⟩ _ hus.1];rw[aca,age] at ho;rw[hLC];exact ho
 have ae5:=aT ae4;generalize Z0.Yi rs us=Cq at*;have Cb:=aT (KM w (.cells #[.int .i64 k,.int .i64 n,.bool x,.slice pa LP pc] EF) (.cells #[.string U6,.int .i64 qk,.int .i64 qn,.slice qu LC MS] R4));have HX:=aT ((Z7.new w EF #[.int .i64 k,.int .i64 n,.bool x,.slice pa LP pc]).alloc (.cells #[.string U6,.int .i64 qk,.int .i64 qn,.slice qu LC MS] R4));have HY:=aT (Z7.O9 w (.cells #[.int .i64 k,.int .i64 n,.bool x,.slice pa LP pc] EF) R4 #[.string U6,.int .i64 qk,.int .i64 qn,.slice qu LC MS]);have HAw:=aT uD;clear hus hnw hLL hp hrow h1 f1 hq n1 n2 ae4;go_enter func4,ntmps4;go_upto_region 1 with fail;generalize (w.alloc (.cells #[.int .i64 k,.int .i64 n,.bool x,.slice pa LP pc] EF)).alloc (.cells #[.string U6,.int .i64 qk,.int .i64 qn,.slice qu LC MS] R4)=w1 at*;obtain⟨⟨x0,x1,x2,x3⟩,_⟩:=Z8 HX.out;go_cut [44] (λs wx=>∃b:Bool,s=.bool b/\Hid (b=false->Ri rs/\CN l/\LP<=39/\U6.size<=60/\LC<=12)/\Hid (Below w1.heap.size w1 wx))
 case first=>
  have HLi:Hid (∀W,Below w1.heap.size w1 W->Calls prog 15 #[.agg #[.int .i64 k,.int .i64 n,.bool x,.slice pa LP pc]] W (CO (Ri rs) W)):=λW Z=>zR (N0:=w.heap.size) W (aO Cb.out.size Z.size) (HI.out.below (Cb.out.trans (Z.mono Cb.out.size)) (aR _))
  have HFw:Hid (∀W,Below w1.heap.size w1 W->Calls prog 16 #[.slice sa LL sc] W (CO (CN l) W)):=λW Z=>oG _ l W (nN.out.below (Cb.out.trans (Z.mono Cb.out.size)))
  clear nN HI HN1 nj mQ ae3 rV nM ae5 HP HSF;by_cases hL:Ri rs
  ·have HLt:=aT (λW Z=>(HLi.out W Z).mono (λe w' h=>Ct hL h));by_cases hF:CN l
   ·have HFt:=aT (λW Z=>(HFw.out W Z).mono (λe w' h=>Ct hF h));by_cases h39:39<LP
    ·have z39:(39:Int)<(LP:Int):=by omega
     go_wp2_with (first
      |(go_at_call 15;refine(HLt.out _ (aH _ w1)).mono ?_;rintro e w2 ⟨rfl,J⟩)
      |(go_at_call 16;refine(HFt.out _ J).mono ?_;rintro e w3 ⟨rfl,hb3⟩;have Y:Below w1.heap.size w1 w3:=J.trans (hb3.mono J.size);obtain⟨⟨a0,a1,a2,a3⟩,_⟩:=Z8 (HX.out.below Y HX.out.lt);obtain⟨⟨b0,b1,b2,b3⟩,_⟩:=Z8 (HY.out.below Y HY.out.lt)))
     go_meet;exact⟨_,rfl,(λe=>by cases e),Y⟩
    ·have z39:¬(39:Int)<(LP:Int):=by omega
     by_cases h60:60<U6.size
     ·have z60:(60:Int)<(U6.size:Int):=by omega
      go_wp2_with (first
       |(go_at_call 15;refine(HLt.out _ (aH _ w1)).mono ?_;rintro e w2 ⟨rfl,J⟩)
       |(go_at_call 16;refine(HFt.out _ J).mono ?_;rintro e w3 ⟨rfl,hb3⟩;have Y:Below w1.heap.size w1 w3:=J.trans (hb3.mono J.size);obtain⟨⟨a0,a1,a2,a3⟩,_⟩:=Z8 (HX.out.below Y HX.out.lt);obtain⟨⟨b0,b1,b2,b3⟩,_⟩:=Z8 (HY.out.below Y HY.out.lt)))
      go_meet;exact⟨_,rfl,(λe=>by cases e),Y⟩
     ·have z60:¬(60:Int)<(U6.size:Int):=by omega
      by_cases h12:12<LC
      ·have z12:(12:Int)<(LC:Int):=by omega
       go_wp2_with (first
        |(go_at_call 15;refine(HLt.out _ (aH _ w1)).mono ?_;rintro e w2 ⟨rfl,J⟩)
        |(go_at_call 16;refine(HFt.out _ J).mono ?_;rintro e w3 ⟨rfl,hb3⟩;have Y:Below w1.heap.size w1 w3:=J.trans (hb3.mono J.size);obtain⟨⟨a0,a1,a2,a3⟩,_⟩:=Z8 (HX.out.below Y HX.out.lt);obtain⟨⟨b0,b1,b2,b3⟩,_⟩:=Z8 (HY.out.below Y HY.out.lt)))
       go_meet;exact⟨_,rfl,(λe=>by cases e),Y⟩
      ·have z12:¬(12:Int)<(LC:Int):=by omega
       go_wp2_with (first
        |(go_at_call 15;refine(HLt.out _ (aH _ w1)).mono ?_;rintro e w2 ⟨rfl,J⟩)
        |(go_at_call 16;refine(HFt.out _ J).mono ?_;rintro e w3 ⟨rfl,hb3⟩;have Y:Below w1.heap.size w1 w3:=J.trans (hb3.mono J.size);obtain⟨⟨a0,a1,a2,a3⟩,_⟩:=Z8 (HX.out.below Y HX.out.lt);obtain⟨⟨b0,b1,b2,b3⟩,_⟩:=Z8 (HY.out.below Y HY.out.lt)))
       go_meet;exact⟨_,rfl,(λ_=>⟨hL,hF,jO,jO,jO⟩),Y⟩
   ·have HFt:=aT (λW Z=>(HFw.out W Z).mono (λe w' h=>GN hF h))
    go_wp2_with (first
     |(go_at_call 15;refine(HLt.out _ (aH _ w1)).mono ?_;rintro e w2 ⟨rfl,J⟩)
     |(go_at_call 16;refine(HFt.out _ J).mono ?_;rintro e w3 ⟨rfl,hb3⟩;have Y:Below w1.heap.size w1 w3:=J.trans (hb3.mono J.size);obtain⟨⟨a0,a1,a2,a3⟩,_⟩:=Z8 (HX.out.below Y HX.out.lt);obtain⟨⟨b0,b1,b2,b3⟩,_⟩:=Z8 (HY.out.below Y HY.out.lt)))
    go_meet;exact⟨_,rfl,(λe=>by cases e),Y⟩
  ·have HLt:=aT (λW Z=>(HLi.out W Z).mono (λe w' h=>GN hL h))
   go_wp2_with (first
    |(go_at_call 15;refine(HLt.out _ (aH _ w1)).mono ?_;rintro e w2 ⟨rfl,J⟩))
   go_meet;exact⟨_,rfl,(λe=>by cases e),J⟩
 case rest=>
  obtain⟨b,rfl,HG,Uy⟩:=hcut;generalize hwc:wc=w3 at*;clear hwc;have D:=aT (Cb.out.trans (Uy.out.mono Cb.out.size));cases b with
  |true=>
   go_wp2_with fail;go_ret;exact⟨rfl,D.out⟩
  |false=>
  have hG:=HG.out rfl;have aL1:=hG.2.2.1;have KH:=aT hG;clear hG HG;have yz:=aT (HX.out.below Uy.out HX.out.lt);have HY3:=aT (HY.out.below Uy.out HY.out.lt);clear HX HY Cb Uy;obtain⟨⟨p0,p1,p2,p3⟩,_⟩:=Z8 yz.out;go_upto_region 4 with fail;clear p0 p1 p2 p3;have nL:=aT (Yl w3 (.cells #[.int .i64 k,.int .i64 n,.bool x,.slice pa LP pc] EF));have F4:=aT (Z7.new w3 EF #[.int .i64 k,.int .i64 n,.bool x,.slice pa LP pc]);have nK:Hid (∀w',Below w3.heap.size w3 w'->(w'.cell? ⟨w.heap.size,3,none⟩=some (.slice pa LP pc)/\w'.cell? ⟨w.heap.size+1,0,none⟩=some (.string U6)/\w'.cell? ⟨w.heap.size+1,1,none⟩=some (.int .i64 qk)/\w'.cell? ⟨w.heap.size+1,2,none⟩=some (.int .i64 qn)/\w'.cell? ⟨w.heap.size+1,3,none⟩=some (.slice qu LC MS))):=λW Z=>by have a:=yz.out.below Z yz.out.lt;have b:=HY3.out.below Z HY3.out.lt;exact⟨a.cell 3,b.cell 0,b.cell 1,b.cell 2,b.cell 3⟩
  generalize w3.alloc (.cells #[.int .i64 k,.int .i64 n,.bool x,.slice pa LP pc] EF)=w4 at*;obtain⟨QB,ap4⟩:=jX w3.heap.size;have hQB:w3.heap.size<=QB:=Nat.le_of_eq ap4;have U:Hid (∀w',Below w4.heap.size w4 w'->(w'.cell? ⟨w.heap.size,3,none⟩=some (.slice pa LP pc)/\w'.cell? ⟨w.heap.size+1,0,none⟩=some (.string U6)/\w'.cell? ⟨w.heap.size+1,1,none⟩=some (.int .i64 qk)/\w'.cell? ⟨w.heap.size+1,2,none⟩=some (.int .i64 qn)/\w'.cell? ⟨w.heap.size+1,3,none⟩=some (.slice qu LC MS))):=λW Z=>nK.out W (nL.out.trans (Z.mono nL.out.size))
  obtain⟨LO,RX⟩:=jX w4.heap.size;have Ef:Hid (w4.heap.size=LO):=RX;have fX:Hid (∀W,Below w4.heap.size w4 W->∀ad,pa=some ad->∀j u,Cq[j]? =some u->W.cell? (ad.add j)=some u):=λW hb=>ae3.out W ((D.out.trans (nL.out.mono D.out.size)).trans (hb.mono (D.out.trans (nL.out.mono D.out.size)).size))
  have Vm:Hid (∀(v2:Value) (W2:World),Below w3.heap.size w3 W2->W2.ownsRow LO R4 4 v2 (0+LP+1) ([]++Cq++[.string U6,.int .i64 qk,.int .i64 qn,.slice qu LC MS])->Z0.Yd W2.heap.size W2 v2 (rs++[(⟨U6,qk,qn,Fz⟩:Z0.ZJ)])):=λv2 W2 hb ho=>nM.out LO v2 W2 (D.out.trans (hb.mono D.out.size)) ho
  obtain⟨i0,hi,hz0,hz1,hz2⟩:=ZP ae1;have gQ:0+LP<=maxLen:=by show 0+LP<=9223372036854775807;omega
  have gM:(0+LP)*56<=140737488355328:=jO;have gL:0+LP+1<=maxLen:=by show 0+LP+1<=9223372036854775807;omega
  have gK:(0+LP+1)*56<=140737488355328:=jO;have xI:∀u∈([.string U6,.int .i64 qk,.int .i64 qn,.slice qu LC MS]:List Value),u.oneCell'=true:=λu hu=>by simp only[abf,ajf,atg] at hu;rcases hu with rfl|rfl|rfl|rfl<;>rfl
  rw[ap4] at F4 ⊢;clear RX ae3 nM hLP hLC;go_cut [52] (λ_ wx=>∃va vc,Hid (Z7 wx QB EF #[.int .i64 k,.int .i64 n,.bool x,.slice va (LP+1) vc])/\Hid (Z0.Yd wx.heap.size wx (.slice va (LP+1) vc) (rs++[(⟨U6,qk,qn,Fz⟩:Z0.ZJ)]))/\Hid (Below w3.heap.size w3 wx))
  case first=>
   refine auc ?_;refine akd (S:=λw'=>w'.cell? ⟨w.heap.size,3,none⟩=some (.slice pa LP pc)/\w'.cell? ⟨w.heap.size+1,0,none⟩=some (.string U6)/\w'.cell? ⟨w.heap.size+1,1,none⟩=some (.int .i64 qk)/\w'.cell? ⟨w.heap.size+1,2,none⟩=some (.int .i64 qn)/\w'.cell? ⟨w.heap.size+1,3,none⟩=some (.slice qu LC MS)) jK (by first|exact U.out _ (aH _ w4).drew) (λhHeld=> ?_);refine jT 1 ⟨some 47,.fieldAddr 37 (.tmp 3) 2,0,"top15.go:155",#[],none⟩ ?_;try simp only[Act.put,aS,aP,aQ]
   refine jT 2 ⟨some 48,.load 35 (.tmp 47),35,"top15.go:155",#[⟨1,.data⟩],none⟩ ?_;try simp only[Act.put,aS,aP,aQ]
   refine jT 4 ⟨some 50,.load 34 (.tmp 5),34,"top15.go:155",#[],none⟩ ?_;try simp only[Act.put,aS,aP,aQ]
   have np:=aT ((aH w4.heap.size w4).drew);clear hHeld;generalize w4.drew=dH at*;refine aaf (rs:=[0,5]) jK jS ?_;refine ag (o:=dI) rfl (λK' T=> ?_) ?_
   ·
    refine Z0.GP _ 35 jR underlying35 hi hz1 ?_;have DX:=aT (np.out.alloc np.out.size (.cells #[] R4));have on1:Hid ((dH.alloc (.cells #[] R4)).ownsRow LO R4 4 (.slice (some ⟨dH.heap.size,0,none⟩) 0 0) 0 []):=World.ownsRow_lit (base:=LO) dH #[] 0 (by have:=np.out.size;have:=Ef.out;omega) jD rfl;refine T.out _ _ (U.out _ DX.out) (λhHeld=> ?_);clear T K';try simp only[Act.put,aS,aP,aQ]
    clear hHeld np;generalize dH.alloc (.cells #[] R4)=wn1 at*;generalize dH.heap.size=Zn1 at*;refine aaf (rs:=[3,5]) jK jS ?_;refine ag (o:=nU) rfl (λK' T=> ?_) ?_
    ·
     refine Z0.XO _ _ _ 35 jR LO R4 i0 (.agg #[.string ⟨#[]⟩,.int .i64 0,.int .i64 0,.slice none 0 0]) 4 56 underlying35 hi hz0 hz1 hz2 rfl jD (.slice (some ⟨Zn1,0,none⟩) 0 0) 0 [] jR on1.out pa LP pc Cq jR HSF.out mQ.out (fX.out _ DX.out) rV.out gQ gM (by have:=DX.out.size;have:=Ef.out;omega) ?_;intro v2 wn2 A C;have bZ:=aT (DX.out.grown C DX.out.size (λr e=>by have:=(on1.out.lt r e).1;have:=Ef.out;omega));have on2:=aT A;refine T.out _ _ (U.out _ bZ.out) (λhHeld=> ?_);clear T K';try simp only[Act.put,aS,aP,aQ]
     clear hHeld A C DX on1;refine aaf (rs:=[5]) jK jS ?_;refine ag (o:=nS) rfl (λK' T=> ?_) ?_
     ·
      have hn3:=aT (bZ.out.alloc bZ.out.size (.cells #[.string U6,.int .i64 qk,.int .i64 qn,.slice qu LC MS] R4));have qn3:=aT (Z7.new wn2 R4 #[.string U6,.int .i64 qk,.int .i64 qn,.slice qu LC MS]);have on3:=aT (on2.out.alloc (.cells #[.string U6,.int .i64 qk,.int .i64 qn,.slice qu LC MS] R4));go_simp;refine T.out _ _ (U.out _ hn3.out) (λhHeld=> ?_);clear T K';try simp only[Act.put,aS,aP,aQ]
      clear hHeld bZ on2;generalize wn2.alloc (.cells #[.string U6,.int .i64 qk,.int .i64 qn,.slice qu LC MS] R4)=wn3 at*;generalize wn2.heap.size=Qn3 at*;refine aaf (rs:=[6]) jK jS ?_;refine ag (o:=nR) rfl (λK' T=> ?_) ?_
      ·
       refine Z0.XO _ _ _ 35 jR LO R4 i0 (.agg #[.string ⟨#[]⟩,.int .i64 0,.int .i64 0,.slice none 0 0]) 4 56 underlying35 hi hz0 hz1 hz2 rfl jD v2 (0+LP) ([]++Cq) jR on3.out (some ⟨Qn3,0,none⟩) 1 1 [.string U6,.int .i64 qk,.int .i64 qn,.slice qu LC MS] jR (.inr ⟨_,rfl,aR _⟩) rfl (λad e j u hj=>by cases e;rw[Addr.add_lit,aca,qn3.out.cell j,ak];exact hj) xI gL gK (by have:=hn3.out.size;have:=Ef.out;omega) ?_;intro v4 wn4 A C;obtain⟨sa4,sc4,rfl⟩:∃a c,v4=.slice a (LP+1) c:=Z0.Z1 A jO;have hn4:=aT (hn3.out.grown C hn3.out.size (λr e=>by have:=(on3.out.lt r e).1;have:=Ef.out;omega));have on4:=aT A;refine T.out _ _ (U.out _ hn4.out) (λhHeld=> ?_);clear T K';try simp only[Act.put,aS,aP,aQ]
       clear A C hn3 on3 qn3;refine jT 7 nQ ?_;try simp only[Act.put,aS,aP,aQ]
       refine aaf (rs:=[8]) jK jS ?_;refine ag (o:=nP) rfl (λK' T=> ?_) aab;have HF:=aT (F4.out.below hn4.out F4.out.lt);have z3:=HF.out.frozen 3;have y3:wn4.cell? ⟨QB,3,none⟩=some (.slice pa LP pc):=HF.out.cell 3;have I:Hid (Below w3.heap.size w3 (wn4.setCell ⟨QB,3,none⟩ (.slice sa4 (LP+1) sc4))):=(nL.out.trans (hn4.out.mono nL.out.size)).setCell (p:=⟨QB,3,none⟩) hQB _;have D:Hid (Z7 (wn4.setCell ⟨QB,3,none⟩ (.slice sa4 (LP+1) sc4)) QB EF #[.int .i64 k,.int .i64 n,.bool x,(.slice sa4 (LP+1) sc4)]):=HF.out.set 3 (.slice sa4 (LP+1) sc4);have dG:Hid (Z0.Yd (wn4.setCell ⟨QB,3,none⟩ (.slice sa4 (LP+1) sc4)).heap.size (wn4.setCell ⟨QB,3,none⟩ (.slice sa4 (LP+1) sc4)) (.slice sa4 (LP+1) sc4) (rs++[(⟨U6,qk,qn,Fz⟩:Z0.ZJ)])):=Vm.out _ _ I.out (Z0.MX on4.out HF.out jD);go_simp;refine T.out _ _ (nK.out _ I.out) (λhHeld=> ?_);clear T K' hHeld;try simp only[Act.put,aS,aP,aQ]
       refine ama jK ?_ _;refine apf ?_;go_wp2_with fail;go_meet;exact⟨_,_,D,dG,I⟩
      exact aab
     exact aab
    refine ag (o:=nS) rfl (λK' T=> ?_) ?_
    ·
     have hn6:=aT (DX.out.alloc DX.out.size (.cells #[.string U6,.int .i64 qk,.int .i64 qn,.slice qu LC MS] R4));have qn6:=aT (Z7.new wn1 R4 #[.string U6,.int .i64 qk,.int .i64 qn,.slice qu LC MS]);have on6:=aT (on1.out.alloc (.cells #[.string U6,.int .i64 qk,.int .i64 qn,.slice qu LC MS] R4));have nz6:Zn1≠wn1.heap.size:=Nat.ne_of_lt (on1.out.lt Zn1 rfl).2;go_simp;refine T.out _ _ (U.out _ hn6.out) (λhHeld=> ?_);clear T K';try simp only[Act.put,aS,aP,aQ]
     clear hHeld DX on1;generalize wn1.alloc (.cells #[.string U6,.int .i64 qk,.int .i64 qn,.slice qu LC MS] R4)=wn6 at*;generalize wn1.heap.size=Qn6 at*;refine aaf (rs:=[3]) jK jS ?_;refine ag (o:=nU) rfl (λK' T=> ?_) ?_
     ·
      refine Z0.XO _ _ _ 35 jR LO R4 i0 (.agg #[.string ⟨#[]⟩,.int .i64 0,.int .i64 0,.slice none 0 0]) 4 56 underlying35 hi hz0 hz1 hz2 rfl jD (.slice (some ⟨Zn1,0,none⟩) 0 0) 0 [] jR on6.out pa LP pc Cq jR HSF.out mQ.out (fX.out _ hn6.out) rV.out gQ gM (by have:=hn6.out.size;have:=Ef.out;omega) ?_;intro v7 wn7 A C;have hn7:=aT (hn6.out.grown C hn6.out.size (λr e=>by have:=(on6.out.lt r e).1;have:=Ef.out;omega));have on7:=aT A;have qn7:=aT (Z0.G0 qn6.out C (λr e=>by cases e;exact nz6));refine T.out _ _ (U.out _ hn7.out) (λhHeld=> ?_);clear T K';try simp only[Act.put,aS,aP,aQ]
      clear hHeld A C hn6 on6 qn6;refine aaf (rs:=[6]) jK jS ?_;refine ag (o:=nR) rfl (λK' T=> ?_) ?_
      ·
       refine Z0.XO _ _ _ 35 jR LO R4 i0 (.agg #[.string ⟨#[]⟩,.int .i64 0,.int .i64 0,.slice none 0 0]) 4 56 underlying35 hi hz0 hz1 hz2 rfl jD v7 (0+LP) ([]++Cq) jR on7.out (some ⟨Qn6,0,none⟩) 1 1 [.string U6,.int .i64 qk,.int .i64 qn,.slice qu LC MS] jR (.inr ⟨_,rfl,aR _⟩) rfl (λad e j u hj=>by cases e;rw[Addr.add_lit,aca,qn7.out.cell j,ak];exact hj) xI gL gK (by have:=hn7.out.size;have:=Ef.out;omega) ?_;intro v8 wn8 A C;obtain⟨sa8,sc8,rfl⟩:∃a c,v8=.slice a (LP+1) c:=Z0.Z1 A jO;have hn8:=aT (hn7.out.grown C hn7.out.size (λr e=>by have:=(on7.out.lt r e).1;have:=Ef.out;omega));have on8:=aT A;refine T.out _ _ (U.out _ hn8.out) (λhHeld=> ?_);clear T K';try simp only[Act.put,aS,aP,aQ]
       clear A C hn7 on7 qn7;refine jT 7 nQ ?_;try simp only[Act.put,aS,aP,aQ]
       refine aaf (rs:=[8]) jK jS ?_;refine ag (o:=nP) rfl (λK' T=> ?_) aab;have HF:=aT (F4.out.below hn8.out F4.out.lt);have z3:=HF.out.frozen 3;have y3:wn8.cell? ⟨QB,3,none⟩=some (.slice pa LP pc):=HF.out.cell 3;have I:Hid (Below w3.heap.size w3 (wn8.setCell ⟨QB,3,none⟩ (.slice sa8 (LP+1) sc8))):=(nL.out.trans (hn8.out.mono nL.out.size)).setCell (p:=⟨QB,3,none⟩) hQB _;have D:Hid (Z7 (wn8.setCell ⟨QB,3,none⟩ (.slice sa8 (LP+1) sc8)) QB EF #[.int .i64 k,.int .i64 n,.bool x,(.slice sa8 (LP+1) sc8)]):=HF.out.set 3 (.slice sa8 (LP+1) sc8);have dG:Hid (Z0.Yd (wn8.setCell ⟨QB,3,none⟩ (.slice sa8 (LP+1) sc8)).heap.size (wn8.setCell ⟨QB,3,none⟩ (.slice sa8 (LP+1) sc8)) (.slice sa8 (LP+1) sc8) (rs++[(⟨U6,qk,qn,Fz⟩:Z0.ZJ)])):=Vm.out _ _ I.out (Z0.MX on8.out HF.out jD);go_simp;refine T.out _ _ (nK.out _ I.out) (λhHeld=> ?_);clear T K' hHeld;try simp only[Act.put,aS,aP,aQ]
       refine ama jK ?_ _;refine apf ?_;go_wp2_with fail;go_meet;exact⟨_,_,D,dG,I⟩
      exact aab
     exact aab
    exact aab
   refine ag (o:=nS) rfl (λK' T=> ?_) ?_
   ·
    have nJ:=aT (np.out.alloc np.out.size (.cells #[.string U6,.int .i64 qk,.int .i64 qn,.slice qu LC MS] R4));have ae6:=aT (Z7.new dH R4 #[.string U6,.int .i64 qk,.int .i64 qn,.slice qu LC MS]);go_simp;refine T.out _ _ (U.out _ nJ.out) (λhHeld=> ?_);clear T K';try simp only[Act.put,aS,aP,aQ]
    clear hHeld np;generalize dH.alloc (.cells #[.string U6,.int .i64 qk,.int .i64 qn,.slice qu LC MS] R4)=ue at*;generalize dH.heap.size=ap5 at*;refine aaf (rs:=[0]) jK jS ?_;refine ag (o:=dI) rfl (λK' T=> ?_) ?_
    ·
     refine Z0.GP _ 35 jR underlying35 hi hz1 ?_;have ud:=aT (nJ.out.alloc nJ.out.size (.cells #[] R4));have ae7:Hid ((ue.alloc (.cells #[] R4)).ownsRow LO R4 4 (.slice (some ⟨ue.heap.size,0,none⟩) 0 0) 0 []):=World.ownsRow_lit (base:=LO) ue #[] 0 (by have:=nJ.out.size;have:=Ef.out;omega) jD rfl;have ap6:=aT (ae6.out.alloc (.cells #[] R4));have aE4:ue.heap.size≠ap5:=(Nat.ne_of_lt ae6.out.lt).symm;refine T.out _ _ (U.out _ ud.out) (λhHeld=> ?_);clear T K';try simp only[Act.put,aS,aP,aQ]
     clear hHeld nJ ae6;generalize ue.alloc (.cells #[] R4)=aL2 at*;generalize ue.heap.size=aE5 at*;refine aaf (rs:=[3]) jK jS ?_;refine ag (o:=nU) rfl (λK' T=> ?_) ?_
     ·
      refine Z0.XO _ _ _ 35 jR LO R4 i0 (.agg #[.string ⟨#[]⟩,.int .i64 0,.int .i64 0,.slice none 0 0]) 4 56 underlying35 hi hz0 hz1 hz2 rfl jD (.slice (some ⟨aE5,0,none⟩) 0 0) 0 [] jR ae7.out pa LP pc Cq jR HSF.out mQ.out (fX.out _ ud.out) rV.out gQ gM (by have:=ud.out.size;have:=Ef.out;omega) ?_;intro v12 aL3 A C;have nI:=aT (ud.out.grown C ud.out.size (λr e=>by have:=(ae7.out.lt r e).1;have:=Ef.out;omega));have ae8:=aT A;have ap7:=aT (Z0.G0 ap6.out C (λr e=>by cases e;exact aE4));refine T.out _ _ (U.out _ nI.out) (λhHeld=> ?_);clear T K';try simp only[Act.put,aS,aP,aQ]
      clear hHeld A C ud ae7 ap6;refine aaf (rs:=[6]) jK jS ?_;refine ag (o:=nR) rfl (λK' T=> ?_) ?_
      ·
       refine Z0.XO _ _ _ 35 jR LO R4 i0 (.agg #[.string ⟨#[]⟩,.int .i64 0,.int .i64 0,.slice none 0 0]) 4 56 underlying35 hi hz0 hz1 hz2 rfl jD v12 (0+LP) ([]++Cq) jR ae8.out (some ⟨ap5,0,none⟩) 1 1 [.string U6,.int .i64 qk,.int .i64 qn,.slice qu LC MS] jR (.inr ⟨_,rfl,aR _⟩) rfl (λad e j u hj=>by cases e;rw[Addr.add_lit,aca,ap7.out.cell j,ak];exact hj) xI gL gK (by have:=nI.out.size;have:=Ef.out;omega) ?_;intro v13 nH A C;obtain⟨zz,zy,rfl⟩:∃a c,v13=.slice a (LP+1) c:=Z0.Z1 A jO;have ae9:=aT (nI.out.grown C nI.out.size (λr e=>by have:=(ae8.out.lt r e).1;have:=Ef.out;omega));have aE6:=aT A;refine T.out _ _ (U.out _ ae9.out) (λhHeld=> ?_);clear T K';try simp only[Act.put,aS,aP,aQ]
       clear A C nI ae8 ap7;refine jT 7 nQ ?_;try simp only[Act.put,aS,aP,aQ]
       refine aaf (rs:=[8]) jK jS ?_;refine ag (o:=nP) rfl (λK' T=> ?_) aab;have HF:=aT (F4.out.below ae9.out F4.out.lt);have z3:=HF.out.frozen 3;have y3:nH.cell? ⟨QB,3,none⟩=some (.slice pa LP pc):=HF.out.cell 3;have I:Hid (Below w3.heap.size w3 (nH.setCell ⟨QB,3,none⟩ (.slice zz (LP+1) zy))):=(nL.out.trans (ae9.out.mono nL.out.size)).setCell (p:=⟨QB,3,none⟩) hQB _;have D:Hid (Z7 (nH.setCell ⟨QB,3,none⟩ (.slice zz (LP+1) zy)) QB EF #[.int .i64 k,.int .i64 n,.bool x,(.slice zz (LP+1) zy)]):=HF.out.set 3 (.slice zz (LP+1) zy);have dG:Hid (Z0.Yd (nH.setCell ⟨QB,3,none⟩ (.slice zz (LP+1) zy)).heap.size (nH.setCell ⟨QB,3,none⟩ (.slice zz (LP+1) zy)) (.slice zz (LP+1) zy) (rs++[(⟨U6,qk,qn,Fz⟩:Z0.ZJ)])):=Vm.out _ _ I.out (Z0.MX aE6.out HF.out jD);go_simp;refine T.out _ _ (nK.out _ I.out) (λhHeld=> ?_);clear T K' hHeld;try simp only[Act.put,aS,aP,aQ]
       refine ama jK ?_ _;refine apf ?_;go_wp2_with fail;go_meet;exact⟨_,_,D,dG,I⟩
      exact aab
     exact aab
    exact aab
   exact aab
  case rest=>
   obtain⟨va,vc,HV,dG,I⟩:=hcut;clear nK U fX Vm mQ rV Ef hQB xI gQ gM gL gK hi hz0 hz1 hz2;generalize hwc:wc=w5 at*;clear hwc;have Lz:=aT (D.out.trans (I.out.mono D.out.size));have HX5:=aT (yz.out.below I.out yz.out.lt);have HY5:=aT (HY3.out.below I.out HY3.out.lt);clear yz HY3 D I nL F4;have hG:=KH.out;have ap8:Hid (∀W,Below w5.heap.size w5 W->Calls prog 11 #[.agg #[.int .i64 k,.int .i64 n,.bool x,.slice pa LP pc]] W λe w'=>∃u,e=.returned (.agg #[.int .i64 k,.int .i64 n,.bool x,u])/\Z0.YW TR TC W.heap.size w' u rs/\Below W.heap.size W w'):=λW Z=>
    xQ (N:=w.heap.size) HLP.out jO (λr hr=>aO (hG.1.2 r hr).2 jD) W (aO Lz.out.size Z.size) (HI.out.below (Lz.out.trans (Z.mono Lz.out.size)) (aR _))
   have nG:∀r∈(rs++[(⟨U6,qk,qn,Fz⟩:Z0.ZJ)]),r.name.size<=60/\r.conds.length<=12:=λr hr=>by
    rcases abe.1 hr with h|h;·exact hG.1.2 r h
    ·simp only[aac] at h;subst h;exact⟨hG.2.2.2.1,by show Fz.length<=12;rw[HLC.out];exact hG.2.2.2.2⟩
   have hnq:∀r∈(rs++[(⟨U6,qk,qn,Fz⟩:Z0.ZJ)]),∀c∈r.conds,Z0.Pv c:=λr hr=>by
    rcases abe.1 hr with h|h;·exact HN1.out r h
    ·simp only[aac] at h;subst h;exact nj.out
   have ap9:Hid (∀W,Below w5.heap.size w5 W->Calls prog 11 #[.agg #[.int .i64 k,.int .i64 n,.bool x,.slice va (LP+1) vc]] W λe w'=>∃u,e=.returned (.agg #[.int .i64 k,.int .i64 n,.bool x,u])/\Z0.YW TR TC W.heap.size w' u (rs++[(⟨U6,qk,qn,Fz⟩:Z0.ZJ)])/\Below W.heap.size W w'):=λW Z=>
    xQ (N:=w5.heap.size) ae5.out jO (λr hr=>aO (nG r hr).2 jD) W Z.size (dG.out.below Z (aR _))
   have HRo:Hid (∀W,Below w5.heap.size w5 W->Calls prog 17 #[.slice sa LL sc] W λe w'=>∃a c,e=.returned (.slice a LL c)/\Z4.X2 w' (.slice a LL c) l/\Below W.heap.size W w'):=λW Z=>by have hR:=uv (.slice sa LL sc) l W (by have:=hG.2.1.1;omega) (nN.out.below (Lz.out.trans (Z.mono Lz.out.size)));refine hR.mono ?_;rintro e w' ⟨v,rfl,hv,hb⟩;obtain⟨a,c,rfl⟩:=Z0.Z1 hv HLL.out;exact⟨a,c,rfl,(Z4.DM hv).1,hb⟩
   have aq0:Hid (∀W u v,Below w5.heap.size w5 W->(∃lo,Z0.YW TR TC lo W u rs)->Z4.X2 W v l->Calls prog 10 #[.agg #[.int .i64 k,.int .i64 n,.bool x,u],v] W (zB (rs.map SG) l k n x W)):=λW u v Z hu hv=>by obtain⟨lo,hu⟩:=hu;exact Cu v l HLP.out jO hG.1.2 HN1.out hG.2.1 W (HP.out.below (Lz.out.trans (Z.mono Lz.out.size))) hu hv
   have aq1:Hid (∀W u v,Below w5.heap.size w5 W->(∃lo,Z0.YW TR TC lo W u (rs++[(⟨U6,qk,qn,Fz⟩:Z0.ZJ)]))->Z4.X2 W v l->Calls prog 10 #[.agg #[.int .i64 k,.int .i64 n,.bool x,u],v] W (zB ((rs++[(⟨U6,qk,qn,Fz⟩:Z0.ZJ)]).map SG) l k n x W)):=λW u v Z hu hv=>by obtain⟨lo,hu⟩:=hu;exact Cu v l ae5.out jO nG hnq hG.2.1 W (HP.out.below (Lz.out.trans (Z.mono Lz.out.size))) hu hv
   have HLm:Hid (LL<=40):=(show LL<=40 by have:=hG.2.1.1;have:=HLL.out;omega);clear hG nG hnq HI HN1 nj KH HP dG;obtain⟨⟨p0,p1,p2,p3⟩,_⟩:=Z8 HX5.out
   go_upto_region 6 with(first
    |(go_at_call 10;refine(aq0.out _ _ _ gJ.out ⟨_,aq2.out⟩ Jr.out).mono ?_;rintro e wd1 ⟨s1,n1,c1,z1,ev1,rfl,hs1,aq3⟩;have Nt:=aT hs1;have af0:=aT (gJ.out.trans (aq3.mono gJ.out.size));clear hs1 aq3 gJ aq2 Jr)
    |(go_at_call 17;refine(HRo.out _ gI.out).mono ?_;rintro e wb1 ⟨a1,q1,rfl,hr1,af1⟩;have Jr:=aT hr1;have aq2:=aT (aq4.out.below af1);have gJ:=aT (gI.out.trans (af1.mono gI.out.size));clear hr1 af1 aq4 gI)
    |(go_at_call 11;refine(ap8.out _ (aH _ w5)).mono ?_;rintro e wa1 ⟨u1,rfl,mr,aq5⟩;have aq4:=aT mr;have gI:=aT aq5;clear mr aq5 p0 p1 p2 p3))
   have mq:=aT (af0.out.trans ((Yl wd1 (.cells #[.slice s1 n1 c1,.int .i64 0,.int .i64 z1] G7)).mono af0.out.size));have Ek:=aT (Z7.new wd1 G7 #[.slice s1 n1 c1,.int .i64 0,.int .i64 z1]);have lM:=aT (Nt.out.below (Yl wd1 (.cells #[.slice s1 n1 c1,.int .i64 0,.int .i64 z1] G7)));clear Nt af0;generalize wd1.alloc (.cells #[.slice s1 n1 c1,.int .i64 0,.int .i64 z1] G7)=w6 at*;generalize wd1.heap.size=OB1 at*;have Bj:=aT (HV.out.below mq.out HV.out.lt);clear HV ap8 aq0;obtain⟨⟨p0,p1,p2,p3⟩,_⟩:=Z8 Bj.out
   go_upto_region 7 with(first
    |(go_at_call 10;refine(aq1.out _ _ _ (mq.out.trans (gH.out.mono mq.out.size)) ⟨_,aq6.out⟩ KJ.out).mono ?_;rintro e wd2 ⟨s2,n2,c2,z2,ev2,rfl,hs2,s6⟩;have TZ:=aT hs2;have af2:=aT (gH.out.trans (s6.mono gH.out.size));clear hs2 s6 gH aq6 KJ)
    |(go_at_call 17;refine(HRo.out _ (mq.out.trans (gG.out.mono mq.out.size))).mono ?_;rintro e wb2 ⟨a2,q2,rfl,hr2,af3⟩;have KJ:=aT hr2;have aq6:=aT (aq7.out.below af3);have gH:=aT (gG.out.trans (af3.mono gG.out.size));clear hr2 af3 aq7 gG)
    |(go_at_call 11;refine(ap9.out _ (mq.out.trans ((aH _ w6).mono mq.out.size))).mono ?_;rintro e wa2 ⟨u2,rfl,yb,aq8⟩;have aq7:=aT yb;have gG:=aT aq8;clear yb aq8 p0 p1 p2 p3))
   have p9:=aT (af2.out.trans ((Yl wd2 (.cells #[.slice s2 n2 c2,.int .i64 0,.int .i64 z2] G7)).mono af2.out.size));have Cg:=aT (Z7.new wd2 G7 #[.slice s2 n2 c2,.int .i64 0,.int .i64 z2]);have KH:=aT (TZ.out.below (Yl wd2 (.cells #[.slice s2 n2 c2,.int .i64 0,.int .i64 z2] G7)));clear TZ af2;have h68:Below w6.heap.size w6 (wd2.alloc (.cells #[.slice s2 n2 c2,.int .i64 0,.int .i64 z2] G7)):=p9.out;have aq9:=aT (Ek.out.below h68 Ek.out.lt);have ar0:=aT (lM.out.below h68);have h58:=mq.out.trans (p9.out.mono mq.out.size);have pZ:=aT (Lz.out.trans (h58.mono Lz.out.size));have HY8:=aT (HY5.out.below h58 HY5.out.lt);have ar1:=aT (nN.out.below pZ.out);clear Ek lM Lz HX5 HY5 mq p9 h68 h58 ap9 aq1 HRo Bj nN;generalize wd2.alloc (.cells #[.slice s2 n2 c2,.int .i64 0,.int .i64 z2] G7)=w8 at*;generalize wd2.heap.size=OB2 at*;by_cases e1:ev1=0
   case neg=>
    have e1b:(ev1 != 0)=true:=by simpa using e1
    go_wp2_with (go_at_call 7;refine(HAw.out _).mono ?_;rintro e w9 ⟨rfl,rfl⟩)
    go_ret;exact⟨rfl,pZ.out⟩
   case pos=>
   subst e1;by_cases e2:ev2=0
   case neg=>
    have e2b:(ev2 != 0)=true:=by simpa using e2
    go_wp2_with (go_at_call 7;refine(HAw.out _).mono ?_;rintro e w9 ⟨rfl,rfl⟩)
    go_ret;exact⟨rfl,pZ.out⟩
   case pos=>
   subst e2;obtain⟨hT,o1,m1,gp1,rfl,rfl,ok1,cp1,by1,sy1⟩:=ar0.out rfl;obtain⟨_,o2,m2,gp2,rfl,rfl,ok2,cp2,by2,sy2⟩:=KH.out rfl;have Nt:=aT (And.intro ok1 (And.intro cp1 (And.intro by1 sy1)));have TZ:=aT (And.intro ok2 (And.intro cp2 (And.intro by2 sy2)));have HTb:=aT hT;clear ar0 KH hT ok1 cp1 by1 sy1 ok2 cp2 by2 sy2;go_upto_region 10 with fail;go_loopg [12] (LL+1) (λgg s12 wr=>∃i:Nat,i<=LL/\LL-i<gg/\s12=.int .i64 (i:Int)/\Hid (Below w8.heap.size w8 wr));case atStart=>exact⟨0,abc _,jO,rfl,aH _ _⟩
   case round=>
    obtain⟨i,zm,VP,rfl,HBr⟩:=hrel;have yU:=jZ i;by_cases hlt:i<LL
    case neg=>
     obtain rfl:i=LL:=jO;have Y8:¬(i:Int)<(i:Int):=jO;have HFe:=aT (pZ.out.trans (HBr.out.mono pZ.out.size))
     go_wp2_with (go_at_call 7;refine(HAw.out _).mono ?_;rintro e w9 ⟨rfl,rfl⟩)
     go_ret;exact⟨rfl,HFe.out⟩
    case pos=>
    have Y8:(i:Int)<(LL:Int):=jO;have Jz:IntKind.i64.wrap ((i:Int)+1)=(i:Int)+1:=aJ _ (by have:=HLm.out;omega);have hil:i<l.length:=by rw[HLL.out];exact hlt
    obtain⟨b,off,rfl,hbl,hat⟩:=nY ar1.out hil;obtain⟨y,hy⟩:=jX (l[i]!);rw[hy] at hat;obtain⟨nm,Ip⟩:=jX y.name;have HXr:Hid (∀W,Below w8.heap.size w8 W->W.cell? ⟨b,off+i*8,none⟩=some (.string nm)/\W.cell? ⟨w.heap.size+1,0,none⟩=some (.string U6)/\∀k,k<5->W.cell? ⟨b,off+i*8+1+k,none⟩=some (.int .i64 (y.num k))):=λW Z=>by
     have hc:∀q v,y.cells[q]? =some v->W.cell? ⟨b,off+i*8+q,none⟩=some v:=λq v h=>(Z.cell (p:=⟨b,off+i*8+q,none⟩) hbl).trans (hat q v h)
     exact⟨hc 0 _ (by rw[<-Ip];rfl),(HY8.out.below Z HY8.out.lt).cell 0,λk hk=>by have h:=hc (1+k) _ (nW hk);rw[<-amd] at h;exact h⟩
    have dF:=aT (And.intro hil (And.intro hy Ip));clear hil hbl hat hy Ip;obtain⟨c0,r0,-⟩:=HXr.out _ HBr.out;by_cases hnq:nm=U6
    case pos=>
     subst hnq;go_wp2_with fail;go_region;go_wp2_with fail;go_roundg (LL-i);case measure=>omega
     case rel=>exact⟨i+1,jO,jO,by go_num,(HBr.out.drew:Below _ _ _)⟩
    case neg=>
    have aE7:(nm.toList == U6.toList)=false:=by rw[ae];intro e;exact hnq (Cs e)
    go_wp2_with fail;go_region;have mU:=aT HBr.out.drew;clear HBr;go_upto_region 13 with fail;have HNq:=aT hnq;clear hnq aE7 c0 r0;go_upto_region 14 with fail;go_loopg [13] 6 (λg2 kS wr=>∃j:Nat,j<=5/\5-j<g2/\kS=.int .i64 (j:Int)/\Hid (Below w8.heap.size w8 wr));case atStart=>exact⟨0,jO,jO,rfl,mU⟩
    case round=>
     obtain⟨j,hk5,hg2,rfl,nA⟩:=hrel;clear mU;have j0':=jZ j;by_cases hlk:j<5
     case neg=>
      obtain rfl:j=5:=jO;go_wp2_with fail;go_roundg (LL-i);case measure=>omega
      case rel=>exact⟨i+1,jO,jO,by go_num,nA⟩
     case pos=>
     have aL4:(j:Int)<5:=jO;have iwk:=jW j;have ck:wr.cell? ⟨b,off+i*8+1+j,none⟩=some (.int .i64 (y.num j)):=(HXr.out _ nA.out).2.2 j hlk;obtain⟨z,hz⟩:=jX (y.num j);rw[hz] at ck;have HZ:=aT hz;clear hz;by_cases hz0:z<0
     case pos=>
      go_wp2_with fail;go_roundg (5-j);case measure=>omega
      case rel=>exact⟨j+1,jO,jO,by go_num,nA⟩
     case neg=>
     obtain⟨nv,hnv,fR⟩:∃nv:Nat,z=(nv:Int)/\nv<1073741824:=by obtain⟨nv,h1,h2⟩:=uf HTb.out dF.out.1 hlk (by rw[dF.out.2.1,HZ.out];omega);rw[dF.out.2.1,HZ.out] at h1;exact⟨nv,h1,h2⟩
     subst hnv;go_upto_region 17 with fail;clear ck;have wnv:IntKind.u32.wrap (nv:Int)=(nv:Int):=by rw[axe];omega
     have ar2:=aT (λW=>nV hlk fR W);have HWr:=aT (λW=>zA (k:=j) fR W);obtain⟨vv,hvv⟩:=jX (N3 (Yy (I7 j nv)) x (XR k n) j (rs.map SG) nm);have hv1:(l[i]!).num j=(nv:Int):=by rw[dF.out.2.1];exact HZ.out
     have DX:(l[i]!).name=nm:=by rw[dF.out.2.1];exact dF.out.2.2
     have HE1:Hid (Zi (Yy (I7 j nv)) o1 0=some vv):=by have h:=dJ Nt.out.2.2.2 dF.out.1 hlk hv1 fR;rw[DX,hvv] at h;exact h
     have cK:Hid (Zi (Yy (I7 j nv)) o2 0=some vv):=by have h:=dJ TZ.out.2.2.2 dF.out.1 hlk hv1 fR;rw[DX,nX HNq.out,hvv] at h;exact h
     have Jr:Hid (∀W g c,Below w8.heap.size w8 W->YQ W.heap.size W (some ⟨g,0,none⟩) (I7 j nv)->Calls prog 12 #[.slice (some ⟨gp1,0,none⟩) (m1*8) c1,.slice (some ⟨g,0,none⟩) 64 c] W λe w'=>e=.returned (.tuple #[.int .u32 vv,.int .i64 0])/\Below W.heap.size W w'):=λW g c Z hg=>
      Cr Nt.out.1 Nt.out.2.1 HE1.out W Z.size (Nt.out.2.2.1.below Z (aR _)) hg
     have KJ:Hid (∀W g c,Below w8.heap.size w8 W->YQ W.heap.size W (some ⟨g,0,none⟩) (I7 j nv)->Calls prog 12 #[.slice (some ⟨gp2,0,none⟩) (m2*8) c2,.slice (some ⟨g,0,none⟩) 64 c] W λe w'=>e=.returned (.tuple #[.int .u32 vv,.int .i64 0])/\Below W.heap.size W w'):=λW g c Z hg=>
      Cr TZ.out.1 TZ.out.2.1 cK.out W Z.size (TZ.out.2.2.1.below Z (aR _)) hg
     clear hv1 DX hvv HE1 cK fR;have ck:wr.cell? ⟨b,off+i*8+1+j,none⟩=some (.int .i64 nv):=by have h:=(HXr.out _ nA.out).2.2 j hlk;rw[HZ.out] at h;exact h
     go_upto_region 18 with(first
      |(go_at_call 14;refine(ar2.out _).mono ?_;rintro e wx ⟨rfl,mL⟩;have sH:=aT (nA.out.trans (mL.mono nA.out.size));clear mL)
      |(go_at_call 13;refine(HWr.out _).mono ?_;rintro e wy ⟨gr,cr,rfl,hmr,hby⟩;have HMr:=aT hmr;have HBy:=aT (sH.out.trans (hby.mono sH.out.size));clear hmr hby sH))
     clear ck ar2 HWr;have q1:wy.cell? ⟨OB1,0,none⟩=some (.slice (some ⟨gp1,0,none⟩) (m1*8) c1):=(aq9.out.below HBy.out aq9.out.lt).cell 0;go_upto_region 19 with(go_at_call 12;refine(Jr.out _ _ _ HBy.out HMr.out).mono ?_;rintro e wu ⟨rfl,hbu⟩;have HBu:=aT (HBy.out.trans (hbu.mono HBy.out.size));have HMu:=aT (OS (HMr.out.below hbu (aR _)) hbu.size);clear hbu)
     clear q1 Jr HMr HBy;have q2:wu.cell? ⟨OB2,0,none⟩=some (.slice (some ⟨gp2,0,none⟩) (m2*8) c2):=(Cg.out.below HBu.out Cg.out.lt).cell 0
     go_wp2_with (go_at_call 12;refine(KJ.out _ _ _ HBu.out HMu.out).mono ?_;rintro e wt ⟨rfl,hbt⟩;have HBt:=aT (HBu.out.trans (hbt.mono HBu.out.size));clear hbt q2 KJ HMu)
     go_roundg (5-j);case measure=>omega
     case rel=>exact⟨j+1,jO,jO,by go_num,HBt⟩
end Go.Proofs.YtclgigmgbebhgaaGreatDoor
