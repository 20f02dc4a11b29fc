/- TopFirst: part 34: TopVm2 TopClone TopVm3 TopBld1. -/
import Derived.Test.YtclgigmgbebhgaaGreatDoorF28
import Derived.Test.YtclgigmgbebhgaaGreatDoorF32
import Derived.Test.YtclgigmgbebhgaaGreatDoorF33
set_option linter.unusedVariables false
set_option linter.unusedSimpArgs false
set_option maxRecDepth 100000
set_option maxHeartbeats 16000000
namespace Go.Proofs.YtclgigmgbebhgaaGreatDoor
open Tryz
open Go Go.Proofs Go.RowKit Go.Maps Go.WideMaps Go.ChangeMaps
variable {W:World}
@[go_sem] abbrev eR:Oper:=⟨some 51,.load 233 (.tmp 50),233,"vm.go:146",#[⟨3,.data⟩],none⟩
@[go_sem] abbrev eQ:Oper:=⟨some 57,.buildSlice 233 1 #[(0,.tmp 56)],233,"vm.go:146",#[⟨9,.data⟩],none⟩
@[go_sem] abbrev eP:Oper:=⟨some 58,.call {callee:=.builtin .append,args:=#[.tmp 51,.tmp 57],argTypes:=#[233,233]},233,"vm.go:146",#[⟨4,.data⟩,⟨10,.data⟩],none⟩
@[go_sem] abbrev eO:Oper:=⟨some 59,.nilCheck (.tmp 47),0,"vm.go:146",#[⟨0,.data⟩,⟨0,.phase⟩,⟨1,.phase⟩,⟨2,.phase⟩,⟨3,.phase⟩,⟨4,.phase⟩,⟨5,.phase⟩,⟨6,.phase⟩,⟨7,.phase⟩,⟨8,.phase⟩,⟨9,.phase⟩,⟨10,.phase⟩,⟨11,.phase⟩],none⟩
@[go_sem] abbrev eN:Oper:=⟨some 60,.fieldAddr 235 (.tmp 59) 0,0,"vm.go:146",#[⟨12,.data⟩,⟨0,.phase⟩,⟨1,.phase⟩,⟨2,.phase⟩,⟨3,.phase⟩,⟨4,.phase⟩,⟨5,.phase⟩,⟨6,.phase⟩,⟨7,.phase⟩,⟨8,.phase⟩,⟨9,.phase⟩,⟨10,.phase⟩,⟨11,.phase⟩],none⟩
@[go_sem] abbrev eM:Oper:=⟨none,.store 233 (.tmp 60) (.tmp 58),0,"vm.go:146",#[⟨13,.data⟩,⟨11,.data⟩,⟨11,.chain⟩,⟨0,.phase⟩,⟨1,.phase⟩,⟨2,.phase⟩,⟨3,.phase⟩,⟨4,.phase⟩,⟨5,.phase⟩,⟨6,.phase⟩,⟨7,.phase⟩,⟨8,.phase⟩,⟨9,.phase⟩,⟨10,.phase⟩,⟨11,.phase⟩],none⟩
abbrev eL:Nat:=235
def R4:List (Value×Value):=[(.int .i64 1,.func (.func 187) #[] #[]),(.int .i64 2,.func (.func 188) #[] #[]),(.int .i64 3,.func (.func 189) #[] #[]),(.int .i64 4,.func (.func 190) #[] #[]),(.int .i64 5,.func (.func 191) #[] #[]),(.int .i64 6,.func (.func 192) #[] #[]),(.int .i64 7,.func (.func 193) #[] #[]),(.int .i64 8,.func (.func 194) #[] #[]),(.int .i64 9,.func (.func 195) #[] #[]),(.int .i64 10,.func (.func 196) #[] #[]),(.int .i64 11,.func (.func 197) #[] #[]),(.int .i64 12,.func (.func 198) #[] #[]),(.int .i64 13,.func (.func 199) #[] #[]),(.int .i64 14,.func (.func 200) #[] #[]),(.int .i64 15,.func (.func 201) #[] #[])]
theorem FQ:Keyed prog 162:=int_keyed underlying162
theorem oP(n:Int)(h: -9223372036854775808<=n/\n<=9223372036854775807):∃l,keyOf prog 162 (.int .i64 n)=some l:=⟨_,keyOf_int_mk underlying162 (by
 show(decide (IntKind.i64.min<=n)&&decide (n<=IntKind.i64.max))=true;rw[show IntKind.i64.min= -9223372036854775808 from jD,show IntKind.i64.max=9223372036854775807 from jD];simp only[aef,adf];exact h)⟩
theorem uE(w:World):Calls prog 118 #[] w λe w'=>e=.returned (.map (some w.heap.size))/\Zz w' w.heap.size R4/\Below w.heap.size w w':=by
 have I:= @aog prog;have C:=aT (Nq.made w);go_enter func118,ntmps118
 go_wp2_with (refine YR rfl rfl 236 _ _ _ rfl 162 238 FQ underlying236 w w.heap.size _ C.out rfl _ _ rfl rfl ?hS ?hk ?hn ?_;(case hk=>exact oP _ jO);(case hS=>exact Ru underlying162 jR);(case hn=>exact KO jR);clear C;intro J D;have C:=aT D;clear D)
 go_ret;exact⟨rfl,C.out.map,(aG _ w).grown C.out.grown (aR _) (λk e=>by have:=aq e;omega)⟩
theorem Aj:R4.Pairwise (λp q=>p.1≠q.1):=by simp[R4]
theorem ab9:∀W,(zeroValue 238).run prog W=.ok .nilFunc W:=λ_=>jK
theorem JN {B:Nat}(h:Zz W B R4){k:Int}{v:Value}(hk: -9223372036854775808<=k/\k<=9223372036854775807)(hm:(.int .i64 k,v)∈R4):(Instr.lookup 236 (.map (some B)) (.int .i64 k) false).run prog W=.ok v W:=
 Xq underlying236 FQ h (Ru underlying162 jR) (oP k hk) hm Aj
theorem QX {B:Nat}(h:Zz W B R4){k:Int}(hk: -9223372036854775808<=k/\k<=9223372036854775807)(hm:R4.all (mq k)=true):(Instr.lookup 236 (.map (some B)) (.int .i64 k) false).run prog W=.ok .nilFunc W:=
 TX underlying236 FQ ab9 h (Ru underlying162 jR) (oP k hk) (KO hm)
def doV(c:Nat):Value:=if c=0x20\/c=0x05\/c=0x06 then .func (.func (Px c)) #[] #[] else .nilFunc
theorem uD {B c:Nat}(h:Zz W B R4)(hc:codeOk c):(Instr.lookup 236 (.map (some B)) (.int .i64 (Zx c:Int)) false).run prog W=.ok (doV c) W:=by
 rcases hc with rfl|rfl|rfl|rfl|rfl|rfl|rfl|rfl;·exact JN h (k:=1) jD (by simp[R4,doV,Px])
 ·exact QX h (k:=21) jD jR
 ·exact JN h (k:=13) jD (by simp[R4,doV,Px])
 ·exact JN h (k:=14) jD (by simp[R4,doV,Px])
 ·exact QX h (k:=25) jD jR
 ·exact QX h (k:=26) jD jR
 ·exact QX h (k:=27) jD jR
 ·exact QX h (k:=28) jD jR
theorem ac0:(prog.info? UL).map (λi=>(i.zero,i.size,i.bytes))=some (some (.agg #[.int .u16 0,.int .u8 0,.int .u8 0,.int .u32 0,.nilFunc,.int .i64 0,.bool false]),7,32):=jK
theorem G1 {B e s n b:Nat}{v:Value}{xs:List Value}{S:List (Value×Value)}(h:W.ownsRow B e s v n xs)(hm:Zz W b S):v.ownBlock≠some b:=λC=>by
 rcases h.2 with⟨rfl,_⟩|⟨k,cap,J,rfl,_,hk,_⟩
 ·cases C
 ·obtain⟨es,T,D,_⟩:=hm;have e2:k=b:=aq C;rw[e2] at hk;have I:=hk.symm.trans D;cases I
def LM(Bm Bd:Nat)(l:List ZN)(w0:World)(m:Nat)(W:World):Prop:=Below w0.heap.size w0 W/\w0.heap.size<=Bm/\Zz W Bd R4/\∃v,Z7 W Bm eL #[v]/\W.ownsRow w0.heap.size UL 7 v m ((l.take m).flatMap Nu)
theorem LM.bl{Bm Bd m:Nat}{l:List ZN}{w0 W':World}(h:LM Bm Bd l w0 m W)(hb:Below W.heap.size W W'):LM Bm Bd l w0 m W':=by
 obtain⟨I,J,C,v,D,T⟩:=h;exact⟨I.trans (hb.mono I.size),J,C.below hb C.lt,v,D.below hb D.lt,ZC T hb⟩
def ac1(n:Nat)(l:List ZN)(w:World):Ending->World->Prop:=λe w'=>∃Bm v,e=.returned (.tuple #[.pointer (some ⟨Bm,0,none⟩),.int .i64 0])/\Z7 w' Bm eL #[v]/\w'.ownsRow w.heap.size UL 7 v n (l.flatMap Nu)/\Below w.heap.size w w'
theorem jn{N n c:Nat}{ad:Option Addr}{l:List ZN}(hp:XP l n)(w:World)(hm:I4 N w ad l)(hN:N<=w.heap.size):
 Calls prog 64 #[.slice ad n c] w (ac1 n l w):=by
 have HP:=aT hp;have HM:=aT hm;have HCk:=aT (G4 (c:=c) hp w hm hN);have hmx:=hp.max;obtain⟨i0,XS,RH,Vb,Tl⟩:=ZP ac0;clear hp hm;go_enter func64,ntmps64;go_wp2_with fail;refine HCk.out.mono ?_;rintro e w1 ⟨rfl,hb⟩;have VE:=aT (hb.alloc hb.size (.cells #[.slice none 0 0] eL));have HK1:=aT (Z7.new w1 eL #[.slice none 0 0]);have MZ:=hb.size;clear hb HCk;go_upto_region 5 with fail;generalize w1.alloc (.cells #[.slice none 0 0] eL)=w2 at*;generalize w1.heap.size=Bm at*;go_wp2_with fail;refine(uE w2).mono ?_;rintro e w3 ⟨rfl,hmp,hb⟩;have Ge:Hid (LM Bm w2.heap.size l w 0 w3):=⟨VE.out.trans (hb.mono VE.out.size),MZ,hmp,_,HK1.out.below hb HK1.out.lt,Ya _ _ _ _⟩;clear hmp hb VE HK1;generalize w2.heap.size=Bd at*;go_upto_region 7 with fail;go_loopg [27] (n+1) (λgg iv wr=>∃m:Nat,m<=n/\n-m<gg/\iv=.int .i64 (m:Int)/\Hid (LM Bm Bd l w m wr));case atStart=>exact⟨0,abd _,jO,rfl,Ge⟩
 case round=>
  obtain⟨m,zj,Vs,rfl,HA⟩:=hrel;clear Ge;have m0:=jZ m;by_cases hlt:m<n
  ·have Zd:(m:Int)<(n:Int):=by omega
   have iw:=jW m;obtain⟨x,hx⟩:∃x,l[m]? =some x:=⟨_,aL (by rw[HP.out.len];exact hlt)⟩;obtain⟨g,off,rfl,UW,c0,c1,c2,c3⟩:=(HM.out.below HA.out.1 hN) m x hx;have hco:=HP.out.code hx;have vh:(l.take (m+1)).flatMap Nu=(l.take m).flatMap Nu++Nu x:=by rw[afd,hx,aca];simp
   have sQ:=aT vh;have HCO:=aT hco;have Hw:Hid (∀W,Calls prog 109 #[.int .u16 x.code] W (Sa x.code W)):=λW=>V1 hco W
   clear hx hco vh;obtain⟨xc,Y,Z,U⟩:=x;dsimp only at c0 c1 c2 c3 HCO Hw;have an6:Hid ((l.take (m+1)).flatMap Nu=(l.take m).flatMap Nu++[.int .u16 xc,.int .u8 Y,.int .u8 Z,.int .u32 U,.func (.func (Px xc)) #[] #[],.int .i64 (Zx xc:Int),.bool false]):=sQ.out;clear sQ;unfold Sa at Hw;have HT:=aT (Z7.new wr XD #[.int .u16 xc,.int .u8 Y,.int .u8 Z,.int .u32 U]);have Oi:=aT (HA.out.bl ((aG wr.heap.size wr).alloc (aR _) (.cells #[.int .u16 xc,.int .u8 Y,.int .u8 Z,.int .u32 U] XD)));clear HA;go_upto_region 9 with fail;generalize wr.alloc (.cells #[.int .u16 xc,.int .u8 Y,.int .u8 Z,.int .u32 U] XD)=wa at*;generalize wr.heap.size=T9 at*;clear c0 c1 c2 c3;have c0:=HT.out.e0;go_wp2_with fail;refine(Hw.out wa).mono ?_;rintro e wb ⟨rfl,hb⟩;have Uj:=aT (Oi.out.bl hb);have Tp:=aT (HT.out.below hb HT.out.lt);have lk:=uD Uj.out.2.2.1 HCO.out;clear hb Oi HT c0 Hw;have hcs:(xc=32/\Zx xc=1)\/(xc=5/\Zx xc=13)\/(xc=6/\Zx xc=14)\/(xc=84/\Zx xc=21)\/(25<=Zx xc/\Zx xc<=28/\Px xc=119/\doV xc=.nilFunc):=by
    rcases HCO.out with rfl|rfl|rfl|rfl|rfl|rfl|rfl|rfl;·exact .inl ⟨rfl,rfl⟩
    ·exact .inr (.inr (.inr (.inl ⟨rfl,rfl⟩)))
    ·exact .inr (.inl ⟨rfl,rfl⟩)
    ·exact .inr (.inr (.inl ⟨rfl,rfl⟩))
    ·exact .inr (.inr (.inr (.inr ⟨jD,jD,rfl,rfl⟩)))
    ·exact .inr (.inr (.inr (.inr ⟨jD,jD,rfl,rfl⟩)))
    ·exact .inr (.inr (.inr (.inr ⟨jD,jD,rfl,rfl⟩)))
    ·exact .inr (.inr (.inr (.inr ⟨jD,jD,rfl,rfl⟩)))
   go_upto_region 10 with fail;go_cut [13] (λcD wx=>cD=doV xc/\wb=wx)
   case first=>
    go_wp2_with fail;go_meet;exact⟨rfl,rfl⟩
   case rest=>
   obtain⟨rfl,rfl⟩:=hcut;rename_i hB;refine hB _ _ ?_;clear hB;apply wp_seq_k;intro _ _;go_cut [13,41,44] from 38 to 46 (λcD s41 s44 wx=>cD=.func (.func (Px xc)) #[] #[]/\wb=wx)
   case first=>
    rcases hcs with⟨rfl,hk⟩|⟨rfl,hk⟩|⟨rfl,hk⟩|⟨rfl,hk⟩|⟨tS,hk2,hdf,hdv⟩;·rw[hk];go_wp2_with fail;go_meet;exact⟨rfl,rfl⟩
    ·rw[hk];go_wp2_with fail;go_meet;exact⟨rfl,rfl⟩
    ·rw[hk];go_wp2_with fail;go_meet;exact⟨rfl,rfl⟩
    ·rw[hk];go_wp2_with fail;go_meet;exact⟨rfl,rfl⟩
    ·have dI:(25:Int)<=(Zx xc:Int):=by omega
     go_wp2_with fail;go_meet;exact⟨by rw[hdf],rfl⟩
   case rest=>
   obtain⟨rfl,rfl⟩:=hcut;clear hcs HCO lk;generalize Zx xc=KN at*;generalize Px xc=FV at*;go_upto_region 15 with fail;have HVD:Hid (LM Bm Bd l w m wb.drew):=by obtain⟨h1,h2,h3,v,h4,h5⟩:=Uj.out;exact⟨h1.drew,h2,h3,v,h4,h5⟩
   obtain⟨v1,hbm,v3,lv,v5,v6⟩:=HVD.out;have HV1:=aT v1;have HV3:=aT v3;have HV5:=aT v5;have tL:=aT v6;have Fl:Hid (Z7 wb.drew T9 XD #[.int .u16 xc,.int .u8 Y,.int .u8 Z,.int .u32 U]):=Tp.out;have UB:Hid (wb.drew.cell? ⟨T9,0,none⟩=some (.int .u16 xc)/\wb.drew.cell? ⟨T9,1,none⟩=some (.int .u8 Y)/\wb.drew.cell? ⟨T9,2,none⟩=some (.int .u8 Z)/\wb.drew.cell? ⟨T9,3,none⟩=some (.int .u32 U)):=⟨Fl.out.cell 0,Fl.out.cell 1,Fl.out.cell 2,Fl.out.cell 3⟩;clear v1 v3 v5 v6 HVD Uj Tp;refine aua ?_;refine akg (S:=λw'=>w'.cell? ⟨T9,0,none⟩=some (.int .u16 xc)/\w'.cell? ⟨T9,1,none⟩=some (.int .u8 Y)/\w'.cell? ⟨T9,2,none⟩=some (.int .u8 Z)/\w'.cell? ⟨T9,3,none⟩=some (.int .u32 U)) jK UB.out (λhHeld=> ?_);generalize wb.drew=wd at*;refine jT 0 ⟨some 47,.move (.tmp 6),174,"vm.go:146",#[],none⟩ ?_;try simp only[Act.put,aS,aP,aQ]
   refine jT 1 ⟨some 48,.move (.tmp 6),174,"vm.go:146",#[],none⟩ ?_;try simp only[Act.put,aS,aP,aQ]
   refine jT 2 ⟨some 49,.nilCheck (.tmp 48),0,"vm.go:146",#[⟨1,.data⟩],none⟩ ?_;try simp only[Act.put,aS,aP,aQ]
   refine jT 3 ⟨some 50,.fieldAddr 235 (.tmp 49) 0,0,"vm.go:146",#[⟨2,.data⟩],none⟩ ?_;try simp only[Act.put,aS,aP,aQ]
   refine jT 5 ⟨some 52,.load 166 (.tmp 9),166,"vm.go:146",#[],none⟩ ?_;try simp only[Act.put,aS,aP,aQ]
   refine jT 6 ⟨some 53,.move (.tmp 13),238,"vm.go:146",#[],none⟩ ?_;try simp only[Act.put,aS,aP,aQ]
   refine jT 7 ⟨some 54,.move (.tmp 10),162,"vm.go:146",#[],none⟩ ?_;try simp only[Act.put,aS,aP,aQ]
   refine jT 8 ⟨some 55,.move (.tmp 11),4,"vm.go:146",#[],none⟩ ?_;try simp only[Act.put,aS,aP,aQ]
   refine jT 9 ⟨some 56,.build 242 #[(0,.tmp 52),(1,.tmp 53),(2,.tmp 54),(3,.tmp 55)],242,"vm.go:146",#[⟨5,.data⟩,⟨6,.data⟩,⟨7,.data⟩,⟨8,.data⟩],none⟩ ?_;try simp only[Act.put,aS,aP,aQ]
   have Ed:=aT (HV1.out.alloc HV1.out.size (.cells #[.int .u16 xc,.int .u8 Y,.int .u8 Z,.int .u32 U,.func (.func FV) #[] #[],.int .i64 KN,.bool false] UL));have Cf:=aT (HV5.out.alloc (.cells #[.int .u16 xc,.int .u8 Y,.int .u8 Z,.int .u32 U,.func (.func FV) #[] #[],.int .i64 KN,.bool false] UL));have K4:=aT (ZC tL.out ((aG wd.heap.size wd).alloc (aR _) (.cells #[.int .u16 xc,.int .u8 Y,.int .u8 Z,.int .u32 U,.func (.func FV) #[] #[],.int .i64 KN,.bool false] UL)));have yh:=aT (Fl.out.alloc (.cells #[.int .u16 xc,.int .u8 Y,.int .u8 Z,.int .u32 U,.func (.func FV) #[] #[],.int .i64 KN,.bool false] UL));have HDA:=aT (HV3.out.alloc (.cells #[.int .u16 xc,.int .u8 Y,.int .u8 Z,.int .u32 U,.func (.func FV) #[] #[],.int .i64 KN,.bool false] UL));have Jf:Hid ((wd.alloc (.cells #[.int .u16 xc,.int .u8 Y,.int .u8 Z,.int .u32 U,.func (.func FV) #[] #[],.int .i64 KN,.bool false] UL)).cell? ⟨T9,0,none⟩=some (.int .u16 xc)/\(wd.alloc (.cells #[.int .u16 xc,.int .u8 Y,.int .u8 Z,.int .u32 U,.func (.func FV) #[] #[],.int .i64 KN,.bool false] UL)).cell? ⟨T9,1,none⟩=some (.int .u8 Y)/\(wd.alloc (.cells #[.int .u16 xc,.int .u8 Y,.int .u8 Z,.int .u32 U,.func (.func FV) #[] #[],.int .i64 KN,.bool false] UL)).cell? ⟨T9,2,none⟩=some (.int .u8 Z)/\(wd.alloc (.cells #[.int .u16 xc,.int .u8 Y,.int .u8 Z,.int .u32 U,.func (.func FV) #[] #[],.int .i64 KN,.bool false] UL)).cell? ⟨T9,3,none⟩=some (.int .u32 U)):=⟨yh.out.cell 0,yh.out.cell 1,yh.out.cell 2,yh.out.cell 3⟩;have mN:w.heap.size<=(wd.alloc (.cells #[.int .u16 xc,.int .u8 Y,.int .u8 Z,.int .u32 U,.func (.func FV) #[] #[],.int .i64 KN,.bool false] UL)).heap.size:=Ed.out.size;have k4:wd.cell? ⟨Bm,0,none⟩=some lv:=HV5.out.cell 0;have k5:(wd.alloc (.cells #[.int .u16 xc,.int .u8 Y,.int .u8 Z,.int .u32 U,.func (.func FV) #[] #[],.int .i64 KN,.bool false] UL)).cell? ⟨Bm,0,none⟩=some lv:=Cf.out.cell 0;refine aba (rs:=[4,10]) jK jS ?_;refine ae (o:=eR) rfl (λK' hK=> ?ac2) (ae (o:=eQ) rfl (λK' hK=> ?jm) aae)
   case ac2=>
    go_simp;refine hK.out _ _ hHeld (λhHeld=> ?_);clear hK K';try simp only[Act.put,aS,aP,aQ]
    refine aba (rs:=[10]) jK jS ?_;refine ae (o:=eQ) rfl (λK' hK=> ?_) aae;go_simp;clear hHeld;refine hK.out _ _ Jf.out (λhHeld=> ?_);clear hK K';try simp only[Act.put,aS,aP,aQ]
    refine aba (rs:=[11]) jK jS ?_;refine ae (o:=eP) rfl (λK' hK=> ?_) aae;refine X6 _ _ _ 233 jR w.heap.size UL i0 (.agg #[.int .u16 0,.int .u8 0,.int .u8 0,.int .u32 0,.nilFunc,.int .i64 0,.bool false]) 7 32 underlying233 XS RH Vb Tl rfl jD lv m _ jR K4.out ⟨wd.heap.size,0,none⟩ 1 1 [.int .u16 xc,.int .u8 Y,.int .u8 Z,.int .u32 U,.func (.func FV) #[] #[],.int .i64 KN,.bool false] jR rfl (YX rfl) (by simp[Value.oneCell']) (by unfold maxLen;omega) jO mN ?_;intro v' T D C;obtain⟨g7,q7,rfl,_,_⟩:=World.ownsRow.form D jO;have Od:=aT (Ed.out.grown C mN (λk e=>(K4.out.lt k e).1));have J:=aT (Cf.out.kept C (λe=>YQ K4.out Cf.out jD e.symm));have I:=aT (yh.out.kept C (λe=>YQ K4.out yh.out jD e.symm));have HD7:=aT (HDA.out.kept C (λe=>G1 K4.out HDA.out e.symm));have Lz:=aT D;have LA:Hid (T.cell? ⟨T9,0,none⟩=some (.int .u16 xc)/\T.cell? ⟨T9,1,none⟩=some (.int .u8 Y)/\T.cell? ⟨T9,2,none⟩=some (.int .u8 Z)/\T.cell? ⟨T9,3,none⟩=some (.int .u32 U)):=⟨I.out.cell 0,I.out.cell 1,I.out.cell 2,I.out.cell 3⟩;clear D C;clear hHeld;refine hK.out _ _ LA.out (λhHeld=> ?_);clear hK K';try simp only[Act.put,aS,aP,aQ]
    refine jT 12 eO ?_;try simp only[Act.put,aS,aP,aQ]
    refine jT 13 eN ?_;try simp only[Act.put,aS,aP,aQ]
    refine aba (rs:=[14]) jK jS ?_;refine ae (o:=eM) rfl (λK' hK=> ?_) aae;have k7:T.cell? ⟨Bm,0,none⟩=some lv:=J.out.cell 0;have f7:=J.out.frozen 0;have oO:T9≠Bm:=λe=>by have h1:=I.out;have h2:=J.out;rw[e] at h1;have h3:=h1.symm.trans h2;injection h3 with h3;injection h3 with _ h3;exact absurd h3 jD
    have oN:some Bd≠some Bm:=λe=>by have h2:=J.out;obtain⟨es,ck,h3,_⟩:=HD7.out;rw[aq e] at h3;have h4:=h3.symm.trans h2;cases h4
    have Ig:=aT (I.out.other oO 0 (.slice (some ⟨g7,0,none⟩) (m+1) q7));have Eb:Hid ((T.setCell ⟨Bm,0,none⟩ (.slice (some ⟨g7,0,none⟩) (m+1) q7)).cell? ⟨T9,0,none⟩=some (.int .u16 xc)/\(T.setCell ⟨Bm,0,none⟩ (.slice (some ⟨g7,0,none⟩) (m+1) q7)).cell? ⟨T9,1,none⟩=some (.int .u8 Y)/\(T.setCell ⟨Bm,0,none⟩ (.slice (some ⟨g7,0,none⟩) (m+1) q7)).cell? ⟨T9,2,none⟩=some (.int .u8 Z)/\(T.setCell ⟨Bm,0,none⟩ (.slice (some ⟨g7,0,none⟩) (m+1) q7)).cell? ⟨T9,3,none⟩=some (.int .u32 U)):=⟨Ig.out.cell 0,Ig.out.cell 1,Ig.out.cell 2,Ig.out.cell 3⟩;have RZ:Hid (LM Bm Bd l w (m+1) (T.setCell ⟨Bm,0,none⟩ (.slice (some ⟨g7,0,none⟩) (m+1) q7))):=by refine⟨Od.out.setCell (p:=⟨Bm,0,none⟩) hbm _,hbm,HD7.out.kept (row:=some Bm) ⟨rfl,rfl,rfl,by show T.heap.size<=(T.heap.modify Bm _).size;rw[atf];exact aR _,λk _ hk=>afc T _ _ k (λe=>hk (by rw[e]))⟩ oN,_,J.out.set 0 _,?_⟩;rw[an6.out];exact VI Lz.out (λe=>YQ Lz.out J.out jD e)
    clear oO oN;go_simp;clear hHeld;refine hK.out _ _ Eb.out (λhHeld=> ?_);clear hK K';refine ana jK ?_ _;refine ase ?_;clear k4 k5 k7 f7;go_wp2_with fail;go_roundg (n-m);case measure=>omega
    case rel=>exact⟨m+1,jO,jO,by go_num,RZ⟩
   case jm=>
    go_simp;clear hHeld;refine hK.out _ _ Jf.out (λhHeld=> ?_);clear hK K';try simp only[Act.put,aS,aP,aQ]
    refine aba (rs:=[4]) jK jS ?_;refine ae (o:=eR) rfl (λK' hK=> ?_) aae;go_simp;refine hK.out _ _ hHeld (λhHeld=> ?_);clear hK K';try simp only[Act.put,aS,aP,aQ]
    refine aba (rs:=[11]) jK jS ?_;refine ae (o:=eP) rfl (λK' hK=> ?_) aae;refine X6 _ _ _ 233 jR w.heap.size UL i0 (.agg #[.int .u16 0,.int .u8 0,.int .u8 0,.int .u32 0,.nilFunc,.int .i64 0,.bool false]) 7 32 underlying233 XS RH Vb Tl rfl jD lv m _ jR K4.out ⟨wd.heap.size,0,none⟩ 1 1 [.int .u16 xc,.int .u8 Y,.int .u8 Z,.int .u32 U,.func (.func FV) #[] #[],.int .i64 KN,.bool false] jR rfl (YX rfl) (by simp[Value.oneCell']) (by unfold maxLen;omega) jO mN ?_;intro v' T D C;obtain⟨g7,q7,rfl,_,_⟩:=World.ownsRow.form D jO;have Od:=aT (Ed.out.grown C mN (λk e=>(K4.out.lt k e).1));have J:=aT (Cf.out.kept C (λe=>YQ K4.out Cf.out jD e.symm));have I:=aT (yh.out.kept C (λe=>YQ K4.out yh.out jD e.symm));have HD7:=aT (HDA.out.kept C (λe=>G1 K4.out HDA.out e.symm));have Lz:=aT D;have LA:Hid (T.cell? ⟨T9,0,none⟩=some (.int .u16 xc)/\T.cell? ⟨T9,1,none⟩=some (.int .u8 Y)/\T.cell? ⟨T9,2,none⟩=some (.int .u8 Z)/\T.cell? ⟨T9,3,none⟩=some (.int .u32 U)):=⟨I.out.cell 0,I.out.cell 1,I.out.cell 2,I.out.cell 3⟩;clear D C;clear hHeld;refine hK.out _ _ LA.out (λhHeld=> ?_);clear hK K';try simp only[Act.put,aS,aP,aQ]
    refine jT 12 eO ?_;try simp only[Act.put,aS,aP,aQ]
    refine jT 13 eN ?_;try simp only[Act.put,aS,aP,aQ]
    refine aba (rs:=[14]) jK jS ?_;refine ae (o:=eM) rfl (λK' hK=> ?_) aae;have k7:T.cell? ⟨Bm,0,none⟩=some lv:=J.out.cell 0;have f7:=J.out.frozen 0;have oO:T9≠Bm:=λe=>by have h1:=I.out;have h2:=J.out;rw[e] at h1;have h3:=h1.symm.trans h2;injection h3 with h3;injection h3 with _ h3;exact absurd h3 jD
    have oN:some Bd≠some Bm:=λe=>by have h2:=J.out;obtain⟨es,ck,h3,_⟩:=HD7.out;rw[aq e] at h3;have h4:=h3.symm.trans h2;cases h4
    have Ig:=aT (I.out.other oO 0 (.slice (some ⟨g7,0,none⟩) (m+1) q7));have Eb:Hid ((T.setCell ⟨Bm,0,none⟩ (.slice (some ⟨g7,0,none⟩) (m+1) q7)).cell? ⟨T9,0,none⟩=some (.int .u16 xc)/\(T.setCell ⟨Bm,0,none⟩ (.slice (some ⟨g7,0,none⟩) (m+1) q7)).cell? ⟨T9,1,none⟩=some (.int .u8 Y)/\(T.setCell ⟨Bm,0,none⟩ (.slice (some ⟨g7,0,none⟩) (m+1) q7)).cell? ⟨T9,2,none⟩=some (.int .u8 Z)/\(T.setCell ⟨Bm,0,none⟩ (.slice (some ⟨g7,0,none⟩) (m+1) q7)).cell? ⟨T9,3,none⟩=some (.int .u32 U)):=⟨Ig.out.cell 0,Ig.out.cell 1,Ig.out.cell 2,Ig.out.cell 3⟩;have RZ:Hid (LM Bm Bd l w (m+1) (T.setCell ⟨Bm,0,none⟩ (.slice (some ⟨g7,0,none⟩) (m+1) q7))):=by refine⟨Od.out.setCell (p:=⟨Bm,0,none⟩) hbm _,hbm,HD7.out.kept (row:=some Bm) ⟨rfl,rfl,rfl,by show T.heap.size<=(T.heap.modify Bm _).size;rw[atf];exact aR _,λk _ hk=>afc T _ _ k (λe=>hk (by rw[e]))⟩ oN,_,J.out.set 0 _,?_⟩;rw[an6.out];exact VI Lz.out (λe=>YQ Lz.out J.out jD e)
    clear oO oN;go_simp;clear hHeld;refine hK.out _ _ Eb.out (λhHeld=> ?_);clear hK K';refine ana jK ?_ _;refine ase ?_;clear k4 k5 k7 f7;go_wp2_with fail;go_roundg (n-m);case measure=>omega
    case rel=>exact⟨m+1,jO,jO,by go_num,RZ⟩
  ·obtain rfl:m=n:=by omega
   have Zd:¬(m:Int)<(m:Int):=jO;obtain⟨v1,_,_,lv,v5,v6⟩:=HA.out;rw[abe (by rw[HP.out.len];exact aR _)] at v6;have HV1:=aT v1;have HV5:=aT v5;have tL:=aT v6;clear v1 v5 v6;go_wp2_with fail;go_ret2;exact⟨Bm,lv,rfl,HV5.out,tL.out,HV1.out⟩
end Go.Proofs.YtclgigmgbebhgaaGreatDoor
namespace Go.Proofs.YtclgigmgbebhgaaGreatDoor
open Tryz
open Go Go.Proofs Go.RowKit
theorem Ai{N L c g off:Nat}{bs:List Nat}(hl:bs.length=L)(Xo:L<=1000000)(w:World)(hm:Yi N w (some ⟨g,off,none⟩) bs)(hN:N<=w.heap.size):
 Calls prog 121 #[.slice (some ⟨g,off,none⟩) L c] w λe w'=>∃v,e=.returned v/\w'.ownsRow w.heap.size 5 1 v L (Zl bs)/\Below w.heap.size w w':=by
 obtain⟨i0,J,Y,U,Z⟩:=ZP yu;have I:=aT ((aG w.heap.size w).alloc (aR _) (.cells #[] 5));have T:Hid ((w.alloc (.cells #[] 5)).ownsRow w.heap.size 5 1 (.slice (some ⟨w.heap.size,0,none⟩) 0 0) 0 []):=World.ownsRow_lit (base:=w.heap.size) w #[] 0 (aR _) jD rfl;have HM:=aT (hm.below I hN);have HLB:Hid ((Zl bs).length=L*1):=by show _=_;unfold Zl;rw[aab,hl,aqa]
 have HON:Hid (∀u∈Zl bs,u.oneCell'=true):=λu hu=>by obtain⟨b,_,rfl⟩:=ah.1 hu;rfl
 have HNW:Hid (∀j u,(Zl bs)[j]? =some u->(w.alloc (.cells #[] 5)).cell? ((⟨g,off,none⟩:Addr).add j)=some u):=λj u hu=>by unfold Zl at hu;rw[acd] at hu;obtain⟨b,hb,rfl⟩:=Option.map_eq_some_iff.1 hu;obtain⟨g',as9,e,_,hc⟩:=HM j b hb;cases e;rw[show(⟨g,off,none⟩:Addr).add j=⟨g,off+j,none⟩ by cases j<;>rfl];exact hc
 have hnil:∀w,(binOp .eql 42 (.slice (some ⟨g,off,none⟩) L c) (.slice none 0 0)).run prog w=.ok (.bool false) w:=λ_=>jK
 clear hl hm;go_enter func121,ntmps121
 go_wp2_with (first
  |(at_builtin;refine aea _ rfl _ _ 42 rfl w.heap.size 5 i0 (.int .u8 0) 1 1 underlying42 J Y U Z rfl jD _ 0 [] rfl T ⟨g,off,none⟩ L c (Zl bs) rfl HLB HNW HON (by unfold maxLen;omega) jO I.size ?_;intro v' w6 C D _)
  |(refine wpList_plain rfl λK hK=> ?_;refine D6 _ 42 rfl underlying42 J U ?_;refine hK _ _ ?_;clear hK K))
 rw[ade,ahe] at C;have HR:=aT C;have Ck:=aT (I.grown D I.size (λk e=>(T.lt k e).1));clear C D;go_wp2_with fail;go_ret;exact⟨_,rfl,HR,Ck⟩
end Go.Proofs.YtclgigmgbebhgaaGreatDoor
namespace Go.Proofs.YtclgigmgbebhgaaGreatDoor
open Tryz
open Go Go.Proofs Go.RowKit Go.Shelf
abbrev OM:Nat:=96
abbrev FP:Nat:=45
theorem C6(v:Nat)(W:World):(Instr.typeAssert (.iface 247 (.agg #[.int .u32 v])) 20 247 true).run prog W=.ok (.tuple #[.agg #[.int .u32 v],.bool true]) W:=jK
theorem NI{W:World}{a b t u:Nat}{cs ds:Array Value}(h:Z7 W a t cs)(k:Z7 W b u ds)(D:t≠u):a≠b:=λe=>by
 rw[e] at h;have C:=(show W.heap[b]? =_ from h).symm.trans k;injection C with C;injection C with _ C;exact D C
theorem Ah{R base p a s v:Nat}{w0:World}{vb:Value}(Bp O E:Nat)(o0 o1 o2 e0:Value)(w:World)(hS:VO R base w0 vb 0 p a s w)(hp:Z7 w Bp 240 #[.pointer (some ⟨R,0,none⟩)])(ho:Z7 w O OM #[o0,o1,o2])(Y:Z7 w E FP #[e0]):
 CallsD prog 122 #[.pointer (some ⟨Bp,0,none⟩),.pointer (some ⟨O,0,none⟩),.pointer (some ⟨E,0,none⟩)] (.panicking (JO v)) w λe u' w'=>
  e=.returned (.tuple #[])/\u'=.panicking [{v:=.iface 247 (.agg #[.int .u32 v]),recovered:=true}]/\Hid (∃I ln D,Z7 w' O OM #[.int .u32 v,.int .i64 s,.slice I ln D])/\Hid (Z7 w' E FP #[.int .i64 0])/\(∀n:Nat,n<=R->n<=O->n<=E->n<=w.heap.size->Below n w w'):=by
 obtain⟨h1,h2,h3,lv,n,xs,h4,T,h6⟩:=hS;obtain⟨I,D,rfl⟩:=ZI h6;have n1:=NI T hp jD;have n2:=NI T ho jD;have n3:=NI T Y jD;have n4:=NI ho Y jD;have n5:=NI ho hp jD;have l1:=T.lt;have l2:=hp.lt;have l3:=ho.lt;have l4:=Y.lt;have U:=aT (T.alloc (.cells #[.int .u32 v] 247));have HP:=aT (hp.alloc (.cells #[.int .u32 v] 247));have J:=aT (ho.alloc (.cells #[.int .u32 v] 247));have HE:=aT (Y.alloc (.cells #[.int .u32 v] 247));have HV:=aT (Z7.new w 247 #[.int .u32 v]);have HB:Hid (∀n:Nat,n<=w.heap.size->Below n w (w.alloc (.cells #[.int .u32 v] 247))):=λn hn=>(aG n w).alloc hn _
 clear h1 h2 h3 h4 T h6 hp ho Y;unfold JO;refine callsD_of_wpS func122 rfl λc₀ cs hu=> ?_
 apply wpS_seq;apply wpS_region;simp[wpOpsS,go_sem,recoverD,hu,ntmps122,Exit.thenS,Array.replicate,List.replicate];have hta:=C6 v;refine wpS_of_wp ?_;go_upto_region 5 with fail;generalize w.alloc (.cells #[.int .u32 v] 247)=w1 at*;have q1:¬w.heap.size=R:=jO;obtain⟨BV,C⟩:∃B,w.heap.size=B:=⟨_,rfl⟩;rw[C] at HV q1 l1 l2 l3 l4;have HBV:=aT C;rw[C];clear C;unfold FT at U;have r20:=U.cell 20;have r21:=U.cell 21;have r22:=U.cell 22;have g20:=U.frozen 20;have p0:=HP.cell 0;have v0:=HV.cell 0;have y0:=J.cell 0;have y1:=J.cell 1;have y2:=J.cell 2;have z0:=J.frozen 0;have z1:=J.frozen 1;have z2:=J.frozen 2;have y4:=HE.cell 0;have z4:=HE.frozen 0;simp only[au,aM,aH] at r20 r21 r22 p0 v0 y0 y1 y2 y4;have m1:¬R=Bp:=n1;have m2:¬R=O:=n2;have m3:¬R=E:=n3;have Z:¬O=E:=n4;go_wp2;have hO:Hid (∃I ln D,Z7 _ O OM #[.int .u32 v,.int .i64 s,.slice I ln D]):=⟨I,n,D,((((J.other (B':=R) (ame m2) 20 (.int .u32 v)).set 0 (.int .u32 v)).set 1 (.int .i64 s)).set 2 (.slice I n D)).other (B':=E) Z 0 (.int .i64 0)⟩;have hE:Hid (Z7 _ E FP #[.int .i64 0]):=((((HE.other (B':=R) (ame m3) 20 (.int .u32 v)).other (B':=O) (ame Z) 0 (.int .u32 v)).other (B':=O) (ame Z) 1 (.int .i64 s)).other (B':=O) (ame Z) 2 (.slice I n D)).set 0 (.int .i64 0);have hB:∀n':Nat,n'<=R->n'<=O->n'<=E->n'<=w.heap.size->Below n' w _:=λn' k1 k2 k3 k4=>(((((HB n' k4).setCell (p:=⟨R,20,none⟩) k1 (.int .u32 v)).setCell (p:=⟨O,0,none⟩) k2 (.int .u32 v)).setCell (p:=⟨O,1,none⟩) k2 (.int .i64 s)).setCell (p:=⟨O,2,none⟩) k2 (.slice I n D)).setCell (p:=⟨E,0,none⟩) k3 (.int .i64 0)
 cases c₀;simp only at hu;subst hu;exact⟨rfl,_,rfl,.tuple #[],aof rfl _ _ _,rfl,rfl,hO,hE,hB⟩
def Ag(v:Nat)(w:World):Ending->World->Prop:=λe w'=>∃(s:Nat) (la:Option Addr) (ln lc:Nat),e=.returned (.tuple #[.agg #[.int .u32 v,.int .i64 s,.slice la ln lc],.int .i64 0])/\Below w.heap.size w w'
theorem OL{W:World}{B n c g:Nat}{bs:List Nat}(hn:bs.length=n)(h:W.ownsRow B 5 1 (.slice (some ⟨g,0,none⟩) n c) n (Zl bs)):Yi W.heap.size W (some ⟨g,0,none⟩) bs:=λi x hx=>by
 have hi:i<n:=by rw[<-hn];exact(ak.1 hx).1
 have hc:=h.cellAt i (by rw[aqa];exact hi);have C:(Zl bs)[i]? =some (fG x):=by unfold Zl;rw[acd,hx];rfl
 rw[C] at hc;exact⟨g,0,rfl,afg _ _ hc,by rw[ade];exact hc⟩
end Go.Proofs.YtclgigmgbebhgaaGreatDoor
namespace Go.Proofs.YtclgigmgbebhgaaGreatDoor
open Tryz
open Go Go.Proofs Go.RowKit
variable {fc:Array Value} {z:Int} {R PO PP PI FB L:Nat} {iv ov:Value} {w:World}
abbrev G0:Nat:=44
abbrev TGi:Nat:=79
structure XO(s R PO PP PI FB:Nat)(fc:Array Value)(w:World)(z:Int)(ov:Value)(pc:Array Value)(iv:Value)(W:World):Prop where
 Zr:Below s w W
 ls:s<=W.heap.size
 rb:Z7 W R G0 #[.slice none 0 0,.int .i64 0,.int .i64 0]
 ob:Z7 W PO G0 #[ov,.int .i64 0,.int .i64 z]
 pb:Z7 W PP Xw pc
 ib:Z7 W PI TGi #[iv]
 fb:Z7 W FB 82 fc
 lo:s<=R/\s<=PO/\s<=PP/\s<=PI
 ne:R≠PO
section
variable {s R PO PP PI FB:Nat} {w W W':World} {z:Int} {ov iv:Value} {pc fc:Array Value}
theorem XO.to(h:XO s R PO PP PI FB fc w z ov pc iv W)(hb:Below W.heap.size W W'):XO s R PO PP PI FB fc w z ov pc iv W':=
 ⟨h.Zr.trans (hb.mono h.ls),aO h.ls hb.size,h.rb.below hb h.rb.lt,h.ob.below hb h.ob.lt,h.pb.below hb h.pb.lt,h.ib.below hb h.ib.lt,h.fb.below hb h.fb.lt,h.lo,h.ne⟩
theorem XE{k k' t t':Nat}{cs cs':Array Value}(h:Z7 W k t cs)(C:Z7 W k' t' cs')(ht:t≠t'):k≠k':=λe=>by
 subst e;exact ht (TJ h C)
theorem XO.an7(h:XO s R PO PP PI FB fc w z ov pc iv W)(C:Int):XO s R PO PP PI FB fc w C ov pc iv (W.setCell ⟨PO,2,none⟩ (.int .i64 C)):=
 ⟨h.Zr.setCell (p:=⟨PO,2,none⟩) h.lo.2.1 _,by simp[h.ls],h.rb.other h.ne 2 _,h.ob.set 2 _,h.pb.other (XE h.pb h.ob jD) 2 _,h.ib.other (XE h.ib h.ob jD) 2 _,h.fb.other (XE h.fb h.ob jD) 2 _,h.lo,h.ne⟩
theorem XO.an8(h:XO s R PO PP PI FB fc w z ov pc iv W)(v:Value):XO s R PO PP PI FB fc w z v pc iv (W.setCell ⟨PO,0,none⟩ v):=
 ⟨h.Zr.setCell (p:=⟨PO,0,none⟩) h.lo.2.1 _,by simp[h.ls],h.rb.other h.ne 0 _,h.ob.set 0 _,h.pb.other (XE h.pb h.ob jD) 0 _,h.ib.other (XE h.ib h.ob jD) 0 _,h.fb.other (XE h.fb h.ob jD) 0 _,h.lo,h.ne⟩
theorem XO.aC0(h:XO s R PO PP PI FB fc w z ov pc iv W)(v:Value):XO s R PO PP PI FB fc w z ov pc v (W.setCell ⟨PI,0,none⟩ v):=
 ⟨h.Zr.setCell (p:=⟨PI,0,none⟩) h.lo.2.2.2 _,by simp[h.ls],h.rb.other (XE h.rb h.ib jD) 0 _,h.ob.other (XE h.ob h.ib jD) 0 _,h.pb.other (XE h.pb h.ib jD) 0 _,h.ib.set 0 _,h.fb.other (XE h.fb h.ib jD) 0 _,h.lo,h.ne⟩
theorem XO.Ll{j:Nat}{v:Value}(h:XO s R PO PP PI FB fc w z ov pc iv W):XO s R PO PP PI FB fc w z ov (pc.setIfInBounds j v) iv (W.setCell ⟨PP,j,none⟩ v):=
 ⟨h.Zr.setCell (p:=⟨PP,j,none⟩) h.lo.2.2.1 _,by simp[h.ls],h.rb.other (XE h.rb h.pb jD) j _,h.ob.other (XE h.ob h.pb jD) j _,h.pb.set j _,h.ib.other (XE h.ib h.pb jD) j _,h.fb.other (XE h.fb h.pb jD) j _,h.lo,h.ne⟩
theorem XO.px{c0 c1 c2 c3 c4 c5 c6 c7 c8:Value}(h:XO s R PO PP PI FB fc w z ov #[c0,c1,c2,c3,c4,c5,c6,c7,c8] iv W)(C D I J T U Y Z d8:Value):XO s R PO PP PI FB fc w z ov #[C,D,I,J,T,U,Y,Z,d8] iv (((((((((W.setCell ⟨PP,0,none⟩ C).setCell ⟨PP,1,none⟩ D).setCell ⟨PP,2,none⟩ I).setCell ⟨PP,3,none⟩ J).setCell ⟨PP,4,none⟩ T).setCell ⟨PP,5,none⟩ U).setCell ⟨PP,6,none⟩ Y).setCell ⟨PP,7,none⟩ Z).setCell ⟨PP,8,none⟩ d8):=by
 have h0:XO s R PO PP PI FB fc w z ov #[C,c1,c2,c3,c4,c5,c6,c7,c8] iv _:=h.Ll (j:=0) (v:=C);have h1:XO s R PO PP PI FB fc w z ov #[C,D,c2,c3,c4,c5,c6,c7,c8] iv _:=h0.Ll (j:=1) (v:=D);have h2:XO s R PO PP PI FB fc w z ov #[C,D,I,c3,c4,c5,c6,c7,c8] iv _:=h1.Ll (j:=2) (v:=I);have h3:XO s R PO PP PI FB fc w z ov #[C,D,I,J,c4,c5,c6,c7,c8] iv _:=h2.Ll (j:=3) (v:=J);have h4:XO s R PO PP PI FB fc w z ov #[C,D,I,J,T,c5,c6,c7,c8] iv _:=h3.Ll (j:=4) (v:=T);have h5:XO s R PO PP PI FB fc w z ov #[C,D,I,J,T,U,c6,c7,c8] iv _:=h4.Ll (j:=5) (v:=U);have h6:XO s R PO PP PI FB fc w z ov #[C,D,I,J,T,U,Y,c7,c8] iv _:=h5.Ll (j:=6) (v:=Y);have h7:XO s R PO PP PI FB fc w z ov #[C,D,I,J,T,U,Y,Z,c8] iv _:=h6.Ll (j:=7) (v:=Z);exact h7.Ll (j:=8) (v:=d8)
end
theorem XY{W:World}{t:Nat}{c0 c1 c2:Value}(hb:Z7 W R t #[c0,c1,c2]):(W.cell? ⟨R,0,none⟩=some c0/\W.cell? ⟨R,1,none⟩=some c1/\W.cell? ⟨R,2,none⟩=some c2)/\W.frozen? ⟨R,0,none⟩=false/\W.frozen? ⟨R,1,none⟩=false/\W.frozen? ⟨R,2,none⟩=false:=
 ⟨⟨hb.cell 0,hb.cell 1,hb.cell 2⟩,hb.frozen 0,hb.frozen 1,hb.frozen 2⟩
structure eK(pr:List NR)(l:List Z4.Z1)(k n:Int)(x:Bool)(q:X5)(es:Nat->List Xk)(s0 s1:List (Nat×Nat))(W:World):Prop where
 hd:q.d=YM k n
 hx:q.x=x
 f:∃dn,U1 pr l q.d x dn es s0 s1
 r:∃lo,R5 lo W (λa=>VD (q.e a)) (λm=>if m=0 then VD q.s0 else VD q.s1) es (λm=>if m=0 then s0 else s1)
theorem uC{V:Prop}{C:Int->Prop}{bl:Bool}{s BP BT c:Nat} {a:Option Addr}{pr:List NR}{k n:Int}{x:Bool}{tv:Value}{l:List Z4.Z1} (W:World)(hM:XO s R PO PP PI FB fc w 0 (.slice none 0 0) WN iv W)(U:Z7 W BP VQ #[.int .i64 k,.int .i64 n,.bool x,.slice a L c])(Y:Z7 W BT 41 #[tv])
 (J:Calls prog 22 #[.agg #[.int .i64 k,.int .i64 n,.bool x,.slice a L c],tv] W λe w'=>pq C bl W e w'\/(V/\fq pr l k n x W e w')):
 Calls prog 21 #[.pointer (some ⟨BP,0,none⟩),.pointer (some ⟨BT,0,none⟩),.pointer (some ⟨PP,0,none⟩),.pointer (some ⟨PO,0,none⟩)] W λe w'=>∃ev:Int,e=.returned (.int .i64 ev)/\((ev≠0/\(C ev\/bl=true)/\∃z,XO s R PO PP PI FB fc w z (.slice none 0 0) WN iv w')\/(ev=0/\V/\∃q es s0 s1,eK pr l k n x q es s0 s1 w'/\XO s R PO PP PI FB fc w 0 (.slice none 0 0) (Zy q) iv w')):=by
 have Z:=aT hM;have HR:=aT J;obtain⟨⟨p0,p1,p2,p3⟩,_⟩:=Z8 U;have t0:=Y.e0;clear hM U Y J;go_enter func21,ntmps21;go_wp2_with fail;refine HR.mono ?_;rintro e w1 (⟨z,ev,T,hC,rfl,hb⟩|⟨hv,q,dn,es,s0,s1,rfl,hd,hx,hf,hr,hb⟩);·have D:=aT (Z.to hb);have HC:=aT (And.intro T hC);clear hb T hC p0 p1 p2 p3 t0 Z HR;unfold WN at*;obtain⟨⟨r0,r1,r2,r3,r4,r5,r6,r7,r8⟩,f0,f1,f2,f3,f4,f5,f6,f7,f8⟩:=VH D.pb;have I:=aT (D.px (.int .u32 0) (.bool false) (.slice none 0 0) (.slice none 0 0) (.slice none 0 0) (.slice none 0 0) (.slice none 0 0) (.slice none 0 0) (.slice none 0 0));obtain⟨⟨o0,o1,o2⟩,g0,g1,g2⟩:=XY I.ob;go_wp2_with fail;go_ret;exact⟨_,rfl,.inl ⟨HC.1,HC.2,z,I.an7 z⟩⟩
 ·have D:=aT (Z.to hb);obtain⟨qd,qx,⟨a0,n0,c0⟩,⟨a1,n1,c1⟩,⟨a2,n2,c2⟩,⟨a3,n3,c3⟩,⟨a4,n4,c4⟩,⟨a5,n5,c5⟩,⟨a6,n6,c6⟩⟩:=q;have BC:=aT hr;have HF:=aT (And.intro hd (And.intro hx hf));clear hb hd hx hf hr p0 p1 p2 p3 t0 Z HR;unfold WN at*;unfold Zy VD at*;dsimp only at*;obtain⟨⟨r0,r1,r2,r3,r4,r5,r6,r7,r8⟩,f0,f1,f2,f3,f4,f5,f6,f7,f8⟩:=VH D.pb;have I:=aT (D.px (.int .u32 qd) (.bool qx) (.slice a0 n0 c0) (.slice a1 n1 c1) (.slice a2 n2 c2) (.slice a3 n3 c3) (.slice a4 n4 c4) (.slice a5 n5 c5) (.slice a6 n6 c6));have Iu:=aT (BC.px D.pb (.int .u32 qd) (.bool qx) (.slice a0 n0 c0) (.slice a1 n1 c1) (.slice a2 n2 c2) (.slice a3 n3 c3) (.slice a4 n4 c4) (.slice a5 n5 c5) (.slice a6 n6 c6));obtain⟨⟨o0,o1,o2⟩,g0,g1,g2⟩:=XY I.ob;go_wp2_with fail;go_ret;exact⟨_,rfl,.inr ⟨rfl,hv,⟨qd,qx,(a0,n0,c0),(a1,n1,c1),(a2,n2,c2),(a3,n3,c3),(a4,n4,c4),(a5,n5,c5),(a6,n6,c6)⟩,es,s0,s1,⟨HF.1,HF.2.1,⟨dn,HF.2.2⟩,⟨_,Iu.uO I.ob jD jD jD jD 2 _⟩⟩,I.an7 0⟩⟩
structure C5(q:X5)(es:Nat->List Xk)(s0 s1:List (Nat×Nat))(p:YE)(cs:List Nat):Prop where
 d:p.d=q.d
 x:p.Vl=q.x
 p0:p.p0.Perm (ZZ 0 (es 0) s0 s1)/\p.p0.Pairwise (λx y=>x.1<y.1)
 p1:(q.x=true->p.p1.Perm (ZZ 1 (es 1) s0 s1))/\(q.x=false->p.p1=[])/\p.p1.Pairwise (λx y=>x.1<y.1)
 p2:p.p2.Perm (ZZ 2 (es 2) s0 s1)/\p.p2.Pairwise (λx y=>x.1<y.1)
 p3:p.p3.Perm (ZZ 3 (es 3) s0 s1)/\p.p3.Pairwise (λx y=>x.1<y.1)
 p4:p.p4.Perm (ZZ 4 (es 4) s0 s1)/\p.p4.Pairwise (λx y=>x.1<y.1)
 c:Oz p cs
 c32:∀c∈cs,c<4294967296
 max:(ZL p cs).length<=1000000
 len:(ZL p cs).length<=80+2*TP p
theorem uB{s:Nat} {q:X5}{es:Nat->List Xk}{s0 s1:List (Nat×Nat)} (W:World)(Y:XO s R PO PP PI FB fc w z ov (Zy q) iv W)(hp:Ug W.heap.size W q es s0 s1)(hk:∀a,a<5->ZW (ZZ a (es a) s0 s1)<=10000):
 Calls prog 23 #[.pointer (some ⟨PP,0,none⟩),.pointer (some ⟨PI,0,none⟩)] W λe w'=>e=.returned (.int .i64 0)/\∃v p cs,C5 q es s0 s1 p cs/\XO s R PO PP PI FB fc w z ov (Zy q) v w'/\w'.ownsRow W.heap.size Wc 5 v (ZL p cs).length (XT (ZL p cs)):=by
 have HM:=aT Y;have HI:=aT (uR W hp (aR _) hk);obtain⟨c0,c1,c2,c3,c4,c5,c6,c7,c8⟩:=Kc Y.pb;obtain⟨qd,qx,⟨a0,n0,k0⟩,⟨a1,n1,k1⟩,⟨a2,n2,k2⟩,⟨a3,n3,k3⟩,⟨a4,n4,k4⟩,⟨a5,n5,k5⟩,⟨a6,n6,k6⟩⟩:=q;clear Y hp hk;unfold Zy VD at*;dsimp only at*;go_enter func23,ntmps23;go_wp2_with fail;refine HI.mono ?_;rintro e w1 ⟨v,p,cs,rfl,h1,h2,h3,h4,h5,h6,h7,h8,h9,T,U,C,hb⟩;have HD:Hid (C5 ⟨qd,qx,(a0,n0,k0),(a1,n1,k1),(a2,n2,k2),(a3,n3,k3),(a4,n4,k4),(a5,n5,k5),(a6,n6,k6)⟩ es s0 s1 p cs):=⟨h1,h2,h3,h4,h5,h6,h7,h8,h9,T,U⟩;obtain⟨va,vc,rfl⟩:=Z0 C;have D:=aT (HM.to hb);have J:=aT C;obtain⟨IL,I⟩:∃z,(ZL p cs).length=z:=⟨_,rfl⟩;rw[I] at J ⊢;have Z:=aT I;clear I;have i0:=D.ib.cell 0;have g0:=D.ib.frozen 0;simp only[au,aM] at i0;clear h1 h2 h3 h4 h5 h6 h7 h8 h9 T U C hb c0 c1 c2 c3 c4 c5 c6 c7 c8 HM HI;go_wp2_with fail;go_ret;exact⟨rfl,_,p,cs,HD,D.aC0 _,(by rw[Z.out];exact ZV J D.ib jD 0 _)⟩
theorem uA{s K B0 c:Nat} {ad:Option Addr}{pc:Array Value}{it:List Z9} (W:World)(hM:XO s R PO PP PI FB fc w z ov pc (.slice ad L c) W)(Y:R8 it L K)(C:W.ownsRow B0 Wc 5 (.slice ad L c) L (XT it)):
 Calls prog 25 #[.pointer (some ⟨PI,0,none⟩),.pointer (some ⟨PO,0,none⟩)] W λe w'=>∃v out at_ ZU far,UK it out at_ ZU far/\(at_ 0=0/\ZU 0=false)/\XO s R PO PP PI FB fc w z v pc (.slice ad L c) w'/\((e=.returned (.int .i64 3)/\4096<3*K)\/(e=.returned (.int .i64 0)/\∃n,XP out n/\∃gp cp B1,v=.slice (some ⟨gp,0,none⟩) (n*8) cp/\n*8<=cp/\w'.ownsRow B1 5 1 (.slice (some ⟨gp,0,none⟩) (n*8) cp) (n*8) (Zl (Yz out)))):=by
 have hm:=kz Y.len C;obtain⟨qi,y,hl,hy,Z⟩:=Y.last;have HA:=aT (FU (c:=c) Y (λw' hm' hN'=>AX it qi y L c ad Y.len Y.max hl hy Z Y.fL Y.ok w' hm' hN') W hm (aR _));have HM:=aT hM;have i0:=hM.ib.e0;clear hM Y C hm hl hy Z;go_enter func25,ntmps25;go_wp2_with fail;refine HA.mono ?_;rintro e w1 ⟨hb,out,at_,ZU,far,U,hu,(⟨h4,h3,rfl⟩|⟨n,v,D,rfl,hr⟩)⟩
 ·have T:=aT (HM.to hb);have J:=aT (And.intro U hu);have HLn:Hid (4096<3*K):=by show _<_;omega
  have HW:=aT (He (c:=0) (n:=0) (ad:=none) (N:=w1.heap.size) [] rfl jD (λx hx=>by cases hx) w1 (λi x hx=>by simp at hx) (aR _));clear hb U hu h4 h3 i0 HM HA;go_wp2_with fail;refine HW.mono ?_;rintro e w2 ⟨v,rfl,C,hb⟩;have I:=aT (T.to hb);obtain⟨va,vc,rfl⟩:=Z0 C;obtain⟨⟨o0,o1,o2⟩,g0,g1,g2⟩:=XY I.ob;clear C hb HW T;go_wp2_with fail;go_ret;exact⟨_,out,at_,ZU,far,J.1,J.2,I.an8 _,.inl ⟨rfl,HLn⟩⟩
 ·have T:=aT (HM.to hb);have J:=aT (And.intro U hu);have HPG:=aT D;obtain⟨va,vc,rfl⟩:=Z0 hr;have hn1:=D.pos;have hn2:=D.max;have HW:=aT (He (c:=vc) (N:=w1.heap.size) out D.len jO D.fit w1 (JU D.len hr) (aR _));clear hb U hu D hr i0 HM HA;go_wp2_with fail;refine HW.mono ?_;rintro e w2 ⟨v,rfl,C,hb⟩;have I:=aT (T.to hb);obtain⟨gp,cp,rfl,hgp,tE⟩:=World.ownsRow.form C jO;have Iu:=aT C;obtain⟨⟨o0,o1,o2⟩,g0,g1,g2⟩:=XY I.ob;clear C hb HW T;go_wp2_with fail;go_ret;refine⟨_,out,at_,ZU,far,J.1,J.2,I.an8 _,.inr ⟨rfl,n,HPG,gp,cp,_,rfl,?_,ZV Iu I.ob jD 0 _⟩⟩
  ·have h:=Iu.2;rcases h with⟨e,_⟩|⟨g',c',cur,e,_,_,hc,_⟩
   ·cases e
   ·cases e;exact hc
end Go.Proofs.YtclgigmgbebhgaaGreatDoor
