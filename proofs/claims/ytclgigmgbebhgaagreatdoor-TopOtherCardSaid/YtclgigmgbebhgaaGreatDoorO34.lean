/- TopOther: part 34: TopVm2 TopClone TopVm3 TopBld1. -/
import Derived.Test.YtclgigmgbebhgaaGreatDoorO28
import Derived.Test.YtclgigmgbebhgaaGreatDoorO32
import Derived.Test.YtclgigmgbebhgaaGreatDoorO33
set_option linter.unusedVariables false
set_option linter.unusedSimpArgs false
set_option maxRecDepth 100000
set_option maxHeartbeats 16000000
namespace Go.Proofs.YtclgigmgbebhgaaGreatDoor
open Tryz
open Go Go.Proofs Go.RowKit Go.Maps Go.WideMaps Go.ChangeMaps
variable {W:World}
@[go_sem] abbrev eu:Oper:=⟨some 51,.load 233 (.tmp 50),233,"vm.go:146",#[⟨3,.data⟩],none⟩
@[go_sem] abbrev et:Oper:=⟨some 57,.buildSlice 233 1 #[(0,.tmp 56)],233,"vm.go:146",#[⟨9,.data⟩],none⟩
@[go_sem] abbrev er:Oper:=⟨some 58,.call {callee:=.builtin .append,args:=#[.tmp 51,.tmp 57],argTypes:=#[233,233]},233,"vm.go:146",#[⟨4,.data⟩,⟨10,.data⟩],none⟩
@[go_sem] abbrev ep:Oper:=⟨some 59,.nilCheck (.tmp 47),0,"vm.go:146",#[⟨0,.data⟩,⟨0,.phase⟩,⟨1,.phase⟩,⟨2,.phase⟩,⟨3,.phase⟩,⟨4,.phase⟩,⟨5,.phase⟩,⟨6,.phase⟩,⟨7,.phase⟩,⟨8,.phase⟩,⟨9,.phase⟩,⟨10,.phase⟩,⟨11,.phase⟩],none⟩
@[go_sem] abbrev ej:Oper:=⟨some 60,.fieldAddr 235 (.tmp 59) 0,0,"vm.go:146",#[⟨12,.data⟩,⟨0,.phase⟩,⟨1,.phase⟩,⟨2,.phase⟩,⟨3,.phase⟩,⟨4,.phase⟩,⟨5,.phase⟩,⟨6,.phase⟩,⟨7,.phase⟩,⟨8,.phase⟩,⟨9,.phase⟩,⟨10,.phase⟩,⟨11,.phase⟩],none⟩
@[go_sem] abbrev ei:Oper:=⟨none,.store 233 (.tmp 60) (.tmp 58),0,"vm.go:146",#[⟨13,.data⟩,⟨11,.data⟩,⟨11,.chain⟩,⟨0,.phase⟩,⟨1,.phase⟩,⟨2,.phase⟩,⟨3,.phase⟩,⟨4,.phase⟩,⟨5,.phase⟩,⟨6,.phase⟩,⟨7,.phase⟩,⟨8,.phase⟩,⟨9,.phase⟩,⟨10,.phase⟩,⟨11,.phase⟩],none⟩
abbrev eh:Nat:=235
def Ss:List (Value×Value):=[(.int .i64 1,.func (.func 187) #[] #[]),(.int .i64 2,.func (.func 188) #[] #[]),(.int .i64 3,.func (.func 189) #[] #[]),(.int .i64 4,.func (.func 190) #[] #[]),(.int .i64 5,.func (.func 191) #[] #[]),(.int .i64 6,.func (.func 192) #[] #[]),(.int .i64 7,.func (.func 193) #[] #[]),(.int .i64 8,.func (.func 194) #[] #[]),(.int .i64 9,.func (.func 195) #[] #[]),(.int .i64 10,.func (.func 196) #[] #[]),(.int .i64 11,.func (.func 197) #[] #[]),(.int .i64 12,.func (.func 198) #[] #[]),(.int .i64 13,.func (.func 199) #[] #[]),(.int .i64 14,.func (.func 200) #[] #[]),(.int .i64 15,.func (.func 201) #[] #[])]
theorem FW:Keyed prog 162:=int_keyed underlying162
theorem pj(n:Int)(h: -9223372036854775808<=n/\n<=9223372036854775807):∃l,keyOf prog 162 (.int .i64 n)=some l:=⟨_,keyOf_int_mk underlying162 (by
 show(decide (IntKind.i64.min<=n)&&decide (n<=IntKind.i64.max))=true;rw[show IntKind.i64.min= -9223372036854775808 from jD,show IntKind.i64.max=9223372036854775807 from jD];simp only[agc,aed];exact h)⟩
theorem uJ(w:World):Calls prog 118 #[] w λe w'=>e=.returned (.map (some w.heap.size))/\ZB w' w.heap.size Ss/\Below w.heap.size w w':=by
 have D:= @apc prog;have A:=aT (Nz.made w);go_enter func118,ntmps118
 go_wp2_with (refine YU rfl rfl 236 _ _ _ rfl 162 238 FW underlying236 w w.heap.size _ A.out rfl _ _ rfl rfl ?hS ?hk ?hn ?_;(case hk=>exact pj _ jO);(case hS=>exact RV underlying162 jR);(case hn=>exact KZ jR);clear A;intro I C;have A:=aT C;clear C)
 go_ret;exact⟨rfl,A.out.map,(aH _ w).grown A.out.grown (aR _) (λk e=>by have:=ax e;omega)⟩
theorem Ah:Ss.Pairwise (λp q=>p.1≠q.1):=by simp[Ss]
theorem ac4:∀W,(zeroValue 238).run prog W=.ok .nilFunc W:=λ_=>jK
theorem JW {B:Nat}(h:ZB W B Ss){k:Int}{v:Value}(hk: -9223372036854775808<=k/\k<=9223372036854775807)(hm:(.int .i64 k,v)∈Ss):(Instr.lookup 236 (.map (some B)) (.int .i64 k) false).run prog W=.ok v W:=
 Xu underlying236 FW h (RV underlying162 jR) (pj k hk) hm Ah
theorem Rk {B:Nat}(h:ZB W B Ss){k:Int}(hk: -9223372036854775808<=k/\k<=9223372036854775807)(hm:Ss.all (lV k)=true):(Instr.lookup 236 (.map (some B)) (.int .i64 k) false).run prog W=.ok .nilFunc W:=
 Ud underlying236 FW ac4 h (RV underlying162 jR) (pj k hk) (KZ hm)
def doV(c:Nat):Value:=if c=0x20\/c=0x05\/c=0x06 then .func (.func (PW c)) #[] #[] else .nilFunc
theorem uI {B c:Nat}(h:ZB W B Ss)(hc:codeOk c):(Instr.lookup 236 (.map (some B)) (.int .i64 (Zz c:Int)) false).run prog W=.ok (doV c) W:=by
 rcases hc with rfl|rfl|rfl|rfl|rfl|rfl|rfl|rfl;·exact JW h (k:=1) jD (by simp[Ss,doV,PW])
 ·exact Rk h (k:=21) jD jR
 ·exact JW h (k:=13) jD (by simp[Ss,doV,PW])
 ·exact JW h (k:=14) jD (by simp[Ss,doV,PW])
 ·exact Rk h (k:=25) jD jR
 ·exact Rk h (k:=26) jD jR
 ·exact Rk h (k:=27) jD jR
 ·exact Rk h (k:=28) jD jR
theorem ac5:(prog.info? UZ).map (λi=>(i.zero,i.size,i.bytes))=some (some (.agg #[.int .u16 0,.int .u8 0,.int .u8 0,.int .u32 0,.nilFunc,.int .i64 0,.bool false]),7,32):=jK
theorem G8 {B e s n b:Nat}{v:Value}{xs:List Value}{S:List (Value×Value)}(h:W.ownsRow B e s v n xs)(hm:ZB W b S):v.ownBlock≠some b:=λA=>by
 rcases h.2 with⟨rfl,_⟩|⟨k,cap,D,rfl,_,hk,_⟩
 ·cases A
 ·obtain⟨es,J,I,_⟩:=hm;have e2:k=b:=ax A;rw[e2] at hk;have C:=hk.symm.trans I;cases C
def LZ(Bm Bd:Nat)(l:List ZN)(w0:World)(m:Nat)(W:World):Prop:=Below w0.heap.size w0 W/\w0.heap.size<=Bm/\ZB W Bd Ss/\∃v,Z7 W Bm eh #[v]/\W.ownsRow w0.heap.size UZ 7 v m ((l.take m).flatMap NF)
theorem LZ.bl{Bm Bd m:Nat}{l:List ZN}{w0 W':World}(h:LZ Bm Bd l w0 m W)(hb:Below W.heap.size W W'):LZ Bm Bd l w0 m W':=by
 obtain⟨C,I,D,v,A,J⟩:=h;exact⟨C.trans (hb.mono C.size),I,D.below hb D.lt,v,A.below hb A.lt,ZE J hb⟩
def ac6(n:Nat)(l:List ZN)(w:World):Ending->World->Prop:=λe w'=>∃Bm v,e=.returned (.tuple #[.pointer (some ⟨Bm,0,none⟩),.int .i64 0])/\Z7 w' Bm eh #[v]/\w'.ownsRow w.heap.size UZ 7 v n (l.flatMap NF)/\Below w.heap.size w w'
theorem iX{N n c:Nat}{ad:Option Addr}{l:List ZN}(hp:X6 l n)(w:World)(hm:Jj N w ad l)(hN:N<=w.heap.size):
 Calls prog 64 #[.slice ad n c] w (ac6 n l w):=by
 have HP:=aT hp;have HM:=aT hm;have HCk:=aT (Ha (c:=c) hp w hm hN);have hmx:=hp.max;obtain⟨i0,XX,SC,Vo,TD⟩:=ZP ac5;clear hp hm;go_enter func64,ntmps64;go_wp2_with fail;refine HCk.out.mono ?_;rintro e w1 ⟨rfl,hb⟩;have Uy:=aT (hb.alloc hb.size (.cells #[.slice none 0 0] eh));have HK1:=aT (Z7.new w1 eh #[.slice none 0 0]);have Nb:=hb.size;clear hb HCk;go_upto_region 5 with fail;generalize w1.alloc (.cells #[.slice none 0 0] eh)=w2 at*;generalize w1.heap.size=Bm at*;go_wp2_with fail;refine(uJ w2).mono ?_;rintro e w3 ⟨rfl,hmp,hb⟩;have Ch:Hid (LZ Bm w2.heap.size l w 0 w3):=⟨Uy.out.trans (hb.mono Uy.out.size),Nb,hmp,_,HK1.out.below hb HK1.out.lt,Yg _ _ _ _⟩;clear hmp hb Uy HK1;generalize w2.heap.size=Bd at*;go_upto_region 7 with fail;go_loopg [27] (n+1) (λgg iv wr=>∃m:Nat,m<=n/\n-m<gg/\iv=.int .i64 (m:Int)/\Hid (LZ Bm Bd l w m wr));case atStart=>exact⟨0,abc _,jO,rfl,Ch⟩
 case round=>
  obtain⟨m,zi,VP,rfl,HA⟩:=hrel;clear Ch;have m0:=jZ m;by_cases hlt:m<n
  ·have Y8:(m:Int)<(n:Int):=by omega
   have iw:=jW m;obtain⟨x,hx⟩:∃x,l[m]? =some x:=⟨_,aM (by rw[HP.out.len];exact hlt)⟩;obtain⟨g,off,rfl,U7,c0,c1,c2,c3⟩:=(HM.out.below HA.out.1 hN) m x hx;have hco:=HP.out.code hx;have vy:(l.take (m+1)).flatMap NF=(l.take m).flatMap NF++NF x:=by rw[afb,hx,acb];simp
   have td:=aT vy;have HCO:=aT hco;have Ig:Hid (∀W,Calls prog 109 #[.int .u16 x.code] W (SA x.code W)):=λW=>V7 hco W
   clear hx hco vy;obtain⟨xc,Y,T,U⟩:=x;dsimp only at c0 c1 c2 c3 HCO Ig;have an8:Hid ((l.take (m+1)).flatMap NF=(l.take m).flatMap NF++[.int .u16 xc,.int .u8 Y,.int .u8 T,.int .u32 U,.func (.func (PW xc)) #[] #[],.int .i64 (Zz xc:Int),.bool false]):=td.out;clear td;unfold SA at Ig;have HT:=aT (Z7.new wr XG #[.int .u16 xc,.int .u8 Y,.int .u8 T,.int .u32 U]);have Ls:=aT (HA.out.bl ((aH wr.heap.size wr).alloc (aR _) (.cells #[.int .u16 xc,.int .u8 Y,.int .u8 T,.int .u32 U] XG)));clear HA;go_upto_region 9 with fail;generalize wr.alloc (.cells #[.int .u16 xc,.int .u8 Y,.int .u8 T,.int .u32 U] XG)=wa at*;generalize wr.heap.size=T9 at*;clear c0 c1 c2 c3;have c0:=HT.out.e0;go_wp2_with fail;refine(Ig.out wa).mono ?_;rintro e wb ⟨rfl,hb⟩;have Ut:=aT (Ls.out.bl hb);have Uu:=aT (HT.out.below hb HT.out.lt);have lk:=uI Ut.out.2.2.1 HCO.out;clear hb Ls HT c0 Ig;have hcs:(xc=32/\Zz xc=1)\/(xc=5/\Zz xc=13)\/(xc=6/\Zz xc=14)\/(xc=84/\Zz xc=21)\/(25<=Zz xc/\Zz xc<=28/\PW xc=119/\doV xc=.nilFunc):=by
    rcases HCO.out with rfl|rfl|rfl|rfl|rfl|rfl|rfl|rfl;·exact .inl ⟨rfl,rfl⟩
    ·exact .inr (.inr (.inr (.inl ⟨rfl,rfl⟩)))
    ·exact .inr (.inl ⟨rfl,rfl⟩)
    ·exact .inr (.inr (.inl ⟨rfl,rfl⟩))
    ·exact .inr (.inr (.inr (.inr ⟨jD,jD,rfl,rfl⟩)))
    ·exact .inr (.inr (.inr (.inr ⟨jD,jD,rfl,rfl⟩)))
    ·exact .inr (.inr (.inr (.inr ⟨jD,jD,rfl,rfl⟩)))
    ·exact .inr (.inr (.inr (.inr ⟨jD,jD,rfl,rfl⟩)))
   go_upto_region 10 with fail;go_cut [13] (λkS wx=>kS=doV xc/\wb=wx)
   case first=>
    go_wp2_with fail;go_meet;exact⟨rfl,rfl⟩
   case rest=>
   obtain⟨rfl,rfl⟩:=hcut;rename_i hB;refine hB _ _ ?_;clear hB;apply wp_seq_k;intro _ _;go_cut [13,41,44] from 38 to 46 (λkS s41 s44 wx=>kS=.func (.func (PW xc)) #[] #[]/\wb=wx)
   case first=>
    rcases hcs with⟨rfl,hk⟩|⟨rfl,hk⟩|⟨rfl,hk⟩|⟨rfl,hk⟩|⟨kZ,hk2,hdf,hdv⟩;·rw[hk];go_wp2_with fail;go_meet;exact⟨rfl,rfl⟩
    ·rw[hk];go_wp2_with fail;go_meet;exact⟨rfl,rfl⟩
    ·rw[hk];go_wp2_with fail;go_meet;exact⟨rfl,rfl⟩
    ·rw[hk];go_wp2_with fail;go_meet;exact⟨rfl,rfl⟩
    ·have dt:(25:Int)<=(Zz xc:Int):=by omega
     go_wp2_with fail;go_meet;exact⟨by rw[hdf],rfl⟩
   case rest=>
   obtain⟨rfl,rfl⟩:=hcut;clear hcs HCO lk;generalize Zz xc=KN at*;generalize PW xc=FV at*;go_upto_region 15 with fail;have HVD:Hid (LZ Bm Bd l w m wb.drew):=by obtain⟨h1,h2,h3,v,h4,h5⟩:=Ut.out;exact⟨h1.drew,h2,h3,v,h4,h5⟩
   obtain⟨v1,hbm,v3,lv,v5,v6⟩:=HVD.out;have HV1:=aT v1;have HV3:=aT v3;have HV5:=aT v5;have Bj:=aT v6;have Fv:Hid (Z7 wb.drew T9 XG #[.int .u16 xc,.int .u8 Y,.int .u8 T,.int .u32 U]):=Uu.out;have Uj:Hid (wb.drew.cell? ⟨T9,0,none⟩=some (.int .u16 xc)/\wb.drew.cell? ⟨T9,1,none⟩=some (.int .u8 Y)/\wb.drew.cell? ⟨T9,2,none⟩=some (.int .u8 T)/\wb.drew.cell? ⟨T9,3,none⟩=some (.int .u32 U)):=⟨Fv.out.cell 0,Fv.out.cell 1,Fv.out.cell 2,Fv.out.cell 3⟩;clear v1 v3 v5 v6 HVD Ut Uu;refine auc ?_;refine akd (S:=λw'=>w'.cell? ⟨T9,0,none⟩=some (.int .u16 xc)/\w'.cell? ⟨T9,1,none⟩=some (.int .u8 Y)/\w'.cell? ⟨T9,2,none⟩=some (.int .u8 T)/\w'.cell? ⟨T9,3,none⟩=some (.int .u32 U)) jK Uj.out (λhHeld=> ?_);generalize wb.drew=wd at*;refine jT 0 ⟨some 47,.move (.tmp 6),174,"vm.go:146",#[],none⟩ ?_;try simp only[Act.put,aS,aP,aQ]
   refine jT 1 ⟨some 48,.move (.tmp 6),174,"vm.go:146",#[],none⟩ ?_;try simp only[Act.put,aS,aP,aQ]
   refine jT 2 ⟨some 49,.nilCheck (.tmp 48),0,"vm.go:146",#[⟨1,.data⟩],none⟩ ?_;try simp only[Act.put,aS,aP,aQ]
   refine jT 3 ⟨some 50,.fieldAddr 235 (.tmp 49) 0,0,"vm.go:146",#[⟨2,.data⟩],none⟩ ?_;try simp only[Act.put,aS,aP,aQ]
   refine jT 5 ⟨some 52,.load 166 (.tmp 9),166,"vm.go:146",#[],none⟩ ?_;try simp only[Act.put,aS,aP,aQ]
   refine jT 6 ⟨some 53,.move (.tmp 13),238,"vm.go:146",#[],none⟩ ?_;try simp only[Act.put,aS,aP,aQ]
   refine jT 7 ⟨some 54,.move (.tmp 10),162,"vm.go:146",#[],none⟩ ?_;try simp only[Act.put,aS,aP,aQ]
   refine jT 8 ⟨some 55,.move (.tmp 11),4,"vm.go:146",#[],none⟩ ?_;try simp only[Act.put,aS,aP,aQ]
   refine jT 9 ⟨some 56,.build 242 #[(0,.tmp 52),(1,.tmp 53),(2,.tmp 54),(3,.tmp 55)],242,"vm.go:146",#[⟨5,.data⟩,⟨6,.data⟩,⟨7,.data⟩,⟨8,.data⟩],none⟩ ?_;try simp only[Act.put,aS,aP,aQ]
   have Ee:=aT (HV1.out.alloc HV1.out.size (.cells #[.int .u16 xc,.int .u8 Y,.int .u8 T,.int .u32 U,.func (.func FV) #[] #[],.int .i64 KN,.bool false] UZ));have Ce:=aT (HV5.out.alloc (.cells #[.int .u16 xc,.int .u8 Y,.int .u8 T,.int .u32 U,.func (.func FV) #[] #[],.int .i64 KN,.bool false] UZ));have Ay:=aT (ZE Bj.out ((aH wd.heap.size wd).alloc (aR _) (.cells #[.int .u16 xc,.int .u8 Y,.int .u8 T,.int .u32 U,.func (.func FV) #[] #[],.int .i64 KN,.bool false] UZ)));have x9:=aT (Fv.out.alloc (.cells #[.int .u16 xc,.int .u8 Y,.int .u8 T,.int .u32 U,.func (.func FV) #[] #[],.int .i64 KN,.bool false] UZ));have HDA:=aT (HV3.out.alloc (.cells #[.int .u16 xc,.int .u8 Y,.int .u8 T,.int .u32 U,.func (.func FV) #[] #[],.int .i64 KN,.bool false] UZ));have Jt:Hid ((wd.alloc (.cells #[.int .u16 xc,.int .u8 Y,.int .u8 T,.int .u32 U,.func (.func FV) #[] #[],.int .i64 KN,.bool false] UZ)).cell? ⟨T9,0,none⟩=some (.int .u16 xc)/\(wd.alloc (.cells #[.int .u16 xc,.int .u8 Y,.int .u8 T,.int .u32 U,.func (.func FV) #[] #[],.int .i64 KN,.bool false] UZ)).cell? ⟨T9,1,none⟩=some (.int .u8 Y)/\(wd.alloc (.cells #[.int .u16 xc,.int .u8 Y,.int .u8 T,.int .u32 U,.func (.func FV) #[] #[],.int .i64 KN,.bool false] UZ)).cell? ⟨T9,2,none⟩=some (.int .u8 T)/\(wd.alloc (.cells #[.int .u16 xc,.int .u8 Y,.int .u8 T,.int .u32 U,.func (.func FV) #[] #[],.int .i64 KN,.bool false] UZ)).cell? ⟨T9,3,none⟩=some (.int .u32 U)):=⟨x9.out.cell 0,x9.out.cell 1,x9.out.cell 2,x9.out.cell 3⟩;have mD:w.heap.size<=(wd.alloc (.cells #[.int .u16 xc,.int .u8 Y,.int .u8 T,.int .u32 U,.func (.func FV) #[] #[],.int .i64 KN,.bool false] UZ)).heap.size:=Ee.out.size;have k4:wd.cell? ⟨Bm,0,none⟩=some lv:=HV5.out.cell 0;have k5:(wd.alloc (.cells #[.int .u16 xc,.int .u8 Y,.int .u8 T,.int .u32 U,.func (.func FV) #[] #[],.int .i64 KN,.bool false] UZ)).cell? ⟨Bm,0,none⟩=some lv:=Ce.out.cell 0;refine aaf (rs:=[4,10]) jK jS ?_;refine ag (o:=eu) rfl (λK' Z=> ?ac7) (ag (o:=et) rfl (λK' Z=> ?iW) aab)
   case ac7=>
    go_simp;refine Z.out _ _ hHeld (λhHeld=> ?_);clear Z K';try simp only[Act.put,aS,aP,aQ]
    refine aaf (rs:=[10]) jK jS ?_;refine ag (o:=et) rfl (λK' Z=> ?_) aab;go_simp;clear hHeld;refine Z.out _ _ Jt.out (λhHeld=> ?_);clear Z K';try simp only[Act.put,aS,aP,aQ]
    refine aaf (rs:=[11]) jK jS ?_;refine ag (o:=er) rfl (λK' Z=> ?_) aab;refine Ys _ _ _ 233 jR w.heap.size UZ i0 (.agg #[.int .u16 0,.int .u8 0,.int .u8 0,.int .u32 0,.nilFunc,.int .i64 0,.bool false]) 7 32 underlying233 XX SC Vo TD rfl jD lv m _ jR Ay.out ⟨wd.heap.size,0,none⟩ 1 1 [.int .u16 xc,.int .u8 Y,.int .u8 T,.int .u32 U,.func (.func FV) #[] #[],.int .i64 KN,.bool false] jR rfl (Y1 rfl) (by simp[Value.oneCell']) (by unfold maxLen;omega) jO mD ?_;intro v' I C A;obtain⟨g7,q7,rfl,_,_⟩:=World.ownsRow.form C jO;have Ov:=aT (Ee.out.grown A mD (λk e=>(Ay.out.lt k e).1));have D:=aT (Ce.out.kept A (λe=>YT Ay.out Ce.out jD e.symm));have J:=aT (x9.out.kept A (λe=>YT Ay.out x9.out jD e.symm));have HD7:=aT (HDA.out.kept A (λe=>G8 Ay.out HDA.out e.symm));have LM:=aT C;have LN:Hid (I.cell? ⟨T9,0,none⟩=some (.int .u16 xc)/\I.cell? ⟨T9,1,none⟩=some (.int .u8 Y)/\I.cell? ⟨T9,2,none⟩=some (.int .u8 T)/\I.cell? ⟨T9,3,none⟩=some (.int .u32 U)):=⟨J.out.cell 0,J.out.cell 1,J.out.cell 2,J.out.cell 3⟩;clear C A;clear hHeld;refine Z.out _ _ LN.out (λhHeld=> ?_);clear Z K';try simp only[Act.put,aS,aP,aQ]
    refine jT 12 ep ?_;try simp only[Act.put,aS,aP,aQ]
    refine jT 13 ej ?_;try simp only[Act.put,aS,aP,aQ]
    refine aaf (rs:=[14]) jK jS ?_;refine ag (o:=ei) rfl (λK' Z=> ?_) aab;have k7:I.cell? ⟨Bm,0,none⟩=some lv:=D.out.cell 0;have f7:=D.out.frozen 0;have pg:T9≠Bm:=λe=>by have h1:=J.out;have h2:=D.out;rw[e] at h1;have h3:=h1.symm.trans h2;injection h3 with h3;injection h3 with _ h3;exact absurd h3 jD
    have pd:some Bd≠some Bm:=λe=>by have h2:=D.out;obtain⟨es,ck,h3,_⟩:=HD7.out;rw[ax e] at h3;have h4:=h3.symm.trans h2;cases h4
    have Iq:=aT (J.out.other pg 0 (.slice (some ⟨g7,0,none⟩) (m+1) q7));have pY:Hid ((I.setCell ⟨Bm,0,none⟩ (.slice (some ⟨g7,0,none⟩) (m+1) q7)).cell? ⟨T9,0,none⟩=some (.int .u16 xc)/\(I.setCell ⟨Bm,0,none⟩ (.slice (some ⟨g7,0,none⟩) (m+1) q7)).cell? ⟨T9,1,none⟩=some (.int .u8 Y)/\(I.setCell ⟨Bm,0,none⟩ (.slice (some ⟨g7,0,none⟩) (m+1) q7)).cell? ⟨T9,2,none⟩=some (.int .u8 T)/\(I.setCell ⟨Bm,0,none⟩ (.slice (some ⟨g7,0,none⟩) (m+1) q7)).cell? ⟨T9,3,none⟩=some (.int .u32 U)):=⟨Iq.out.cell 0,Iq.out.cell 1,Iq.out.cell 2,Iq.out.cell 3⟩;have Vm:Hid (LZ Bm Bd l w (m+1) (I.setCell ⟨Bm,0,none⟩ (.slice (some ⟨g7,0,none⟩) (m+1) q7))):=by refine⟨Ov.out.setCell (p:=⟨Bm,0,none⟩) hbm _,hbm,HD7.out.kept (row:=some Bm) ⟨rfl,rfl,rfl,by show I.heap.size<=(I.heap.modify Bm _).size;rw[aua];exact aR _,λk _ hk=>aef I _ _ k (λe=>hk (by rw[e]))⟩ pd,_,D.out.set 0 _,?_⟩;rw[an8.out];exact VR LM.out (λe=>YT LM.out D.out jD e)
    clear pg pd;go_simp;clear hHeld;refine Z.out _ _ pY.out (λhHeld=> ?_);clear Z K';refine ama jK ?_ _;refine apf ?_;clear k4 k5 k7 f7;go_wp2_with fail;go_roundg (n-m);case measure=>omega
    case rel=>exact⟨m+1,jO,jO,by go_num,Vm⟩
   case iW=>
    go_simp;clear hHeld;refine Z.out _ _ Jt.out (λhHeld=> ?_);clear Z K';try simp only[Act.put,aS,aP,aQ]
    refine aaf (rs:=[4]) jK jS ?_;refine ag (o:=eu) rfl (λK' Z=> ?_) aab;go_simp;refine Z.out _ _ hHeld (λhHeld=> ?_);clear Z K';try simp only[Act.put,aS,aP,aQ]
    refine aaf (rs:=[11]) jK jS ?_;refine ag (o:=er) rfl (λK' Z=> ?_) aab;refine Ys _ _ _ 233 jR w.heap.size UZ i0 (.agg #[.int .u16 0,.int .u8 0,.int .u8 0,.int .u32 0,.nilFunc,.int .i64 0,.bool false]) 7 32 underlying233 XX SC Vo TD rfl jD lv m _ jR Ay.out ⟨wd.heap.size,0,none⟩ 1 1 [.int .u16 xc,.int .u8 Y,.int .u8 T,.int .u32 U,.func (.func FV) #[] #[],.int .i64 KN,.bool false] jR rfl (Y1 rfl) (by simp[Value.oneCell']) (by unfold maxLen;omega) jO mD ?_;intro v' I C A;obtain⟨g7,q7,rfl,_,_⟩:=World.ownsRow.form C jO;have Ov:=aT (Ee.out.grown A mD (λk e=>(Ay.out.lt k e).1));have D:=aT (Ce.out.kept A (λe=>YT Ay.out Ce.out jD e.symm));have J:=aT (x9.out.kept A (λe=>YT Ay.out x9.out jD e.symm));have HD7:=aT (HDA.out.kept A (λe=>G8 Ay.out HDA.out e.symm));have LM:=aT C;have LN:Hid (I.cell? ⟨T9,0,none⟩=some (.int .u16 xc)/\I.cell? ⟨T9,1,none⟩=some (.int .u8 Y)/\I.cell? ⟨T9,2,none⟩=some (.int .u8 T)/\I.cell? ⟨T9,3,none⟩=some (.int .u32 U)):=⟨J.out.cell 0,J.out.cell 1,J.out.cell 2,J.out.cell 3⟩;clear C A;clear hHeld;refine Z.out _ _ LN.out (λhHeld=> ?_);clear Z K';try simp only[Act.put,aS,aP,aQ]
    refine jT 12 ep ?_;try simp only[Act.put,aS,aP,aQ]
    refine jT 13 ej ?_;try simp only[Act.put,aS,aP,aQ]
    refine aaf (rs:=[14]) jK jS ?_;refine ag (o:=ei) rfl (λK' Z=> ?_) aab;have k7:I.cell? ⟨Bm,0,none⟩=some lv:=D.out.cell 0;have f7:=D.out.frozen 0;have pg:T9≠Bm:=λe=>by have h1:=J.out;have h2:=D.out;rw[e] at h1;have h3:=h1.symm.trans h2;injection h3 with h3;injection h3 with _ h3;exact absurd h3 jD
    have pd:some Bd≠some Bm:=λe=>by have h2:=D.out;obtain⟨es,ck,h3,_⟩:=HD7.out;rw[ax e] at h3;have h4:=h3.symm.trans h2;cases h4
    have Iq:=aT (J.out.other pg 0 (.slice (some ⟨g7,0,none⟩) (m+1) q7));have pY:Hid ((I.setCell ⟨Bm,0,none⟩ (.slice (some ⟨g7,0,none⟩) (m+1) q7)).cell? ⟨T9,0,none⟩=some (.int .u16 xc)/\(I.setCell ⟨Bm,0,none⟩ (.slice (some ⟨g7,0,none⟩) (m+1) q7)).cell? ⟨T9,1,none⟩=some (.int .u8 Y)/\(I.setCell ⟨Bm,0,none⟩ (.slice (some ⟨g7,0,none⟩) (m+1) q7)).cell? ⟨T9,2,none⟩=some (.int .u8 T)/\(I.setCell ⟨Bm,0,none⟩ (.slice (some ⟨g7,0,none⟩) (m+1) q7)).cell? ⟨T9,3,none⟩=some (.int .u32 U)):=⟨Iq.out.cell 0,Iq.out.cell 1,Iq.out.cell 2,Iq.out.cell 3⟩;have Vm:Hid (LZ Bm Bd l w (m+1) (I.setCell ⟨Bm,0,none⟩ (.slice (some ⟨g7,0,none⟩) (m+1) q7))):=by refine⟨Ov.out.setCell (p:=⟨Bm,0,none⟩) hbm _,hbm,HD7.out.kept (row:=some Bm) ⟨rfl,rfl,rfl,by show I.heap.size<=(I.heap.modify Bm _).size;rw[aua];exact aR _,λk _ hk=>aef I _ _ k (λe=>hk (by rw[e]))⟩ pd,_,D.out.set 0 _,?_⟩;rw[an8.out];exact VR LM.out (λe=>YT LM.out D.out jD e)
    clear pg pd;go_simp;clear hHeld;refine Z.out _ _ pY.out (λhHeld=> ?_);clear Z K';refine ama jK ?_ _;refine apf ?_;clear k4 k5 k7 f7;go_wp2_with fail;go_roundg (n-m);case measure=>omega
    case rel=>exact⟨m+1,jO,jO,by go_num,Vm⟩
  ·obtain rfl:m=n:=by omega
   have Y8:¬(m:Int)<(m:Int):=jO;obtain⟨v1,_,_,lv,v5,v6⟩:=HA.out;rw[abd (by rw[HP.out.len];exact aR _)] at v6;have HV1:=aT v1;have HV5:=aT v5;have Bj:=aT v6;clear v1 v5 v6;go_wp2_with fail;go_ret2;exact⟨Bm,lv,rfl,HV5.out,Bj.out,HV1.out⟩
end Go.Proofs.YtclgigmgbebhgaaGreatDoor
namespace Go.Proofs.YtclgigmgbebhgaaGreatDoor
open Tryz
open Go Go.Proofs Go.RowKit
theorem Ag{N L c g off:Nat}{bs:List Nat}(hl:bs.length=L)(Xl:L<=1000000)(w:World)(hm:YQ N w (some ⟨g,off,none⟩) bs)(hN:N<=w.heap.size):
 Calls prog 121 #[.slice (some ⟨g,off,none⟩) L c] w λe w'=>∃v,e=.returned v/\w'.ownsRow w.heap.size 5 1 v L (Zn bs)/\Below w.heap.size w w':=by
 obtain⟨i0,I,SC,T,Y⟩:=ZP yq;have D:=aT ((aH w.heap.size w).alloc (aR _) (.cells #[] 5));have J:Hid ((w.alloc (.cells #[] 5)).ownsRow w.heap.size 5 1 (.slice (some ⟨w.heap.size,0,none⟩) 0 0) 0 []):=World.ownsRow_lit (base:=w.heap.size) w #[] 0 (aR _) jD rfl;have HM:=aT (hm.below D hN);have HLB:Hid ((Zn bs).length=L*1):=by show _=_;unfold Zn;rw[aad,hl,aqd]
 have rV:Hid (∀u∈Zn bs,u.oneCell'=true):=λu hu=>by obtain⟨b,_,rfl⟩:=ai.1 hu;rfl
 have U:Hid (∀j u,(Zn bs)[j]? =some u->(w.alloc (.cells #[] 5)).cell? ((⟨g,off,none⟩:Addr).add j)=some u):=λj u hu=>by unfold Zn at hu;rw[ada] at hu;obtain⟨b,hb,rfl⟩:=Option.map_eq_some_iff.1 hu;obtain⟨g',as8,e,_,hc⟩:=HM j b hb;cases e;rw[show(⟨g,off,none⟩:Addr).add j=⟨g,off+j,none⟩ by cases j<;>rfl];exact hc
 have hnil:∀w,(binOp .eql 42 (.slice (some ⟨g,off,none⟩) L c) (.slice none 0 0)).run prog w=.ok (.bool false) w:=λ_=>jK
 clear hl hm;go_enter func121,ntmps121
 go_wp2_with (first
  |(at_builtin;refine adg _ rfl _ _ 42 rfl w.heap.size 5 i0 (.int .u8 0) 1 1 underlying42 I SC T Y rfl jD _ 0 [] rfl J ⟨g,off,none⟩ L c (Zn bs) rfl HLB U rV (by unfold maxLen;omega) jO D.size ?_;intro v' w6 A C _)
  |(refine wpList_plain rfl λK hK=> ?_;refine D8 _ 42 rfl underlying42 I T ?_;refine hK _ _ ?_;clear hK K))
 rw[aca,age] at A;have HR:=aT A;have Z:=aT (D.grown C D.size (λk e=>(J.lt k e).1));clear A C;go_wp2_with fail;go_ret;exact⟨_,rfl,HR,Z⟩
end Go.Proofs.YtclgigmgbebhgaaGreatDoor
namespace Go.Proofs.YtclgigmgbebhgaaGreatDoor
open Tryz
open Go Go.Proofs Go.RowKit Go.Shelf
abbrev OY:Nat:=96
abbrev FU:Nat:=45
theorem C8(v:Nat)(W:World):(Instr.typeAssert (.iface 247 (.agg #[.int .u32 v])) 20 247 true).run prog W=.ok (.tuple #[.agg #[.int .u32 v],.bool true]) W:=jK
theorem NU{W:World}{a b t u:Nat}{cs ds:Array Value}(h:Z7 W a t cs)(k:Z7 W b u ds)(C:t≠u):a≠b:=λe=>by
 rw[e] at h;have A:=(show W.heap[b]? =_ from h).symm.trans k;injection A with A;injection A with _ A;exact C A
theorem Af{R base p a s v:Nat}{w0:World}{vb:Value}(Bp O E:Nat)(o0 o1 o2 e0:Value)(w:World)(hS:VX R base w0 vb 0 p a s w)(hp:Z7 w Bp 240 #[.pointer (some ⟨R,0,none⟩)])(ho:Z7 w O OY #[o0,o1,o2])(T:Z7 w E FU #[e0]):
 CallsD prog 122 #[.pointer (some ⟨Bp,0,none⟩),.pointer (some ⟨O,0,none⟩),.pointer (some ⟨E,0,none⟩)] (.panicking (JX v)) w λe u' w'=>
  e=.returned (.tuple #[])/\u'=.panicking [{v:=.iface 247 (.agg #[.int .u32 v]),recovered:=true}]/\Hid (∃C ln D,Z7 w' O OY #[.int .u32 v,.int .i64 s,.slice C ln D])/\Hid (Z7 w' E FU #[.int .i64 0])/\(∀n:Nat,n<=R->n<=O->n<=E->n<=w.heap.size->Below n w w'):=by
 obtain⟨h1,h2,h3,lv,n,xs,h4,J,h6⟩:=hS;obtain⟨C,D,rfl⟩:=ZI h6;have n1:=NU J hp jD;have n2:=NU J ho jD;have n3:=NU J T jD;have n4:=NU ho T jD;have n5:=NU ho hp jD;have l1:=J.lt;have l2:=hp.lt;have l3:=ho.lt;have l4:=T.lt;have U:=aT (J.alloc (.cells #[.int .u32 v] 247));have HP:=aT (hp.alloc (.cells #[.int .u32 v] 247));have I:=aT (ho.alloc (.cells #[.int .u32 v] 247));have Z:=aT (T.alloc (.cells #[.int .u32 v] 247));have HV:=aT (Z7.new w 247 #[.int .u32 v]);have HB:Hid (∀n:Nat,n<=w.heap.size->Below n w (w.alloc (.cells #[.int .u32 v] 247))):=λn hn=>(aH n w).alloc hn _
 clear h1 h2 h3 h4 J h6 hp ho T;unfold JX;refine callsD_of_wpS func122 rfl λc₀ cs hu=> ?_
 apply wpS_seq;apply wpS_region;simp[wpOpsS,go_sem,recoverD,hu,ntmps122,Exit.thenS,Array.replicate,List.replicate];have hta:=C8 v;refine wpS_of_wp ?_;go_upto_region 5 with fail;generalize w.alloc (.cells #[.int .u32 v] 247)=w1 at*;have q1:¬w.heap.size=R:=jO;obtain⟨BV,A⟩:∃B,w.heap.size=B:=⟨_,rfl⟩;rw[A] at HV q1 l1 l2 l3 l4;have HBV:=aT A;rw[A];clear A;unfold FY at U;have r20:=U.cell 20;have r21:=U.cell 21;have r22:=U.cell 22;have g20:=U.frozen 20;have p0:=HP.cell 0;have v0:=HV.cell 0;have y0:=I.cell 0;have y1:=I.cell 1;have y2:=I.cell 2;have z0:=I.frozen 0;have z1:=I.frozen 1;have z2:=I.frozen 2;have y4:=Z.cell 0;have z4:=Z.frozen 0;simp only[ak,aL,aF] at r20 r21 r22 p0 v0 y0 y1 y2 y4;have m1:¬R=Bp:=n1;have m2:¬R=O:=n2;have m3:¬R=E:=n3;have Y:¬O=E:=n4;go_wp2;have hO:Hid (∃C ln D,Z7 _ O OY #[.int .u32 v,.int .i64 s,.slice C ln D]):=⟨C,n,D,((((I.other (B':=R) (ana m2) 20 (.int .u32 v)).set 0 (.int .u32 v)).set 1 (.int .i64 s)).set 2 (.slice C n D)).other (B':=E) Y 0 (.int .i64 0)⟩;have hE:Hid (Z7 _ E FU #[.int .i64 0]):=((((Z.other (B':=R) (ana m3) 20 (.int .u32 v)).other (B':=O) (ana Y) 0 (.int .u32 v)).other (B':=O) (ana Y) 1 (.int .i64 s)).other (B':=O) (ana Y) 2 (.slice C n D)).set 0 (.int .i64 0);have hB:∀n':Nat,n'<=R->n'<=O->n'<=E->n'<=w.heap.size->Below n' w _:=λn' k1 k2 k3 k4=>(((((HB n' k4).setCell (p:=⟨R,20,none⟩) k1 (.int .u32 v)).setCell (p:=⟨O,0,none⟩) k2 (.int .u32 v)).setCell (p:=⟨O,1,none⟩) k2 (.int .i64 s)).setCell (p:=⟨O,2,none⟩) k2 (.slice C n D)).setCell (p:=⟨E,0,none⟩) k3 (.int .i64 0)
 cases c₀;simp only at hu;subst hu;exact⟨rfl,_,rfl,.tuple #[],aog rfl _ _ _,rfl,rfl,hO,hE,hB⟩
def Ae(v:Nat)(w:World):Ending->World->Prop:=λe w'=>∃(s:Nat) (la:Option Addr) (ln lc:Nat),e=.returned (.tuple #[.agg #[.int .u32 v,.int .i64 s,.slice la ln lc],.int .i64 0])/\Below w.heap.size w w'
theorem OX{W:World}{B n c g:Nat}{bs:List Nat}(hn:bs.length=n)(h:W.ownsRow B 5 1 (.slice (some ⟨g,0,none⟩) n c) n (Zn bs)):YQ W.heap.size W (some ⟨g,0,none⟩) bs:=λi x hx=>by
 have hi:i<n:=by rw[<-hn];exact(au.1 hx).1
 have hc:=h.cellAt i (by rw[aqd];exact hi);have A:(Zn bs)[i]? =some (fe x):=by unfold Zn;rw[ada,hx];rfl
 rw[A] at hc;exact⟨g,0,rfl,afe _ _ hc,by rw[aca];exact hc⟩
end Go.Proofs.YtclgigmgbebhgaaGreatDoor
namespace Go.Proofs.YtclgigmgbebhgaaGreatDoor
open Tryz
open Go Go.Proofs Go.RowKit
variable {fc:Array Value} {z:Int} {R s PO PP PI FB L:Nat} {iv ov:Value} {w:World}
abbrev G7:Nat:=44
abbrev TGi:Nat:=79
structure XU(s R PO PP PI FB:Nat)(fc:Array Value)(w:World)(z:Int)(ov:Value)(pc:Array Value)(iv:Value)(W:World):Prop where
 Zs:Below s w W
 ls:s<=W.heap.size
 rb:Z7 W R G7 #[.slice none 0 0,.int .i64 0,.int .i64 0]
 ob:Z7 W PO G7 #[ov,.int .i64 0,.int .i64 z]
 pb:Z7 W PP Xy pc
 ib:Z7 W PI TGi #[iv]
 fb:Z7 W FB 82 fc
 lo:s<=R/\s<=PO/\s<=PP/\s<=PI
 ne:R≠PO
section
variable {s R PO PP PI FB:Nat} {w W W':World} {z:Int} {ov iv:Value} {pc fc:Array Value}
theorem XU.to(h:XU s R PO PP PI FB fc w z ov pc iv W)(hb:Below W.heap.size W W'):XU s R PO PP PI FB fc w z ov pc iv W':=
 ⟨h.Zs.trans (hb.mono h.ls),aO h.ls hb.size,h.rb.below hb h.rb.lt,h.ob.below hb h.ob.lt,h.pb.below hb h.pb.lt,h.ib.below hb h.ib.lt,h.fb.below hb h.fb.lt,h.lo,h.ne⟩
theorem XH{k k' t t':Nat}{cs cs':Array Value}(h:Z7 W k t cs)(A:Z7 W k' t' cs')(ht:t≠t'):k≠k':=λe=>by
 subst e;exact ht (TW h A)
theorem XU.an9(h:XU s R PO PP PI FB fc w z ov pc iv W)(A:Int):XU s R PO PP PI FB fc w A ov pc iv (W.setCell ⟨PO,2,none⟩ (.int .i64 A)):=
 ⟨h.Zs.setCell (p:=⟨PO,2,none⟩) h.lo.2.1 _,by simp[h.ls],h.rb.other h.ne 2 _,h.ob.set 2 _,h.pb.other (XH h.pb h.ob jD) 2 _,h.ib.other (XH h.ib h.ob jD) 2 _,h.fb.other (XH h.fb h.ob jD) 2 _,h.lo,h.ne⟩
theorem XU.ao0(h:XU s R PO PP PI FB fc w z ov pc iv W)(v:Value):XU s R PO PP PI FB fc w z v pc iv (W.setCell ⟨PO,0,none⟩ v):=
 ⟨h.Zs.setCell (p:=⟨PO,0,none⟩) h.lo.2.1 _,by simp[h.ls],h.rb.other h.ne 0 _,h.ob.set 0 _,h.pb.other (XH h.pb h.ob jD) 0 _,h.ib.other (XH h.ib h.ob jD) 0 _,h.fb.other (XH h.fb h.ob jD) 0 _,h.lo,h.ne⟩
theorem XU.aC1(h:XU s R PO PP PI FB fc w z ov pc iv W)(v:Value):XU s R PO PP PI FB fc w z ov pc v (W.setCell ⟨PI,0,none⟩ v):=
 ⟨h.Zs.setCell (p:=⟨PI,0,none⟩) h.lo.2.2.2 _,by simp[h.ls],h.rb.other (XH h.rb h.ib jD) 0 _,h.ob.other (XH h.ob h.ib jD) 0 _,h.pb.other (XH h.pb h.ib jD) 0 _,h.ib.set 0 _,h.fb.other (XH h.fb h.ib jD) 0 _,h.lo,h.ne⟩
theorem XU.FT{j:Nat}{v:Value}(h:XU s R PO PP PI FB fc w z ov pc iv W):XU s R PO PP PI FB fc w z ov (pc.setIfInBounds j v) iv (W.setCell ⟨PP,j,none⟩ v):=
 ⟨h.Zs.setCell (p:=⟨PP,j,none⟩) h.lo.2.2.1 _,by simp[h.ls],h.rb.other (XH h.rb h.pb jD) j _,h.ob.other (XH h.ob h.pb jD) j _,h.pb.set j _,h.ib.other (XH h.ib h.pb jD) j _,h.fb.other (XH h.fb h.pb jD) j _,h.lo,h.ne⟩
theorem XU.pJ{c0 c1 c2 c3 c4 c5 c6 c7 c8:Value}(h:XU s R PO PP PI FB fc w z ov #[c0,c1,c2,c3,c4,c5,c6,c7,c8] iv W)(A C D I J T U Y Z:Value):XU s R PO PP PI FB fc w z ov #[A,C,D,I,J,T,U,Y,Z] iv (((((((((W.setCell ⟨PP,0,none⟩ A).setCell ⟨PP,1,none⟩ C).setCell ⟨PP,2,none⟩ D).setCell ⟨PP,3,none⟩ I).setCell ⟨PP,4,none⟩ J).setCell ⟨PP,5,none⟩ T).setCell ⟨PP,6,none⟩ U).setCell ⟨PP,7,none⟩ Y).setCell ⟨PP,8,none⟩ Z):=by
 have h0:XU s R PO PP PI FB fc w z ov #[A,c1,c2,c3,c4,c5,c6,c7,c8] iv _:=h.FT (j:=0) (v:=A);have h1:XU s R PO PP PI FB fc w z ov #[A,C,c2,c3,c4,c5,c6,c7,c8] iv _:=h0.FT (j:=1) (v:=C);have h2:XU s R PO PP PI FB fc w z ov #[A,C,D,c3,c4,c5,c6,c7,c8] iv _:=h1.FT (j:=2) (v:=D);have h3:XU s R PO PP PI FB fc w z ov #[A,C,D,I,c4,c5,c6,c7,c8] iv _:=h2.FT (j:=3) (v:=I);have h4:XU s R PO PP PI FB fc w z ov #[A,C,D,I,J,c5,c6,c7,c8] iv _:=h3.FT (j:=4) (v:=J);have h5:XU s R PO PP PI FB fc w z ov #[A,C,D,I,J,T,c6,c7,c8] iv _:=h4.FT (j:=5) (v:=T);have h6:XU s R PO PP PI FB fc w z ov #[A,C,D,I,J,T,U,c7,c8] iv _:=h5.FT (j:=6) (v:=U);have h7:XU s R PO PP PI FB fc w z ov #[A,C,D,I,J,T,U,Y,c8] iv _:=h6.FT (j:=7) (v:=Y);exact h7.FT (j:=8) (v:=Z)
end
theorem X3{W:World}{t:Nat}{c0 c1 c2:Value}(hb:Z7 W R t #[c0,c1,c2]):(W.cell? ⟨R,0,none⟩=some c0/\W.cell? ⟨R,1,none⟩=some c1/\W.cell? ⟨R,2,none⟩=some c2)/\W.frozen? ⟨R,0,none⟩=false/\W.frozen? ⟨R,1,none⟩=false/\W.frozen? ⟨R,2,none⟩=false:=
 ⟨⟨hb.cell 0,hb.cell 1,hb.cell 2⟩,hb.frozen 0,hb.frozen 1,hb.frozen 2⟩
structure ee(pr:List NR)(l:List Z4.Z2)(k n:Int)(x:Bool)(q:Ya)(es:Nat->List Xo)(s0 s1:List (Nat×Nat))(W:World):Prop where
 hd:q.d=XR k n
 hx:q.x=x
 f:∃dn,Vb pr l q.d x dn es s0 s1
 r:∃lo,Su lo W (λa=>VO (q.e a)) (λm=>if m=0 then VO q.s0 else VO q.s1) es (λm=>if m=0 then s0 else s1)
theorem uH{V:Prop}{C:Int->Prop}{bl:Bool}{BP BT c:Nat} {a:Option Addr}{pr:List NR}{k n:Int}{x:Bool}{tv:Value}{l:List Z4.Z2} (W:World)(hM:XU s R PO PP PI FB fc w 0 (.slice none 0 0) WQ iv W)(U:Z7 W BP VZ #[.int .i64 k,.int .i64 n,.bool x,.slice a L c])(T:Z7 W BT 41 #[tv])
 (I:Calls prog 22 #[.agg #[.int .i64 k,.int .i64 n,.bool x,.slice a L c],tv] W λe w'=>pI C bl W e w'\/(V/\eN pr l k n x W e w')):
 Calls prog 21 #[.pointer (some ⟨BP,0,none⟩),.pointer (some ⟨BT,0,none⟩),.pointer (some ⟨PP,0,none⟩),.pointer (some ⟨PO,0,none⟩)] W λe w'=>∃ev:Int,e=.returned (.int .i64 ev)/\((ev≠0/\(C ev\/bl=true)/\∃z,XU s R PO PP PI FB fc w z (.slice none 0 0) WQ iv w')\/(ev=0/\V/\∃q es s0 s1,ee pr l k n x q es s0 s1 w'/\XU s R PO PP PI FB fc w 0 (.slice none 0 0) (ZA q) iv w')):=by
 have Y:=aT hM;have HR:=aT I;obtain⟨⟨p0,p1,p2,p3⟩,_⟩:=Z8 U;have t0:=T.e0;clear hM U T I;go_enter func21,ntmps21;go_wp2_with fail;refine HR.mono ?_;rintro e w1 (⟨z,ev,J,hC,rfl,hb⟩|⟨hv,q,dn,es,s0,s1,rfl,hd,hx,hf,hr,hb⟩);·have A:=aT (Y.to hb);have HC:=aT (And.intro J hC);clear hb J hC p0 p1 p2 p3 t0 Y HR;unfold WQ at*;obtain⟨⟨r0,r1,r2,r3,r4,r5,r6,r7,r8⟩,f0,f1,f2,f3,f4,f5,f6,f7,f8⟩:=Va A.pb;have D:=aT (A.pJ (.int .u32 0) (.bool false) (.slice none 0 0) (.slice none 0 0) (.slice none 0 0) (.slice none 0 0) (.slice none 0 0) (.slice none 0 0) (.slice none 0 0));obtain⟨⟨o0,o1,o2⟩,g0,g1,g2⟩:=X3 D.ob;go_wp2_with fail;go_ret;exact⟨_,rfl,.inl ⟨HC.1,HC.2,z,D.an9 z⟩⟩
 ·have A:=aT (Y.to hb);obtain⟨qd,qx,⟨a0,n0,c0⟩,⟨a1,n1,c1⟩,⟨a2,n2,c2⟩,⟨a3,n3,c3⟩,⟨a4,n4,Z⟩,⟨a5,n5,c5⟩,⟨a6,n6,c6⟩⟩:=q;have Jr:=aT hr;have HF:=aT (And.intro hd (And.intro hx hf));clear hb hd hx hf hr p0 p1 p2 p3 t0 Y HR;unfold WQ at*;unfold ZA VO at*;dsimp only at*;obtain⟨⟨r0,r1,r2,r3,r4,r5,r6,r7,r8⟩,f0,f1,f2,f3,f4,f5,f6,f7,f8⟩:=Va A.pb;have D:=aT (A.pJ (.int .u32 qd) (.bool qx) (.slice a0 n0 c0) (.slice a1 n1 c1) (.slice a2 n2 c2) (.slice a3 n3 c3) (.slice a4 n4 Z) (.slice a5 n5 c5) (.slice a6 n6 c6));have KJ:=aT (Jr.pJ A.pb (.int .u32 qd) (.bool qx) (.slice a0 n0 c0) (.slice a1 n1 c1) (.slice a2 n2 c2) (.slice a3 n3 c3) (.slice a4 n4 Z) (.slice a5 n5 c5) (.slice a6 n6 c6));obtain⟨⟨o0,o1,o2⟩,g0,g1,g2⟩:=X3 D.ob;go_wp2_with fail;go_ret;exact⟨_,rfl,.inr ⟨rfl,hv,⟨qd,qx,(a0,n0,c0),(a1,n1,c1),(a2,n2,c2),(a3,n3,c3),(a4,n4,Z),(a5,n5,c5),(a6,n6,c6)⟩,es,s0,s1,⟨HF.1,HF.2.1,⟨dn,HF.2.2⟩,⟨_,KJ.uU D.ob jD jD jD jD 2 _⟩⟩,D.an9 0⟩⟩
structure C7(q:Ya)(es:Nat->List Xo)(s0 s1:List (Nat×Nat))(p:YH)(cs:List Nat):Prop where
 d:p.d=q.d
 x:p.Vy=q.x
 p0:p.p0.Perm (ZZ 0 (es 0) s0 s1)/\p.p0.Pairwise (λx y=>x.1<y.1)
 p1:(q.x=true->p.p1.Perm (ZZ 1 (es 1) s0 s1))/\(q.x=false->p.p1=[])/\p.p1.Pairwise (λx y=>x.1<y.1)
 p2:p.p2.Perm (ZZ 2 (es 2) s0 s1)/\p.p2.Pairwise (λx y=>x.1<y.1)
 p3:p.p3.Perm (ZZ 3 (es 3) s0 s1)/\p.p3.Pairwise (λx y=>x.1<y.1)
 p4:p.p4.Perm (ZZ 4 (es 4) s0 s1)/\p.p4.Pairwise (λx y=>x.1<y.1)
 c:OM p cs
 c32:∀c∈cs,c<4294967296
 max:(ZL p cs).length<=1000000
 len:(ZL p cs).length<=80+2*T4 p
theorem uG{q:Ya}{es:Nat->List Xo}{s0 s1:List (Nat×Nat)} (W:World)(U:XU s R PO PP PI FB fc w z ov (ZA q) iv W)(hp:Uq W.heap.size W q es s0 s1)(hk:∀a,a<5->ZX (ZZ a (es a) s0 s1)<=10000):
 Calls prog 23 #[.pointer (some ⟨PP,0,none⟩),.pointer (some ⟨PI,0,none⟩)] W λe w'=>e=.returned (.int .i64 0)/\∃v p cs,C7 q es s0 s1 p cs/\XU s R PO PP PI FB fc w z ov (ZA q) v w'/\w'.ownsRow W.heap.size Wk 5 v (ZL p cs).length (XY (ZL p cs)):=by
 have HM:=aT U;have HI:=aT (uX W hp (aR _) hk);obtain⟨c0,c1,c2,c3,c4,c5,c6,c7,c8⟩:=Km U.pb;obtain⟨qd,qx,⟨a0,n0,k0⟩,⟨a1,n1,k1⟩,⟨a2,n2,k2⟩,⟨a3,n3,k3⟩,⟨a4,n4,k4⟩,⟨a5,n5,k5⟩,⟨a6,n6,k6⟩⟩:=q;clear U hp hk;unfold ZA VO at*;dsimp only at*;go_enter func23,ntmps23;go_wp2_with fail;refine HI.mono ?_;rintro e w1 ⟨v,p,cs,rfl,h1,h2,Z,h4,h5,h6,h7,h8,h9,J,I,A,hb⟩;have HD:Hid (C7 ⟨qd,qx,(a0,n0,k0),(a1,n1,k1),(a2,n2,k2),(a3,n3,k3),(a4,n4,k4),(a5,n5,k5),(a6,n6,k6)⟩ es s0 s1 p cs):=⟨h1,h2,Z,h4,h5,h6,h7,h8,h9,J,I⟩;obtain⟨va,vc,rfl⟩:=Z1 A;have C:=aT (HM.to hb);have T:=aT A;obtain⟨IL,D⟩:∃z,(ZL p cs).length=z:=⟨_,rfl⟩;rw[D] at T ⊢;have Y:=aT D;clear D;have i0:=C.ib.cell 0;have g0:=C.ib.frozen 0;simp only[ak,aL] at i0;clear h1 h2 Z h4 h5 h6 h7 h8 h9 J I A hb c0 c1 c2 c3 c4 c5 c6 c7 c8 HM HI;go_wp2_with fail;go_ret;exact⟨rfl,_,p,cs,HD,C.aC1 _,(by rw[Y.out];exact ZV T C.ib jD 0 _)⟩
theorem uF{K B0 c:Nat} {ad:Option Addr}{pc:Array Value}{it:List Z9} (W:World)(hM:XU s R PO PP PI FB fc w z ov pc (.slice ad L c) W)(U:Sx it L K)(A:W.ownsRow B0 Wk 5 (.slice ad L c) L (XY it)):
 Calls prog 25 #[.pointer (some ⟨PI,0,none⟩),.pointer (some ⟨PO,0,none⟩)] W λe w'=>∃v out at_ ZU far,UY it out at_ ZU far/\(at_ 0=0/\ZU 0=false)/\XU s R PO PP PI FB fc w z v pc (.slice ad L c) w'/\((e=.returned (.int .i64 3)/\4096<3*K)\/(e=.returned (.int .i64 0)/\∃n,X6 out n/\∃gp cp B1,v=.slice (some ⟨gp,0,none⟩) (n*8) cp/\n*8<=cp/\w'.ownsRow B1 5 1 (.slice (some ⟨gp,0,none⟩) (n*8) cp) (n*8) (Zn (YR out)))):=by
 have hm:=ki U.len A;obtain⟨qi,y,hl,hy,Ih⟩:=U.last;have HA:=aT (FZ (c:=c) U (λw' hm' hN'=>AV it qi y L c ad U.len U.max hl hy Ih U.fp U.ok w' hm' hN') W hm (aR _));have HM:=aT hM;have i0:=hM.ib.e0;clear hM U A hm hl hy Ih;go_enter func25,ntmps25;go_wp2_with fail;refine HA.mono ?_;rintro e w1 ⟨hb,out,at_,ZU,far,T,hu,(⟨h4,h3,rfl⟩|⟨n,v,C,rfl,hr⟩)⟩
 ·have I:=aT (HM.to hb);have J:=aT (And.intro T hu);have HLn:Hid (4096<3*K):=by show _<_;omega
  have Z:=aT (Ht (c:=0) (n:=0) (ad:=none) (N:=w1.heap.size) [] rfl jD (λx hx=>by cases hx) w1 (λi x hx=>by simp at hx) (aR _));clear hb T hu h4 h3 i0 HM HA;go_wp2_with fail;refine Z.mono ?_;rintro e w2 ⟨v,rfl,A,hb⟩;have D:=aT (I.to hb);obtain⟨va,vc,rfl⟩:=Z1 A;obtain⟨⟨o0,o1,o2⟩,g0,g1,g2⟩:=X3 D.ob;clear A hb Z I;go_wp2_with fail;go_ret;exact⟨_,out,at_,ZU,far,J.1,J.2,D.ao0 _,.inl ⟨rfl,HLn⟩⟩
 ·have I:=aT (HM.to hb);have J:=aT (And.intro T hu);have HPG:=aT C;obtain⟨va,vc,rfl⟩:=Z1 hr;have DX:=C.pos;have bZ:=C.max;have Z:=aT (Ht (c:=vc) (N:=w1.heap.size) out C.len jO C.fit w1 (J3 C.len hr) (aR _));clear hb T hu C hr i0 HM HA;go_wp2_with fail;refine Z.mono ?_;rintro e w2 ⟨v,rfl,A,hb⟩;have D:=aT (I.to hb);obtain⟨gp,cp,rfl,hgp,hcp⟩:=World.ownsRow.form A jO;have Y:=aT A;obtain⟨⟨o0,o1,o2⟩,g0,g1,g2⟩:=X3 D.ob;clear A hb Z I;go_wp2_with fail;go_ret;refine⟨_,out,at_,ZU,far,J.1,J.2,D.ao0 _,.inr ⟨rfl,n,HPG,gp,cp,_,rfl,?_,ZV Y D.ob jD 0 _⟩⟩
  ·have h:=Y.2;rcases h with⟨e,_⟩|⟨g',c',cur,e,_,_,hc,_⟩
   ·cases e
   ·cases e;exact hc
end Go.Proofs.YtclgigmgbebhgaaGreatDoor
