/- TopAsks: part 34: TopVm2 TopClone TopVm3 TopBld1. -/
import Derived.Test.YtclgigmgbebhgaaGreatDoorA28
import Derived.Test.YtclgigmgbebhgaaGreatDoorA32
import Derived.Test.YtclgigmgbebhgaaGreatDoorA33
set_option linter.unusedVariables false
set_option linter.unusedSimpArgs false
set_option maxRecDepth 100000
set_option maxHeartbeats 16000000
namespace Go.Proofs.YtclgigmgbebhgaaGreatDoor
open Tryz
open Go Go.Proofs Go.RowKit Go.Maps Go.WideMaps Go.ChangeMaps
variable {W:World}
@[go_sem] abbrev fh:Oper:=⟨some 51,.load 233 (.tmp 50),233,"vm.go:146",#[⟨3,.data⟩],none⟩
@[go_sem] abbrev fg:Oper:=⟨some 57,.buildSlice 233 1 #[(0,.tmp 56)],233,"vm.go:146",#[⟨9,.data⟩],none⟩
@[go_sem] abbrev fe:Oper:=⟨some 58,.call {callee:=.builtin .append,args:=#[.tmp 51,.tmp 57],argTypes:=#[233,233]},233,"vm.go:146",#[⟨4,.data⟩,⟨10,.data⟩],none⟩
@[go_sem] abbrev eZ:Oper:=⟨some 59,.nilCheck (.tmp 47),0,"vm.go:146",#[⟨0,.data⟩,⟨0,.phase⟩,⟨1,.phase⟩,⟨2,.phase⟩,⟨3,.phase⟩,⟨4,.phase⟩,⟨5,.phase⟩,⟨6,.phase⟩,⟨7,.phase⟩,⟨8,.phase⟩,⟨9,.phase⟩,⟨10,.phase⟩,⟨11,.phase⟩],none⟩
@[go_sem] abbrev eY:Oper:=⟨some 60,.fieldAddr 235 (.tmp 59) 0,0,"vm.go:146",#[⟨12,.data⟩,⟨0,.phase⟩,⟨1,.phase⟩,⟨2,.phase⟩,⟨3,.phase⟩,⟨4,.phase⟩,⟨5,.phase⟩,⟨6,.phase⟩,⟨7,.phase⟩,⟨8,.phase⟩,⟨9,.phase⟩,⟨10,.phase⟩,⟨11,.phase⟩],none⟩
@[go_sem] abbrev eX:Oper:=⟨none,.store 233 (.tmp 60) (.tmp 58),0,"vm.go:146",#[⟨13,.data⟩,⟨11,.data⟩,⟨11,.chain⟩,⟨0,.phase⟩,⟨1,.phase⟩,⟨2,.phase⟩,⟨3,.phase⟩,⟨4,.phase⟩,⟨5,.phase⟩,⟨6,.phase⟩,⟨7,.phase⟩,⟨8,.phase⟩,⟨9,.phase⟩,⟨10,.phase⟩,⟨11,.phase⟩],none⟩
abbrev eW:Nat:=235
def Sr:List (Value×Value):=[(.int .i64 1,.func (.func 187) #[] #[]),(.int .i64 2,.func (.func 188) #[] #[]),(.int .i64 3,.func (.func 189) #[] #[]),(.int .i64 4,.func (.func 190) #[] #[]),(.int .i64 5,.func (.func 191) #[] #[]),(.int .i64 6,.func (.func 192) #[] #[]),(.int .i64 7,.func (.func 193) #[] #[]),(.int .i64 8,.func (.func 194) #[] #[]),(.int .i64 9,.func (.func 195) #[] #[]),(.int .i64 10,.func (.func 196) #[] #[]),(.int .i64 11,.func (.func 197) #[] #[]),(.int .i64 12,.func (.func 198) #[] #[]),(.int .i64 13,.func (.func 199) #[] #[]),(.int .i64 14,.func (.func 200) #[] #[]),(.int .i64 15,.func (.func 201) #[] #[])]
theorem Gl:Keyed prog 162:=int_keyed underlying162
theorem pN(n:Int)(h: -9223372036854775808<=n/\n<=9223372036854775807):∃l,keyOf prog 162 (.int .i64 n)=some l:=⟨_,keyOf_int_mk underlying162 (by
 show(decide (IntKind.i64.min<=n)&&decide (n<=IntKind.i64.max))=true;rw[show IntKind.i64.min= -9223372036854775808 from jD,show IntKind.i64.max=9223372036854775807 from jD];simp only[aeg,adg];exact h)⟩
theorem u5q(w:World):Calls prog 118 #[] w λe w'=>e=.returned (.map (some w.heap.size))/\ZB w' w.heap.size Sr/\Below w.heap.size w w':=by
 have D:= @apb prog;have A:=aT (NJ.made w);go_enter func118,ntmps118
 go_wp2_with (refine YV rfl rfl 236 _ _ _ rfl 162 238 Gl underlying236 w w.heap.size _ A.out rfl _ _ rfl rfl ?hS ?hk ?hn ?_;(case hk=>exact pN _ jO);(case hS=>exact RU underlying162 jR);(case hn=>exact Li jR);clear A;intro I C;have A:=aT C;clear C)
 go_ret;exact⟨rfl,A.out.map,(aG _ w).grown A.out.grown (aP _) (λk e=>by have:=au e;omega)⟩
theorem AX:Sr.Pairwise (λp q=>p.1≠q.1):=by simp[Sr]
theorem aa8:∀W,(zeroValue 238).run prog W=.ok .nilFunc W:=λ_=>jK
theorem Kd {B:Nat}(h:ZB W B Sr){k:Int}{v:Value}(hk: -9223372036854775808<=k/\k<=9223372036854775807)(hm:(.int .i64 k,v)∈Sr):(Instr.lookup 236 (.map (some B)) (.int .i64 k) false).run prog W=.ok v W:=
 Xu underlying236 Gl h (RU underlying162 jR) (pN k hk) hm AX
theorem Rl {B:Nat}(h:ZB W B Sr){k:Int}(hk: -9223372036854775808<=k/\k<=9223372036854775807)(hm:Sr.all (mr k)=true):(Instr.lookup 236 (.map (some B)) (.int .i64 k) false).run prog W=.ok .nilFunc W:=
 Uf underlying236 Gl aa8 h (RU underlying162 jR) (pN k hk) (Li hm)
def doV(c:Nat):Value:=if c=0x20\/c=0x05\/c=0x06 then .func (.func (PY c)) #[] #[] else .nilFunc
theorem u3q {B c:Nat}(h:ZB W B Sr)(hc:codeOk c):(Instr.lookup 236 (.map (some B)) (.int .i64 (Zz c:Int)) false).run prog W=.ok (doV c) W:=by
 rcases hc with rfl|rfl|rfl|rfl|rfl|rfl|rfl|rfl;·exact Kd h (k:=1) jD (by simp[Sr,doV,PY])
 ·exact Rl h (k:=21) jD jR
 ·exact Kd h (k:=13) jD (by simp[Sr,doV,PY])
 ·exact Kd h (k:=14) jD (by simp[Sr,doV,PY])
 ·exact Rl h (k:=25) jD jR
 ·exact Rl h (k:=26) jD jR
 ·exact Rl h (k:=27) jD jR
 ·exact Rl h (k:=28) jD jR
theorem aa9:(prog.info? U3).map (λi=>(i.zero,i.size,i.bytes))=some (some (.agg #[.int .u16 0,.int .u8 0,.int .u8 0,.int .u32 0,.nilFunc,.int .i64 0,.bool false]),7,32):=jK
theorem Ij {B e s n b:Nat}{v:Value}{xs:List Value}{S:List (Value×Value)}(h:W.ownsRow B e s v n xs)(hm:ZB W b S):v.ownBlock≠some b:=λA=>by
 rcases h.2 with⟨rfl,_⟩|⟨k,cap,C,rfl,_,hk,_⟩
 ·cases A
 ·obtain⟨es,J,D,_⟩:=hm;have e2:k=b:=au A;rw[e2] at hk;have I:=hk.symm.trans D;cases I
def Md(Bm Bd:Nat)(l:List ZL)(w0:World)(m:Nat)(W:World):Prop:=Below w0.heap.size w0 W/\w0.heap.size<=Bm/\ZB W Bd Sr/\∃v,Z8 W Bm eW #[v]/\W.ownsRow w0.heap.size U3 7 v m ((l.take m).flatMap NQ)
theorem Md.bl{Bm Bd m:Nat}{l:List ZL}{w0 W':World}(h:Md Bm Bd l w0 m W)(hb:Below W.heap.size W W'):Md Bm Bd l w0 m W':=by
 obtain⟨D,J,A,v,C,I⟩:=h;exact⟨D.trans (hb.mono D.size),J,A.below hb A.lt,v,C.below hb C.lt,ZF I hb⟩
def ab0(n:Nat)(l:List ZL)(w:World):Ending->World->Prop:=λe w'=>∃Bm v,e=.returned (.tuple #[.pointer (some ⟨Bm,0,none⟩),.int .i64 0])/\Z8 w' Bm eW #[v]/\w'.ownsRow w.heap.size U3 7 v n (l.flatMap NQ)/\Below w.heap.size w w'
theorem jz{N n c:Nat}{ad:Option Addr}{l:List ZL}(hp:XN l n)(w:World)(hm:JB N w ad l)(hN:N<=w.heap.size):
 Calls prog 64 #[.slice ad n c] w (ab0 n l w):=by
 have HP:=aT hp;have HM:=aT hm;have HCk:=aT (Il (c:=c) hp w hm hN);have hmx:=hp.max;obtain⟨i0,XW,SC,Vo,TF⟩:=ZQ aa9;clear hp hm;go_enter func64,ntmps64;go_wp2_with fail;refine HCk.out.mono ?_;rintro e w1 ⟨rfl,hb⟩;have Ue:=aT (hb.alloc hb.size (.cells #[.slice none 0 0] eW));have HK1:=aT (Z8.new w1 eW #[.slice none 0 0]);have Nk:=hb.size;clear hb HCk;go_upto_region 5 with fail;generalize w1.alloc (.cells #[.slice none 0 0] eW)=w2 at*;generalize w1.heap.size=Bm at*;go_wp2_with fail;refine(u5q w2).mono ?_;rintro e w3 ⟨rfl,hmp,hb⟩;have GL:Hid (Md Bm w2.heap.size l w 0 w3):=⟨Ue.out.trans (hb.mono Ue.out.size),Nk,hmp,_,HK1.out.below hb HK1.out.lt,Yg _ _ _ _⟩;clear hmp hb Ue HK1;generalize w2.heap.size=Bd at*;go_upto_region 7 with fail;go_loopg [27] (n+1) (λgg iv wr=>∃m:Nat,m<=n/\n-m<gg/\iv=.int .i64 (m:Int)/\Hid (Md Bm Bd l w m wr));case atStart=>exact⟨0,abb _,jO,rfl,GL⟩
 case round=>
  obtain⟨m,zw,VM,rfl,HA⟩:=hrel;clear GL;have m0:=jZ m;by_cases hlt:m<n
  ·have Zc:(m:Int)<(n:Int):=by omega
   have iw:=jW m;obtain⟨x,hx⟩:∃x,l[m]? =some x:=⟨_,aM (by rw[HP.out.len];exact hlt)⟩;obtain⟨g,off,rfl,Va,c0,c1,c2,c3⟩:=(HM.out.below HA.out.1 hN) m x hx;have hco:=HP.out.code hx;have vO:(l.take (m+1)).flatMap NQ=(l.take m).flatMap NQ++NQ x:=by rw[afb,hx,aca];simp
   have tL:=aT vO;have HCO:=aT hco;have IM:Hid (∀W,Calls prog 109 #[.int .u16 x.code] W (Sy x.code W)):=λW=>V8 hco W
   clear hx hco vO;obtain⟨xc,U,T,Y⟩:=x;dsimp only at c0 c1 c2 c3 HCO IM;have al4:Hid ((l.take (m+1)).flatMap NQ=(l.take m).flatMap NQ++[.int .u16 xc,.int .u8 U,.int .u8 T,.int .u32 Y,.func (.func (PY xc)) #[] #[],.int .i64 (Zz xc:Int),.bool false]):=tL.out;clear tL;unfold Sy at IM;have HT:=aT (Z8.new wr XG #[.int .u16 xc,.int .u8 U,.int .u8 T,.int .u32 Y]);have LN:=aT (HA.out.bl ((aG wr.heap.size wr).alloc (aP _) (.cells #[.int .u16 xc,.int .u8 U,.int .u8 T,.int .u32 Y] XG)));clear HA;go_upto_region 9 with fail;generalize wr.alloc (.cells #[.int .u16 xc,.int .u8 U,.int .u8 T,.int .u32 Y] XG)=wa at*;generalize wr.heap.size=T9 at*;clear c0 c1 c2 c3;have c0:=HT.out.e0;go_wp2_with fail;refine(IM.out wa).mono ?_;rintro e wb ⟨rfl,hb⟩;have QM:=aT (LN.out.bl hb);have Un:=aT (HT.out.below hb HT.out.lt);have lk:=u3q QM.out.2.2.1 HCO.out;clear hb LN HT c0 IM;have hcs:(xc=32/\Zz xc=1)\/(xc=5/\Zz xc=13)\/(xc=6/\Zz xc=14)\/(xc=84/\Zz xc=21)\/(25<=Zz xc/\Zz xc<=28/\PY xc=119/\doV xc=.nilFunc):=by
    rcases HCO.out with rfl|rfl|rfl|rfl|rfl|rfl|rfl|rfl;·exact .inl ⟨rfl,rfl⟩
    ·exact .inr (.inr (.inr (.inl ⟨rfl,rfl⟩)))
    ·exact .inr (.inl ⟨rfl,rfl⟩)
    ·exact .inr (.inr (.inl ⟨rfl,rfl⟩))
    ·exact .inr (.inr (.inr (.inr ⟨jD,jD,rfl,rfl⟩)))
    ·exact .inr (.inr (.inr (.inr ⟨jD,jD,rfl,rfl⟩)))
    ·exact .inr (.inr (.inr (.inr ⟨jD,jD,rfl,rfl⟩)))
    ·exact .inr (.inr (.inr (.inr ⟨jD,jD,rfl,rfl⟩)))
   go_upto_region 10 with fail;go_cut [13] (λcY wx=>cY=doV xc/\wb=wx)
   case first=>
    go_wp2_with fail;go_meet;exact⟨rfl,rfl⟩
   case rest=>
   obtain⟨rfl,rfl⟩:=hcut;rename_i hB;refine hB _ _ ?_;clear hB;apply wp_seq_k;intro _ _;go_cut [13,41,44] from 38 to 46 (λcY s41 s44 wx=>cY=.func (.func (PY xc)) #[] #[]/\wb=wx)
   case first=>
    rcases hcs with⟨rfl,hk⟩|⟨rfl,hk⟩|⟨rfl,hk⟩|⟨rfl,hk⟩|⟨uz,hk2,hdf,hdv⟩;·rw[hk];go_wp2_with fail;go_meet;exact⟨rfl,rfl⟩
    ·rw[hk];go_wp2_with fail;go_meet;exact⟨rfl,rfl⟩
    ·rw[hk];go_wp2_with fail;go_meet;exact⟨rfl,rfl⟩
    ·rw[hk];go_wp2_with fail;go_meet;exact⟨rfl,rfl⟩
    ·have ep:(25:Int)<=(Zz xc:Int):=by omega
     go_wp2_with fail;go_meet;exact⟨by rw[hdf],rfl⟩
   case rest=>
   obtain⟨rfl,rfl⟩:=hcut;clear hcs HCO lk;generalize Zz xc=KN at*;generalize PY xc=FV at*;go_upto_region 15 with fail;have HVD:Hid (Md Bm Bd l w m wb.drew):=by obtain⟨h1,h2,h3,v,h4,h5⟩:=QM.out;exact⟨h1.drew,h2,h3,v,h4,h5⟩
   obtain⟨v1,hbm,v3,lv,v5,v6⟩:=HVD.out;have HV1:=aT v1;have HV3:=aT v3;have HV5:=aT v5;have uk:=aT v6;have FX:Hid (Z8 wb.drew T9 XG #[.int .u16 xc,.int .u8 U,.int .u8 T,.int .u32 Y]):=Un.out;have Um:Hid (wb.drew.cell? ⟨T9,0,none⟩=some (.int .u16 xc)/\wb.drew.cell? ⟨T9,1,none⟩=some (.int .u8 U)/\wb.drew.cell? ⟨T9,2,none⟩=some (.int .u8 T)/\wb.drew.cell? ⟨T9,3,none⟩=some (.int .u32 Y)):=⟨FX.out.cell 0,FX.out.cell 1,FX.out.cell 2,FX.out.cell 3⟩;clear v1 v3 v5 v6 HVD QM Un;refine amd ?_;refine agc (S:=λw'=>w'.cell? ⟨T9,0,none⟩=some (.int .u16 xc)/\w'.cell? ⟨T9,1,none⟩=some (.int .u8 U)/\w'.cell? ⟨T9,2,none⟩=some (.int .u8 T)/\w'.cell? ⟨T9,3,none⟩=some (.int .u32 Y)) jK Um.out (λhHeld=> ?_);generalize wb.drew=wd at*;refine jT 0 ⟨some 47,.move (.tmp 6),174,"vm.go:146",#[],none⟩ ?_;try simp only[Act.put,aS,aQ,aR]
   refine jT 1 ⟨some 48,.move (.tmp 6),174,"vm.go:146",#[],none⟩ ?_;try simp only[Act.put,aS,aQ,aR]
   refine jT 2 ⟨some 49,.nilCheck (.tmp 48),0,"vm.go:146",#[⟨1,.data⟩],none⟩ ?_;try simp only[Act.put,aS,aQ,aR]
   refine jT 3 ⟨some 50,.fieldAddr 235 (.tmp 49) 0,0,"vm.go:146",#[⟨2,.data⟩],none⟩ ?_;try simp only[Act.put,aS,aQ,aR]
   refine jT 5 ⟨some 52,.load 166 (.tmp 9),166,"vm.go:146",#[],none⟩ ?_;try simp only[Act.put,aS,aQ,aR]
   refine jT 6 ⟨some 53,.move (.tmp 13),238,"vm.go:146",#[],none⟩ ?_;try simp only[Act.put,aS,aQ,aR]
   refine jT 7 ⟨some 54,.move (.tmp 10),162,"vm.go:146",#[],none⟩ ?_;try simp only[Act.put,aS,aQ,aR]
   refine jT 8 ⟨some 55,.move (.tmp 11),4,"vm.go:146",#[],none⟩ ?_;try simp only[Act.put,aS,aQ,aR]
   refine jT 9 ⟨some 56,.build 242 #[(0,.tmp 52),(1,.tmp 53),(2,.tmp 54),(3,.tmp 55)],242,"vm.go:146",#[⟨5,.data⟩,⟨6,.data⟩,⟨7,.data⟩,⟨8,.data⟩],none⟩ ?_;try simp only[Act.put,aS,aQ,aR]
   have EE:=aT (HV1.out.alloc HV1.out.size (.cells #[.int .u16 xc,.int .u8 U,.int .u8 T,.int .u32 Y,.func (.func FV) #[] #[],.int .i64 KN,.bool false] U3));have CP:=aT (HV5.out.alloc (.cells #[.int .u16 xc,.int .u8 U,.int .u8 T,.int .u32 Y,.func (.func FV) #[] #[],.int .i64 KN,.bool false] U3));have Bj:=aT (ZF uk.out ((aG wd.heap.size wd).alloc (aP _) (.cells #[.int .u16 xc,.int .u8 U,.int .u8 T,.int .u32 Y,.func (.func FV) #[] #[],.int .i64 KN,.bool false] U3)));have yz:=aT (FX.out.alloc (.cells #[.int .u16 xc,.int .u8 U,.int .u8 T,.int .u32 Y,.func (.func FV) #[] #[],.int .i64 KN,.bool false] U3));have HDA:=aT (HV3.out.alloc (.cells #[.int .u16 xc,.int .u8 U,.int .u8 T,.int .u32 Y,.func (.func FV) #[] #[],.int .i64 KN,.bool false] U3));have JM:Hid ((wd.alloc (.cells #[.int .u16 xc,.int .u8 U,.int .u8 T,.int .u32 Y,.func (.func FV) #[] #[],.int .i64 KN,.bool false] U3)).cell? ⟨T9,0,none⟩=some (.int .u16 xc)/\(wd.alloc (.cells #[.int .u16 xc,.int .u8 U,.int .u8 T,.int .u32 Y,.func (.func FV) #[] #[],.int .i64 KN,.bool false] U3)).cell? ⟨T9,1,none⟩=some (.int .u8 U)/\(wd.alloc (.cells #[.int .u16 xc,.int .u8 U,.int .u8 T,.int .u32 Y,.func (.func FV) #[] #[],.int .i64 KN,.bool false] U3)).cell? ⟨T9,2,none⟩=some (.int .u8 T)/\(wd.alloc (.cells #[.int .u16 xc,.int .u8 U,.int .u8 T,.int .u32 Y,.func (.func FV) #[] #[],.int .i64 KN,.bool false] U3)).cell? ⟨T9,3,none⟩=some (.int .u32 Y)):=⟨yz.out.cell 0,yz.out.cell 1,yz.out.cell 2,yz.out.cell 3⟩;have mN:w.heap.size<=(wd.alloc (.cells #[.int .u16 xc,.int .u8 U,.int .u8 T,.int .u32 Y,.func (.func FV) #[] #[],.int .i64 KN,.bool false] U3)).heap.size:=EE.out.size;have k4:wd.cell? ⟨Bm,0,none⟩=some lv:=HV5.out.cell 0;have k5:(wd.alloc (.cells #[.int .u16 xc,.int .u8 U,.int .u8 T,.int .u32 Y,.func (.func FV) #[] #[],.int .i64 KN,.bool false] U3)).cell? ⟨Bm,0,none⟩=some lv:=CP.out.cell 0;refine aag (rs:=[4,10]) jK jS ?_;refine ae (o:=fh) rfl (λK' Z=> ?ab1) (ae (o:=fg) rfl (λK' Z=> ?jy) aad)
   case ab1=>
    go_simp;refine Z.out _ _ hHeld (λhHeld=> ?_);clear Z K';try simp only[Act.put,aS,aQ,aR]
    refine aag (rs:=[10]) jK jS ?_;refine ae (o:=fg) rfl (λK' Z=> ?_) aad;go_simp;clear hHeld;refine Z.out _ _ JM.out (λhHeld=> ?_);clear Z K';try simp only[Act.put,aS,aQ,aR]
    refine aag (rs:=[11]) jK jS ?_;refine ae (o:=fe) rfl (λK' Z=> ?_) aad;refine Yb _ _ _ 233 jR w.heap.size U3 i0 (.agg #[.int .u16 0,.int .u8 0,.int .u8 0,.int .u32 0,.nilFunc,.int .i64 0,.bool false]) 7 32 underlying233 XW SC Vo TF rfl jD lv m _ jR Bj.out ⟨wd.heap.size,0,none⟩ 1 1 [.int .u16 xc,.int .u8 U,.int .u8 T,.int .u32 Y,.func (.func FV) #[] #[],.int .i64 KN,.bool false] jR rfl (Y1 rfl) (by simp[Value.oneCell']) (by unfold maxLen;omega) jO mN ?_;intro v' I C A;obtain⟨g7,q7,rfl,_,_⟩:=World.ownsRow.form C jO;have OA:=aT (EE.out.grown A mN (λk e=>(Bj.out.lt k e).1));have D:=aT (CP.out.kept A (λe=>YU Bj.out CP.out jD e.symm));have J:=aT (yz.out.kept A (λe=>YU Bj.out yz.out jD e.symm));have HD7:=aT (HDA.out.kept A (λe=>Ij Bj.out HDA.out e.symm));have L4:=aT C;have L5:Hid (I.cell? ⟨T9,0,none⟩=some (.int .u16 xc)/\I.cell? ⟨T9,1,none⟩=some (.int .u8 U)/\I.cell? ⟨T9,2,none⟩=some (.int .u8 T)/\I.cell? ⟨T9,3,none⟩=some (.int .u32 Y)):=⟨J.out.cell 0,J.out.cell 1,J.out.cell 2,J.out.cell 3⟩;clear C A;clear hHeld;refine Z.out _ _ L5.out (λhHeld=> ?_);clear Z K';try simp only[Act.put,aS,aQ,aR]
    refine jT 12 eZ ?_;try simp only[Act.put,aS,aQ,aR]
    refine jT 13 eY ?_;try simp only[Act.put,aS,aQ,aR]
    refine aag (rs:=[14]) jK jS ?_;refine ae (o:=eX) rfl (λK' Z=> ?_) aad;have k7:I.cell? ⟨Bm,0,none⟩=some lv:=D.out.cell 0;have f7:=D.out.frozen 0;have pM:T9≠Bm:=λe=>by have h1:=J.out;have h2:=D.out;rw[e] at h1;have h3:=h1.symm.trans h2;injection h3 with h3;injection h3 with _ h3;exact absurd h3 jD
    have pL:some Bd≠some Bm:=λe=>by have h2:=D.out;obtain⟨es,ck,h3,_⟩:=HD7.out;rw[au e] at h3;have h4:=h3.symm.trans h2;cases h4
    have IY:=aT (J.out.other pM 0 (.slice (some ⟨g7,0,none⟩) (m+1) q7));have qz:Hid ((I.setCell ⟨Bm,0,none⟩ (.slice (some ⟨g7,0,none⟩) (m+1) q7)).cell? ⟨T9,0,none⟩=some (.int .u16 xc)/\(I.setCell ⟨Bm,0,none⟩ (.slice (some ⟨g7,0,none⟩) (m+1) q7)).cell? ⟨T9,1,none⟩=some (.int .u8 U)/\(I.setCell ⟨Bm,0,none⟩ (.slice (some ⟨g7,0,none⟩) (m+1) q7)).cell? ⟨T9,2,none⟩=some (.int .u8 T)/\(I.setCell ⟨Bm,0,none⟩ (.slice (some ⟨g7,0,none⟩) (m+1) q7)).cell? ⟨T9,3,none⟩=some (.int .u32 Y)):=⟨IY.out.cell 0,IY.out.cell 1,IY.out.cell 2,IY.out.cell 3⟩;have Sl:Hid (Md Bm Bd l w (m+1) (I.setCell ⟨Bm,0,none⟩ (.slice (some ⟨g7,0,none⟩) (m+1) q7))):=by refine⟨OA.out.setCell (p:=⟨Bm,0,none⟩) hbm _,hbm,HD7.out.kept (row:=some Bm) ⟨rfl,rfl,rfl,by show I.heap.size<=(I.heap.modify Bm _).size;rw[ate];exact aP _,λk _ hk=>afd I _ _ k (λe=>hk (by rw[e]))⟩ pL,_,D.out.set 0 _,?_⟩;rw[al4.out];exact VR L4.out (λe=>YU L4.out D.out jD e)
    clear pM pL;go_simp;clear hHeld;refine Z.out _ _ qz.out (λhHeld=> ?_);clear Z K';refine akc jK ?_ _;refine ame ?_;clear k4 k5 k7 f7;go_wp2_with fail;go_roundg (n-m);case measure=>omega
    case rel=>exact⟨m+1,jO,jO,by go_num,Sl⟩
   case jy=>
    go_simp;clear hHeld;refine Z.out _ _ JM.out (λhHeld=> ?_);clear Z K';try simp only[Act.put,aS,aQ,aR]
    refine aag (rs:=[4]) jK jS ?_;refine ae (o:=fh) rfl (λK' Z=> ?_) aad;go_simp;refine Z.out _ _ hHeld (λhHeld=> ?_);clear Z K';try simp only[Act.put,aS,aQ,aR]
    refine aag (rs:=[11]) jK jS ?_;refine ae (o:=fe) rfl (λK' Z=> ?_) aad;refine Yb _ _ _ 233 jR w.heap.size U3 i0 (.agg #[.int .u16 0,.int .u8 0,.int .u8 0,.int .u32 0,.nilFunc,.int .i64 0,.bool false]) 7 32 underlying233 XW SC Vo TF rfl jD lv m _ jR Bj.out ⟨wd.heap.size,0,none⟩ 1 1 [.int .u16 xc,.int .u8 U,.int .u8 T,.int .u32 Y,.func (.func FV) #[] #[],.int .i64 KN,.bool false] jR rfl (Y1 rfl) (by simp[Value.oneCell']) (by unfold maxLen;omega) jO mN ?_;intro v' I C A;obtain⟨g7,q7,rfl,_,_⟩:=World.ownsRow.form C jO;have OA:=aT (EE.out.grown A mN (λk e=>(Bj.out.lt k e).1));have D:=aT (CP.out.kept A (λe=>YU Bj.out CP.out jD e.symm));have J:=aT (yz.out.kept A (λe=>YU Bj.out yz.out jD e.symm));have HD7:=aT (HDA.out.kept A (λe=>Ij Bj.out HDA.out e.symm));have L4:=aT C;have L5:Hid (I.cell? ⟨T9,0,none⟩=some (.int .u16 xc)/\I.cell? ⟨T9,1,none⟩=some (.int .u8 U)/\I.cell? ⟨T9,2,none⟩=some (.int .u8 T)/\I.cell? ⟨T9,3,none⟩=some (.int .u32 Y)):=⟨J.out.cell 0,J.out.cell 1,J.out.cell 2,J.out.cell 3⟩;clear C A;clear hHeld;refine Z.out _ _ L5.out (λhHeld=> ?_);clear Z K';try simp only[Act.put,aS,aQ,aR]
    refine jT 12 eZ ?_;try simp only[Act.put,aS,aQ,aR]
    refine jT 13 eY ?_;try simp only[Act.put,aS,aQ,aR]
    refine aag (rs:=[14]) jK jS ?_;refine ae (o:=eX) rfl (λK' Z=> ?_) aad;have k7:I.cell? ⟨Bm,0,none⟩=some lv:=D.out.cell 0;have f7:=D.out.frozen 0;have pM:T9≠Bm:=λe=>by have h1:=J.out;have h2:=D.out;rw[e] at h1;have h3:=h1.symm.trans h2;injection h3 with h3;injection h3 with _ h3;exact absurd h3 jD
    have pL:some Bd≠some Bm:=λe=>by have h2:=D.out;obtain⟨es,ck,h3,_⟩:=HD7.out;rw[au e] at h3;have h4:=h3.symm.trans h2;cases h4
    have IY:=aT (J.out.other pM 0 (.slice (some ⟨g7,0,none⟩) (m+1) q7));have qz:Hid ((I.setCell ⟨Bm,0,none⟩ (.slice (some ⟨g7,0,none⟩) (m+1) q7)).cell? ⟨T9,0,none⟩=some (.int .u16 xc)/\(I.setCell ⟨Bm,0,none⟩ (.slice (some ⟨g7,0,none⟩) (m+1) q7)).cell? ⟨T9,1,none⟩=some (.int .u8 U)/\(I.setCell ⟨Bm,0,none⟩ (.slice (some ⟨g7,0,none⟩) (m+1) q7)).cell? ⟨T9,2,none⟩=some (.int .u8 T)/\(I.setCell ⟨Bm,0,none⟩ (.slice (some ⟨g7,0,none⟩) (m+1) q7)).cell? ⟨T9,3,none⟩=some (.int .u32 Y)):=⟨IY.out.cell 0,IY.out.cell 1,IY.out.cell 2,IY.out.cell 3⟩;have Sl:Hid (Md Bm Bd l w (m+1) (I.setCell ⟨Bm,0,none⟩ (.slice (some ⟨g7,0,none⟩) (m+1) q7))):=by refine⟨OA.out.setCell (p:=⟨Bm,0,none⟩) hbm _,hbm,HD7.out.kept (row:=some Bm) ⟨rfl,rfl,rfl,by show I.heap.size<=(I.heap.modify Bm _).size;rw[ate];exact aP _,λk _ hk=>afd I _ _ k (λe=>hk (by rw[e]))⟩ pL,_,D.out.set 0 _,?_⟩;rw[al4.out];exact VR L4.out (λe=>YU L4.out D.out jD e)
    clear pM pL;go_simp;clear hHeld;refine Z.out _ _ qz.out (λhHeld=> ?_);clear Z K';refine akc jK ?_ _;refine ame ?_;clear k4 k5 k7 f7;go_wp2_with fail;go_roundg (n-m);case measure=>omega
    case rel=>exact⟨m+1,jO,jO,by go_num,Sl⟩
  ·obtain rfl:m=n:=by omega
   have Zc:¬(m:Int)<(m:Int):=jO;obtain⟨v1,_,_,lv,v5,v6⟩:=HA.out;rw[abd (by rw[HP.out.len];exact aP _)] at v6;have HV1:=aT v1;have HV5:=aT v5;have uk:=aT v6;clear v1 v5 v6;go_wp2_with fail;go_ret2;exact⟨Bm,lv,rfl,HV5.out,uk.out,HV1.out⟩
end Go.Proofs.YtclgigmgbebhgaaGreatDoor
namespace Go.Proofs.YtclgigmgbebhgaaGreatDoor
open Tryz
open Go Go.Proofs Go.RowKit
theorem AW{N L c g off:Nat}{bs:List Nat}(hl:bs.length=L)(XA:L<=1000000)(w:World)(hm:X7 N w (some ⟨g,off,none⟩) bs)(hN:N<=w.heap.size):
 Calls prog 121 #[.slice (some ⟨g,off,none⟩) L c] w λe w'=>∃v,e=.returned v/\w'.ownsRow w.heap.size 5 1 v L (Zn bs)/\Below w.heap.size w w':=by
 obtain⟨i0,I,SC,T,U⟩:=ZQ yH;have D:=aT ((aG w.heap.size w).alloc (aP _) (.cells #[] 5));have J:Hid ((w.alloc (.cells #[] 5)).ownsRow w.heap.size 5 1 (.slice (some ⟨w.heap.size,0,none⟩) 0 0) 0 []):=World.ownsRow_lit (base:=w.heap.size) w #[] 0 (aP _) jD rfl;have HM:=aT (hm.below D hN);have HLB:Hid ((Zn bs).length=L*1):=by show _=_;unfold Zn;rw[aac,hl,aqc]
 have Z:Hid (∀u∈Zn bs,u.oneCell'=true):=λu hu=>by obtain⟨b,_,rfl⟩:=ah.1 hu;rfl
 have Y:Hid (∀j u,(Zn bs)[j]? =some u->(w.alloc (.cells #[] 5)).cell? ((⟨g,off,none⟩:Addr).add j)=some u):=λj u hu=>by unfold Zn at hu;rw[ada] at hu;obtain⟨b,hb,rfl⟩:=Option.map_eq_some_iff.1 hu;obtain⟨g',ao7,e,_,hc⟩:=HM j b hb;cases e;rw[show(⟨g,off,none⟩:Addr).add j=⟨g,off+j,none⟩ by cases j<;>rfl];exact hc
 have hnil:∀w,(binOp .eql 42 (.slice (some ⟨g,off,none⟩) L c) (.slice none 0 0)).run prog w=.ok (.bool false) w:=λ_=>jK
 clear hl hm;go_enter func121,ntmps121
 go_wp2_with (first
  |(at_builtin;refine aea _ rfl _ _ 42 rfl w.heap.size 5 i0 (.int .u8 0) 1 1 underlying42 I SC T U rfl jD _ 0 [] rfl J ⟨g,off,none⟩ L c (Zn bs) rfl HLB Y Z (by unfold maxLen;omega) jO D.size ?_;intro v' w6 A C _)
  |(refine wpList_plain rfl λK hK=> ?_;refine Ey _ 42 rfl underlying42 I T ?_;refine hK _ _ ?_;clear hK K))
 rw[adf,ahe] at A;have HR:=aT A;have CT:=aT (D.grown C D.size (λk e=>(J.lt k e).1));clear A C;go_wp2_with fail;go_ret;exact⟨_,rfl,HR,CT⟩
end Go.Proofs.YtclgigmgbebhgaaGreatDoor
namespace Go.Proofs.YtclgigmgbebhgaaGreatDoor
open Tryz
open Go Go.Proofs Go.RowKit Go.Shelf
abbrev O3:Nat:=96
abbrev Gk:Nat:=45
theorem Dz(v:Nat)(W:World):(Instr.typeAssert (.iface 247 (.agg #[.int .u32 v])) 20 247 true).run prog W=.ok (.tuple #[.agg #[.int .u32 v],.bool true]) W:=jK
theorem N3{W:World}{a b t u:Nat}{cs ds:Array Value}(h:Z8 W a t cs)(k:Z8 W b u ds)(C:t≠u):a≠b:=λe=>by
 rw[e] at h;have A:=(show W.heap[b]? =_ from h).symm.trans k;injection A with A;injection A with _ A;exact C A
theorem AV{R base p a s v:Nat}{w0:World}{vb:Value}(Bp O E:Nat)(o0 o1 o2 e0:Value)(w:World)(hS:VZ R base w0 vb 0 p a s w)(hp:Z8 w Bp 240 #[.pointer (some ⟨R,0,none⟩)])(ho:Z8 w O O3 #[o0,o1,o2])(U:Z8 w E Gk #[e0]):
 CallsD prog 122 #[.pointer (some ⟨Bp,0,none⟩),.pointer (some ⟨O,0,none⟩),.pointer (some ⟨E,0,none⟩)] (.panicking (Ke v)) w λe u' w'=>
  e=.returned (.tuple #[])/\u'=.panicking [{v:=.iface 247 (.agg #[.int .u32 v]),recovered:=true}]/\Hid (∃C ln D,Z8 w' O O3 #[.int .u32 v,.int .i64 s,.slice C ln D])/\Hid (Z8 w' E Gk #[.int .i64 0])/\(∀n:Nat,n<=R->n<=O->n<=E->n<=w.heap.size->Below n w w'):=by
 obtain⟨h1,h2,h3,lv,n,xs,h4,J,h6⟩:=hS;obtain⟨C,D,rfl⟩:=ZK h6;have n1:=N3 J hp jD;have n2:=N3 J ho jD;have n3:=N3 J U jD;have n4:=N3 ho U jD;have n5:=N3 ho hp jD;have l1:=J.lt;have l2:=hp.lt;have l3:=ho.lt;have l4:=U.lt;have T:=aT (J.alloc (.cells #[.int .u32 v] 247));have HP:=aT (hp.alloc (.cells #[.int .u32 v] 247));have I:=aT (ho.alloc (.cells #[.int .u32 v] 247));have HE:=aT (U.alloc (.cells #[.int .u32 v] 247));have HV:=aT (Z8.new w 247 #[.int .u32 v]);have HB:Hid (∀n:Nat,n<=w.heap.size->Below n w (w.alloc (.cells #[.int .u32 v] 247))):=λn hn=>(aG n w).alloc hn _
 clear h1 h2 h3 h4 J h6 hp ho U;unfold Ke;refine callsD_of_wpS func122 rfl λc₀ cs hu=> ?_
 apply wpS_seq;apply wpS_region;simp[wpOpsS,go_sem,recoverD,hu,ntmps122,Exit.thenS,Array.replicate,List.replicate];have hta:=Dz v;refine wpS_of_wp ?_;go_upto_region 5 with fail;generalize w.alloc (.cells #[.int .u32 v] 247)=w1 at*;have q1:¬w.heap.size=R:=jO;obtain⟨BV,A⟩:∃B,w.heap.size=B:=⟨_,rfl⟩;rw[A] at HV q1 l1 l2 l3 l4;have HBV:=aT A;rw[A];clear A;unfold Gn at T;have r20:=T.cell 20;have Z:=T.cell 21;have r22:=T.cell 22;have g20:=T.frozen 20;have p0:=HP.cell 0;have v0:=HV.cell 0;have y0:=I.cell 0;have y1:=I.cell 1;have y2:=I.cell 2;have z0:=I.frozen 0;have z1:=I.frozen 1;have z2:=I.frozen 2;have y4:=HE.cell 0;have z4:=HE.frozen 0;simp only[ak,aL,aF] at r20 Z r22 p0 v0 y0 y1 y2 y4;have m1:¬R=Bp:=n1;have m2:¬R=O:=n2;have m3:¬R=E:=n3;have Y:¬O=E:=n4;go_wp2;have hO:Hid (∃C ln D,Z8 _ O O3 #[.int .u32 v,.int .i64 s,.slice C ln D]):=⟨C,n,D,((((I.other (B':=R) (ana m2) 20 (.int .u32 v)).set 0 (.int .u32 v)).set 1 (.int .i64 s)).set 2 (.slice C n D)).other (B':=E) Y 0 (.int .i64 0)⟩;have hE:Hid (Z8 _ E Gk #[.int .i64 0]):=((((HE.other (B':=R) (ana m3) 20 (.int .u32 v)).other (B':=O) (ana Y) 0 (.int .u32 v)).other (B':=O) (ana Y) 1 (.int .i64 s)).other (B':=O) (ana Y) 2 (.slice C n D)).set 0 (.int .i64 0);have hB:∀n':Nat,n'<=R->n'<=O->n'<=E->n'<=w.heap.size->Below n' w _:=λn' k1 k2 k3 k4=>(((((HB n' k4).setCell (p:=⟨R,20,none⟩) k1 (.int .u32 v)).setCell (p:=⟨O,0,none⟩) k2 (.int .u32 v)).setCell (p:=⟨O,1,none⟩) k2 (.int .i64 s)).setCell (p:=⟨O,2,none⟩) k2 (.slice C n D)).setCell (p:=⟨E,0,none⟩) k3 (.int .i64 0)
 cases c₀;simp only at hu;subst hu;exact⟨rfl,_,rfl,.tuple #[],apa rfl _ _ _,rfl,rfl,hO,hE,hB⟩
def AU(v:Nat)(w:World):Ending->World->Prop:=λe w'=>∃(s:Nat) (la:Option Addr) (ln lc:Nat),e=.returned (.tuple #[.agg #[.int .u32 v,.int .i64 s,.slice la ln lc],.int .i64 0])/\Below w.heap.size w w'
theorem O2{W:World}{B n c g:Nat}{bs:List Nat}(hn:bs.length=n)(h:W.ownsRow B 5 1 (.slice (some ⟨g,0,none⟩) n c) n (Zn bs)):X7 W.heap.size W (some ⟨g,0,none⟩) bs:=λi x hx=>by
 have hi:i<n:=by rw[<-hn];exact(aq.1 hx).1
 have hc:=h.cellAt i (by rw[aqc];exact hi);have A:(Zn bs)[i]? =some (fQ x):=by unfold Zn;rw[ada,hx];rfl
 rw[A] at hc;exact⟨g,0,rfl,afg _ _ hc,by rw[adf];exact hc⟩
end Go.Proofs.YtclgigmgbebhgaaGreatDoor
namespace Go.Proofs.YtclgigmgbebhgaaGreatDoor
open Tryz
open Go Go.Proofs Go.RowKit
variable {fc:Array Value} {z:Int} {R s PO PP PI FB L:Nat} {iv ov:Value} {w:World}
abbrev CN:Nat:=44
abbrev TGi:Nat:=79
structure XT(s R PO PP PI FB:Nat)(fc:Array Value)(w:World)(z:Int)(ov:Value)(pc:Array Value)(iv:Value)(W:World):Prop where
 Zs:Below s w W
 ls:s<=W.heap.size
 rb:Z8 W R CN #[.slice none 0 0,.int .i64 0,.int .i64 0]
 ob:Z8 W PO CN #[ov,.int .i64 0,.int .i64 z]
 pb:Z8 W PP Xy pc
 ib:Z8 W PI TGi #[iv]
 fb:Z8 W FB 82 fc
 lo:s<=R/\s<=PO/\s<=PP/\s<=PI
 ne:R≠PO
section
variable {s R PO PP PI FB:Nat} {w W W':World} {z:Int} {ov iv:Value} {pc fc:Array Value}
theorem XT.to(h:XT s R PO PP PI FB fc w z ov pc iv W)(hb:Below W.heap.size W W'):XT s R PO PP PI FB fc w z ov pc iv W':=
 ⟨h.Zs.trans (hb.mono h.ls),aO h.ls hb.size,h.rb.below hb h.rb.lt,h.ob.below hb h.ob.lt,h.pb.below hb h.pb.lt,h.ib.below hb h.ib.lt,h.fb.below hb h.fb.lt,h.lo,h.ne⟩
theorem XH{k k' t t':Nat}{cs cs':Array Value}(h:Z8 W k t cs)(A:Z8 W k' t' cs')(ht:t≠t'):k≠k':=λe=>by
 subst e;exact ht (TY h A)
theorem XT.al5(h:XT s R PO PP PI FB fc w z ov pc iv W)(A:Int):XT s R PO PP PI FB fc w A ov pc iv (W.setCell ⟨PO,2,none⟩ (.int .i64 A)):=
 ⟨h.Zs.setCell (p:=⟨PO,2,none⟩) h.lo.2.1 _,by simp[h.ls],h.rb.other h.ne 2 _,h.ob.set 2 _,h.pb.other (XH h.pb h.ob jD) 2 _,h.ib.other (XH h.ib h.ob jD) 2 _,h.fb.other (XH h.fb h.ob jD) 2 _,h.lo,h.ne⟩
theorem XT.al6(h:XT s R PO PP PI FB fc w z ov pc iv W)(v:Value):XT s R PO PP PI FB fc w z v pc iv (W.setCell ⟨PO,0,none⟩ v):=
 ⟨h.Zs.setCell (p:=⟨PO,0,none⟩) h.lo.2.1 _,by simp[h.ls],h.rb.other h.ne 0 _,h.ob.set 0 _,h.pb.other (XH h.pb h.ob jD) 0 _,h.ib.other (XH h.ib h.ob jD) 0 _,h.fb.other (XH h.fb h.ob jD) 0 _,h.lo,h.ne⟩
theorem XT.ax7(h:XT s R PO PP PI FB fc w z ov pc iv W)(v:Value):XT s R PO PP PI FB fc w z ov pc v (W.setCell ⟨PI,0,none⟩ v):=
 ⟨h.Zs.setCell (p:=⟨PI,0,none⟩) h.lo.2.2.2 _,by simp[h.ls],h.rb.other (XH h.rb h.ib jD) 0 _,h.ob.other (XH h.ob h.ib jD) 0 _,h.pb.other (XH h.pb h.ib jD) 0 _,h.ib.set 0 _,h.fb.other (XH h.fb h.ib jD) 0 _,h.lo,h.ne⟩
theorem XT.Gj{j:Nat}{v:Value}(h:XT s R PO PP PI FB fc w z ov pc iv W):XT s R PO PP PI FB fc w z ov (pc.setIfInBounds j v) iv (W.setCell ⟨PP,j,none⟩ v):=
 ⟨h.Zs.setCell (p:=⟨PP,j,none⟩) h.lo.2.2.1 _,by simp[h.ls],h.rb.other (XH h.rb h.pb jD) j _,h.ob.other (XH h.ob h.pb jD) j _,h.pb.set j _,h.ib.other (XH h.ib h.pb jD) j _,h.fb.other (XH h.fb h.pb jD) j _,h.lo,h.ne⟩
theorem XT.p9{c0 c1 c2 c3 c4 c5 c6 c7 c8:Value}(h:XT s R PO PP PI FB fc w z ov #[c0,c1,c2,c3,c4,c5,c6,c7,c8] iv W)(A C D I J T U Y Z:Value):XT s R PO PP PI FB fc w z ov #[A,C,D,I,J,T,U,Y,Z] iv (((((((((W.setCell ⟨PP,0,none⟩ A).setCell ⟨PP,1,none⟩ C).setCell ⟨PP,2,none⟩ D).setCell ⟨PP,3,none⟩ I).setCell ⟨PP,4,none⟩ J).setCell ⟨PP,5,none⟩ T).setCell ⟨PP,6,none⟩ U).setCell ⟨PP,7,none⟩ Y).setCell ⟨PP,8,none⟩ Z):=by
 have h0:XT s R PO PP PI FB fc w z ov #[A,c1,c2,c3,c4,c5,c6,c7,c8] iv _:=h.Gj (j:=0) (v:=A);have h1:XT s R PO PP PI FB fc w z ov #[A,C,c2,c3,c4,c5,c6,c7,c8] iv _:=h0.Gj (j:=1) (v:=C);have h2:XT s R PO PP PI FB fc w z ov #[A,C,D,c3,c4,c5,c6,c7,c8] iv _:=h1.Gj (j:=2) (v:=D);have h3:XT s R PO PP PI FB fc w z ov #[A,C,D,I,c4,c5,c6,c7,c8] iv _:=h2.Gj (j:=3) (v:=I);have h4:XT s R PO PP PI FB fc w z ov #[A,C,D,I,J,c5,c6,c7,c8] iv _:=h3.Gj (j:=4) (v:=J);have h5:XT s R PO PP PI FB fc w z ov #[A,C,D,I,J,T,c6,c7,c8] iv _:=h4.Gj (j:=5) (v:=T);have h6:XT s R PO PP PI FB fc w z ov #[A,C,D,I,J,T,U,c7,c8] iv _:=h5.Gj (j:=6) (v:=U);have h7:XT s R PO PP PI FB fc w z ov #[A,C,D,I,J,T,U,Y,c8] iv _:=h6.Gj (j:=7) (v:=Y);exact h7.Gj (j:=8) (v:=Z)
end
theorem X2{W:World}{t:Nat}{c0 c1 c2:Value}(hb:Z8 W R t #[c0,c1,c2]):(W.cell? ⟨R,0,none⟩=some c0/\W.cell? ⟨R,1,none⟩=some c1/\W.cell? ⟨R,2,none⟩=some c2)/\W.frozen? ⟨R,0,none⟩=false/\W.frozen? ⟨R,1,none⟩=false/\W.frozen? ⟨R,2,none⟩=false:=
 ⟨⟨hb.cell 0,hb.cell 1,hb.cell 2⟩,hb.frozen 0,hb.frozen 1,hb.frozen 2⟩
structure eV(pr:List NR)(l:List Z4.Z0)(k n:Int)(x:Bool)(q:Ya)(es:Nat->List Xp)(s0 s1:List (Nat×Nat))(W:World):Prop where
 hd:q.d=Yf k n
 hx:q.x=x
 f:∃dn,Vf pr l q.d x dn es s0 s1
 r:∃lo,Ss lo W (λa=>VO (q.e a)) (λm=>if m=0 then VO q.s0 else VO q.s1) es (λm=>if m=0 then s0 else s1)
theorem u1q{V:Prop}{C:Int->Prop}{bl:Bool}{BP BT c:Nat} {a:Option Addr}{pr:List NR}{k n:Int}{x:Bool}{tv:Value}{l:List Z4.Z0} (W:World)(hM:XT s R PO PP PI FB fc w 0 (.slice none 0 0) WX iv W)(T:Z8 W BP V1 #[.int .i64 k,.int .i64 n,.bool x,.slice a L c])(U:Z8 W BT 41 #[tv])
 (I:Calls prog 22 #[.agg #[.int .i64 k,.int .i64 n,.bool x,.slice a L c],tv] W λe w'=>p8 C bl W e w'\/(V/\fD pr l k n x W e w')):
 Calls prog 21 #[.pointer (some ⟨BP,0,none⟩),.pointer (some ⟨BT,0,none⟩),.pointer (some ⟨PP,0,none⟩),.pointer (some ⟨PO,0,none⟩)] W λe w'=>∃ev:Int,e=.returned (.int .i64 ev)/\((ev≠0/\(C ev\/bl=true)/\∃z,XT s R PO PP PI FB fc w z (.slice none 0 0) WX iv w')\/(ev=0/\V/\∃q es s0 s1,eV pr l k n x q es s0 s1 w'/\XT s R PO PP PI FB fc w 0 (.slice none 0 0) (ZA q) iv w')):=by
 have Y:=aT hM;have HR:=aT I;obtain⟨⟨p0,p1,p2,p3⟩,_⟩:=Z7 T;have t0:=U.e0;clear hM T U I;go_enter func21,ntmps21;go_wp2_with fail;refine HR.mono ?_;rintro e w1 (⟨z,ev,J,hC,rfl,hb⟩|⟨hv,q,dn,es,s0,s1,rfl,hd,hx,hf,hr,hb⟩);·have D:=aT (Y.to hb);have HC:=aT (And.intro J hC);clear hb J hC p0 p1 p2 p3 t0 Y HR;unfold WX at*;obtain⟨⟨r0,r1,r2,r3,r4,r5,r6,r7,r8⟩,f0,f1,f2,f3,f4,f5,f6,f7,f8⟩:=Ve D.pb;have A:=aT (D.p9 (.int .u32 0) (.bool false) (.slice none 0 0) (.slice none 0 0) (.slice none 0 0) (.slice none 0 0) (.slice none 0 0) (.slice none 0 0) (.slice none 0 0));obtain⟨⟨o0,o1,o2⟩,g0,g1,g2⟩:=X2 A.ob;go_wp2_with fail;go_ret;exact⟨_,rfl,.inl ⟨HC.1,HC.2,z,A.al5 z⟩⟩
 ·have D:=aT (Y.to hb);obtain⟨qd,qx,⟨a0,n0,c0⟩,⟨a1,n1,c1⟩,⟨a2,n2,c2⟩,⟨a3,n3,c3⟩,⟨a4,n4,c4⟩,⟨a5,n5,c5⟩,⟨a6,n6,Z⟩⟩:=q;have Cp:=aT hr;have HF:=aT (And.intro hd (And.intro hx hf));clear hb hd hx hf hr p0 p1 p2 p3 t0 Y HR;unfold WX at*;unfold ZA VO at*;dsimp only at*;obtain⟨⟨r0,r1,r2,r3,r4,r5,r6,r7,r8⟩,f0,f1,f2,f3,f4,f5,f6,f7,f8⟩:=Ve D.pb;have A:=aT (D.p9 (.int .u32 qd) (.bool qx) (.slice a0 n0 c0) (.slice a1 n1 c1) (.slice a2 n2 c2) (.slice a3 n3 c3) (.slice a4 n4 c4) (.slice a5 n5 c5) (.slice a6 n6 Z));have K0:=aT (Cp.p9 D.pb (.int .u32 qd) (.bool qx) (.slice a0 n0 c0) (.slice a1 n1 c1) (.slice a2 n2 c2) (.slice a3 n3 c3) (.slice a4 n4 c4) (.slice a5 n5 c5) (.slice a6 n6 Z));obtain⟨⟨o0,o1,o2⟩,g0,g1,g2⟩:=X2 A.ob;go_wp2_with fail;go_ret;exact⟨_,rfl,.inr ⟨rfl,hv,⟨qd,qx,(a0,n0,c0),(a1,n1,c1),(a2,n2,c2),(a3,n3,c3),(a4,n4,c4),(a5,n5,c5),(a6,n6,Z)⟩,es,s0,s1,⟨HF.1,HF.2.1,⟨dn,HF.2.2⟩,⟨_,K0.vw A.ob jD jD jD jD 2 _⟩⟩,A.al5 0⟩⟩
structure Dy(q:Ya)(es:Nat->List Xp)(s0 s1:List (Nat×Nat))(p:YH)(cs:List Nat):Prop where
 d:p.d=q.d
 x:p.Vy=q.x
 p0:p.p0.Perm (Z1 0 (es 0) s0 s1)/\p.p0.Pairwise (λx y=>x.1<y.1)
 p1:(q.x=true->p.p1.Perm (Z1 1 (es 1) s0 s1))/\(q.x=false->p.p1=[])/\p.p1.Pairwise (λx y=>x.1<y.1)
 p2:p.p2.Perm (Z1 2 (es 2) s0 s1)/\p.p2.Pairwise (λx y=>x.1<y.1)
 p3:p.p3.Perm (Z1 3 (es 3) s0 s1)/\p.p3.Pairwise (λx y=>x.1<y.1)
 p4:p.p4.Perm (Z1 4 (es 4) s0 s1)/\p.p4.Pairwise (λx y=>x.1<y.1)
 c:OU p cs
 c32:∀c∈cs,c<4294967296
 max:(ZN p cs).length<=1000000
 len:(ZN p cs).length<=80+2*T6 p
theorem uZ{q:Ya}{es:Nat->List Xp}{s0 s1:List (Nat×Nat)} (W:World)(Y:XT s R PO PP PI FB fc w z ov (ZA q) iv W)(hp:Uv W.heap.size W q es s0 s1)(hk:∀a,a<5->ZX (Z1 a (es a) s0 s1)<=10000):
 Calls prog 23 #[.pointer (some ⟨PP,0,none⟩),.pointer (some ⟨PI,0,none⟩)] W λe w'=>e=.returned (.int .i64 0)/\∃v p cs,Dy q es s0 s1 p cs/\XT s R PO PP PI FB fc w z ov (ZA q) v w'/\w'.ownsRow W.heap.size Wm 5 v (ZN p cs).length (XX (ZN p cs)):=by
 have HM:=aT Y;have HI:=aT (vz W hp (aP _) hk);obtain⟨c0,c1,c2,c3,c4,c5,c6,c7,c8⟩:=KE Y.pb;obtain⟨qd,qx,⟨a0,n0,k0⟩,⟨a1,n1,k1⟩,⟨a2,n2,k2⟩,⟨a3,n3,k3⟩,⟨a4,n4,k4⟩,⟨a5,n5,k5⟩,⟨a6,n6,k6⟩⟩:=q;clear Y hp hk;unfold ZA VO at*;dsimp only at*;go_enter func23,ntmps23;go_wp2_with fail;refine HI.mono ?_;rintro e w1 ⟨v,p,cs,rfl,h1,h2,h3,h4,h5,h6,Z,h8,h9,J,T,A,hb⟩;have HD:Hid (Dy ⟨qd,qx,(a0,n0,k0),(a1,n1,k1),(a2,n2,k2),(a3,n3,k3),(a4,n4,k4),(a5,n5,k5),(a6,n6,k6)⟩ es s0 s1 p cs):=⟨h1,h2,h3,h4,h5,h6,Z,h8,h9,J,T⟩;obtain⟨va,vc,rfl⟩:=ZY A;have C:=aT (HM.to hb);have I:=aT A;obtain⟨IL,D⟩:∃z,(ZN p cs).length=z:=⟨_,rfl⟩;rw[D] at I ⊢;have U:=aT D;clear D;have i0:=C.ib.cell 0;have g0:=C.ib.frozen 0;simp only[ak,aL] at i0;clear h1 h2 h3 h4 h5 h6 Z h8 h9 J T A hb c0 c1 c2 c3 c4 c5 c6 c7 c8 HM HI;go_wp2_with fail;go_ret;exact⟨rfl,_,p,cs,HD,C.ax7 _,(by rw[U.out];exact ZW I C.ib jD 0 _)⟩
theorem uY{K B0 c:Nat} {ad:Option Addr}{pc:Array Value}{it:List Z9} (W:World)(hM:XT s R PO PP PI FB fc w z ov pc (.slice ad L c) W)(U:Sw it L K)(A:W.ownsRow B0 Wm 5 (.slice ad L c) L (XX it)):
 Calls prog 25 #[.pointer (some ⟨PI,0,none⟩),.pointer (some ⟨PO,0,none⟩)] W λe w'=>∃v out at_ ZV far,U2 it out at_ ZV far/\(at_ 0=0/\ZV 0=false)/\XT s R PO PP PI FB fc w z v pc (.slice ad L c) w'/\((e=.returned (.int .i64 3)/\4096<3*K)\/(e=.returned (.int .i64 0)/\∃n,XN out n/\∃gp Y B1,v=.slice (some ⟨gp,0,none⟩) (n*8) Y/\n*8<=Y/\w'.ownsRow B1 5 1 (.slice (some ⟨gp,0,none⟩) (n*8) Y) (n*8) (Zn (Yr out)))):=by
 have hm:=kI U.len A;obtain⟨qi,y,hl,hy,Z⟩:=U.last;have HA:=aT (Gq (c:=c) U (λw' hm' hN'=>BI it qi y L c ad U.len U.max hl hy Z U.fV U.ok w' hm' hN') W hm (aP _));have HM:=aT hM;have i0:=hM.ib.e0;clear hM U A hm hl hy Z;go_enter func25,ntmps25;go_wp2_with fail;refine HA.mono ?_;rintro e w1 ⟨hb,out,at_,ZV,far,T,hu,(⟨h4,h3,rfl⟩|⟨n,v,C,rfl,hr⟩)⟩
 ·have J:=aT (HM.to hb);have I:=aT (And.intro T hu);have HLn:Hid (4096<3*K):=by show _<_;omega
  have HW:=aT (Iz (c:=0) (n:=0) (ad:=none) (N:=w1.heap.size) [] rfl jD (λx hx=>by cases hx) w1 (λi x hx=>by simp at hx) (aP _));clear hb T hu h4 h3 i0 HM HA;go_wp2_with fail;refine HW.mono ?_;rintro e w2 ⟨v,rfl,A,hb⟩;have D:=aT (J.to hb);obtain⟨va,vc,rfl⟩:=ZY A;obtain⟨⟨o0,o1,o2⟩,g0,g1,g2⟩:=X2 D.ob;clear A hb HW J;go_wp2_with fail;go_ret;exact⟨_,out,at_,ZV,far,I.1,I.2,D.al6 _,.inl ⟨rfl,HLn⟩⟩
 ·have J:=aT (HM.to hb);have I:=aT (And.intro T hu);have HPG:=aT C;obtain⟨va,vc,rfl⟩:=ZY hr;have hn1:=C.pos;have hn2:=C.max;have HW:=aT (Iz (c:=vc) (N:=w1.heap.size) out C.len jO C.fit w1 (Kl C.len hr) (aP _));clear hb T hu C hr i0 HM HA;go_wp2_with fail;refine HW.mono ?_;rintro e w2 ⟨v,rfl,A,hb⟩;have D:=aT (J.to hb);obtain⟨gp,Y,rfl,hgp,jx⟩:=World.ownsRow.form A jO;have K0:=aT A;obtain⟨⟨o0,o1,o2⟩,g0,g1,g2⟩:=X2 D.ob;clear A hb HW J;go_wp2_with fail;go_ret;refine⟨_,out,at_,ZV,far,I.1,I.2,D.al6 _,.inr ⟨rfl,n,HPG,gp,Y,_,rfl,?_,ZW K0 D.ob jD 0 _⟩⟩
  ·have h:=K0.2;rcases h with⟨e,_⟩|⟨g',c',cur,e,_,_,hc,_⟩
   ·cases e
   ·cases e;exact hc
end Go.Proofs.YtclgigmgbebhgaaGreatDoor
