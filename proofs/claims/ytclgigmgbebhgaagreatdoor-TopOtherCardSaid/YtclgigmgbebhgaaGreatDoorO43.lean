/- TopOther: part 43: TopVm4 TopVm5 TopRun TopRunP PolApp TopOthP. -/
import Derived.Test.YtclgigmgbebhgaaGreatDoorO41
import Derived.Test.YtclgigmgbebhgaaGreatDoorO42
set_option linter.unusedVariables false
set_option linter.unusedSimpArgs false
set_option maxRecDepth 100000
set_option maxHeartbeats 16000000
namespace Go.Proofs.YtclgigmgbebhgaaGreatDoor
open Tryz
open Go Go.Proofs Go.RowKit Go.Shelf
variable {Q0:Exit->Act->World->Prop} {bs:List Nat} {Bm R M3 go co gb cb p a s N g off:Nat} {c2 c3 c4 c5 c8 c9 c10 c11 c12 c13 c14 c15 c16 c17 c18 c19 c20 TJ ny gW gV gU gT u7 Mu u28 Mt Ms Mr u32 u33 Mq Mo Mn Mm Ml Mk Mj Mi Mh Mg u44 Mf Me Md Mc Mb Ma L9 L8 L6 L5 L4 L3 L0:Value} {w3:World}
def WM:Code->Option Code
 | .loop c=>some c
 | .seq a b=>match WM a with
   |some c=>some c
   |none=>WM b
 | .block _ c=>WM c
 | .scope c=>WM c
 | .cond _ a b=>match WM a with
   |some c=>some c
   |none=>WM b
 |_=>none
theorem JC{n xt xf xk FN:Nat}{xc KN:Int}{S1:World->Prop}{S2:List PanicEntry->World->Prop}{D:List Deferred}{wr:World}{c1:Value}{K:Act->World->Prop} (hF:∀(v:Array Value) (w:World),Sem.run prog (callFunc FN v) w=.ok (.enter FN v) w)(hC:∀wc:World,VX R M3 w3 (.slice (some ⟨gb,0,none⟩) 64 cb) 1 (p+1) a (s+1) wc->Calls prog FN #[.pointer (some ⟨R,0,none⟩),.agg #[.int .u16 xc,.int .u8 xt,.int .u8 xf,.int .u32 xk,.func (.func FN) #[] #[],.int .i64 KN,.bool false]] wc λe w'=>(e=.returned (.tuple #[])/\S1 w')\/(∃x,e=.panicked x/\S2 x w'))(hP:Z7 w3 (R+1) 240 #[.pointer (some ⟨R,0,none⟩)])(hM:Z7 w3 Bm eh #[.slice (some ⟨go,0,none⟩) n co])(hMR:Bm<R)(hgo:go<R)
 (hx:∀j,j<7->w3.cell? ⟨go,p*7+j,none⟩=(#[.int .u16 xc,.int .u8 xt,.int .u8 xf,.int .u32 xk,.func (.func FN) #[] #[],.int .i64 KN,.bool false]:Array Value)[j]?) (qR:p<n) (hn:n<=4096) (hsp:s<=p) (hS:VX R M3 w3 (.slice (some ⟨gb,0,none⟩) 64 cb) 0 p a s wr)
 (hK:∀(y7 Tj Ti Th Tg Tf Te Td Tc Tb Ta S8 S7 S6 S5 S4 S3 Y S0 SZ SY SX SV SU SS SR SQ SP SN Z SM SL:Value) (w':World),S1 w'->K {tmps:=#[.pointer (some ⟨Bm,0,none⟩),c1,c2,c3,c4,c5,.pointer (some ⟨R+1,0,none⟩),y7,c8,c9,c10,c11,c12,c13,c14,c15,c16,c17,c18,c19,c20,TJ,ny,gW,gV,gU,gT,Tj,Ti,Th,Tg,Tf,Te,Td,Tc,Tb,Ta,S8,S7,S6,S5,S4,S3,Y,S0,SZ,SY,SX,SV,SU,SS,SR,SQ,SP,SN,Z,SM,SL],defers:=D} w')
 (hQ:∀(y7 Tj Ti Th Tg Tf Te Td Tc Tb Ta S8 S7 S6 S5 S4 S3 Y S0 SZ SY SX SV SU SS SR SQ SP SN Z SM SL:Value) (w':World) (x:List PanicEntry),S2 x w'->Q0 (.panic x) {tmps:=#[.pointer (some ⟨Bm,0,none⟩),c1,c2,c3,c4,c5,.pointer (some ⟨R+1,0,none⟩),y7,c8,c9,c10,c11,c12,c13,c14,c15,c16,c17,c18,c19,c20,TJ,ny,gW,gV,gU,gT,Tj,Ti,Th,Tg,Tf,Te,Td,Tc,Tb,Ta,S8,S7,S6,S5,S4,S3,Y,S0,SZ,SY,SX,SV,SU,SS,SR,SQ,SP,SN,Z,SM,SL],defers:=D} w'):
 Code.wp prog ((Tryz.f65.body.bind WM).getD .skip) (Exit.then K Q0) {tmps:=#[.pointer (some ⟨Bm,0,none⟩),c1,c2,c3,c4,c5,.pointer (some ⟨R+1,0,none⟩),u7,c8,c9,c10,c11,c12,c13,c14,c15,c16,c17,c18,c19,c20,TJ,ny,gW,gV,gU,gT,Mu,u28,Mt,Ms,Mr,u32,u33,Mq,Mo,Mn,Mm,Ml,Mk,Mj,Mi,Mh,Mg,u44,Mf,Me,Md,Mc,Mb,Ma,L9,L8,L6,L5,L4,L3,L0],defers:=D} wr:=by
 have hR:=hS.2.2.1;have hPR:=hS.kept hP jO;have hMM:=hS.kept hM jO;have hB:=hS.px (N:=R) (aR R);have I:Hid (∀j,j<7->wr.cell? ⟨go,p*7+j,none⟩=(#[.int .u16 xc,.int .u8 xt,.int .u8 xf,.int .u32 xk,.func (.func FN) #[] #[],.int .i64 KN,.bool false]:Array Value)[j]?):=λj hj=>(hB.cell (p:=⟨go,p*7+j,none⟩) hgo).trans (hx j hj)
 have c0':=I 0 jD;have c1':=I 1 jD;have uQ:=I 2 jD;have c3':=I 3 jD;have c4':=I 4 jD;have tN:=I 5 jD;have c6':=I 6 jD;simp only[ak,aL,aF,aeb] at c0' c1' uQ c3' c4' tN c6';have m0:=hMM.e0;have U:=hPR.e0;obtain⟨_,z1,_,_,_,_⟩:=hS.cells;have p0:=jZ p;have p1:(p:Int)<(n:Int):=jO;have HT:=aT (Z7.new wr UZ #[.int .u16 xc,.int .u8 xt,.int .u8 xf,.int .u32 xk,.func (.func FN) #[] #[],.int .i64 KN,.bool false]);have J:=aT (hS.alloc (.cells #[.int .u16 xc,.int .u8 xt,.int .u8 xf,.int .u32 xk,.func (.func FN) #[] #[],.int .i64 KN,.bool false] UZ)).drew;have sY:Hid (Z7 (wr.alloc (.cells #[.int .u16 xc,.int .u8 xt,.int .u8 xf,.int .u32 xk,.func (.func FN) #[] #[],.int .i64 KN,.bool false] UZ)).drew wr.heap.size UZ #[.int .u16 xc,.int .u8 xt,.int .u8 xf,.int .u32 xk,.func (.func FN) #[] #[],.int .i64 KN,.bool false]):=HT;have HP1:Hid (∀W q p a s,VX R M3 w3 (.slice (some ⟨gb,0,none⟩) 64 cb) q p a s W->Z7 W (R+1) 240 #[.pointer (some ⟨R,0,none⟩)]):=λW q p a s h=>h.kept hP jO
 have hlR:R<wr.heap.size:=hS.lt;have C:∀(A:Addr) (u:Value),wr.cell? A=some u->∀o,(wr.alloc o).cell? A=some u:=λA u hu o=>by rw[World.cell?_alloc_some wr A o (by rw[hu];rfl)];exact hu
 have e0:=C _ _ c0';have e1:=C _ _ c1';have e2:=C _ _ uQ;have e3:=C _ _ c3';have e4:=C _ _ c4';have e5:=C _ _ tN;have e6:=C _ _ c6';have e7:=C _ _ m0;have e8:=C _ _ U;have e9:=C _ _ z1;have HKK:=aT hK;have HQQ:=aT hQ;have Fv:=aT hC;have HF:=aT hF;clear HT I C hP hM hx hS hPR hMM hB hK hQ hC hF
 conv=>arg 2;whnf
 go_wp2_with fail;go_region;clear c0' c1' uQ c3' c4' tN c6' m0 U z1 e0 e1 e2 e3 e4 e5 e6 e7 e8 e9;generalize (wr.alloc (.cells #[.int .u16 xc,.int .u8 xt,.int .u8 xf,.int .u32 xk,.func (.func FN) #[] #[],.int .i64 KN,.bool false] UZ)).drew=wa at*;have U:=(HP1 wa _ _ _ _ J).e0;obtain⟨z0,z1,z2,z3,z4,zf⟩:=J.cells;have f1:=zf 1;clear z0 z2 z3 z4 zf;have pw:=jW p;have sw:=jW s;have T:=aT (J.set 1 (.int .i64 ((p:Int)+1)) (q':=0) (p':=p+1) (a':=a) (s':=s) (λlv=>rfl) (λn hn=>hn));have mA:wr.heap.size≠R:=jO;generalize wr.heap.size=T9 at*;have Uu:=aT (sY.other (B':=R) mA 1 (.int .i64 ((p:Int)+1)));clear J sY;go_upto_region 11 with fail;generalize wa.setCell ⟨R,1,none⟩ (.int .i64 ((p:Int)+1))=wb at*;clear U z1 f1;have U:=(HP1 wb _ _ _ _ T).e0;obtain⟨z0,z1,z2,z3,z4,zf⟩:=T.cells;have f1:=zf 21;clear z0 z1 z2 z3 zf;have Gk:=aT (T.set 21 (.int .i64 ((s:Int)+1)) (q':=1) (p':=p+1) (a':=a) (s':=s+1) (λlv=>rfl) (λn hn=>jO));have cY:=aT (Uu.other (B':=R) mA 21 (.int .i64 ((s:Int)+1)));clear T Uu;go_upto_region 12 with fail;generalize wb.setCell ⟨R,21,none⟩ (.int .i64 ((s:Int)+1))=wc at*;clear U z4 f1;have U:=(HP1 wc _ _ _ _ Gk).e0;obtain⟨k0,k1,k2,k3,k4,k5,k6⟩:=cY.q7;have CP:=aT (Fv wc Gk);clear pw sw;go_wp2_with fail;rw[HF.out,Oper.upon_enter];refine CP.mono ?_;intro e wd he;have HE:=aT he;clear he CP U k0 k1 k2 k3 k4 k5 k6;rcases HE.out with⟨rfl,hs⟩|⟨x,rfl,hs⟩
 ·have tW:=aT hs;clear hs HE;go_wp2_with fail;refine HKK _ _ _ _ _ _ _ _ _ _ _ _ _ _ _ _ _ _ _ _ _ _ _ _ _ _ _ _ _ _ _ _ wd tW
 ·have tW:=aT hs;clear hs HE;go_wp2;refine HQQ _ _ _ _ _ _ _ _ _ _ _ _ _ _ _ _ _ _ _ _ _ _ _ _ _ _ _ _ _ _ _ _ wd x tW
def ae0(R n:Nat)(w:World):Nat:=n-(match w.cell? ⟨R,1,none⟩ with|some (.int _ z)=>z.toNat|_=>0)
theorem UA{q n:Nat}{W:World}{vb:Value}(h:VX R M3 w3 vb q p a s W):ae0 R n W=n-p:=by
 unfold ae0;rw[h.cells.2.1];rfl
def VmR(R M3 n:Nat)(l:List ZN)(bs:List Nat)(w3:World)(vb:Value)(v:Nat)(p a s:Nat)(W:World):Prop:=s<=p/\p<n/\a<4294967296/\Zi (Yy bs) (l.drop p) a=some v/\VX R M3 w3 vb 0 p a s W
def VmI(c1 c2 c3 c4 c5 c8 c9 c10 c11 c12 c13 c14 c15 c16 c17 c18 c19 c20 TJ ny gW gV gU gT:Value)(Bm R M3 n:Nat)(D:List Deferred)(l:List ZN)(bs:List Nat)(w3:World)(vb:Value)(v:Nat)(a':Act)(W:World):Prop:=∃p a s,VmR R M3 n l bs w3 vb v p a s W/\∃u7:Value,∃Mu:Value,∃u28:Value,∃Mt:Value,∃Ms:Value,∃Mr:Value,∃u32:Value,∃u33:Value,∃Mq:Value,∃Mo:Value,∃Mn:Value,∃Mm:Value,∃Ml:Value,∃Mk:Value,∃Mj:Value,∃Mi:Value,∃Mh:Value,∃Mg:Value,∃u44:Value,∃Mf:Value,∃Me:Value,∃Md:Value,∃Mc:Value,∃Mb:Value,∃Ma:Value,∃L9:Value,∃L8:Value,∃L6:Value,∃L5:Value,∃L4:Value,∃L3:Value,∃L0:Value,a'={tmps:=#[.pointer (some ⟨Bm,0,none⟩),c1,c2,c3,c4,c5,.pointer (some ⟨R+1,0,none⟩),u7,c8,c9,c10,c11,c12,c13,c14,c15,c16,c17,c18,c19,c20,TJ,ny,gW,gV,gU,gT,Mu,u28,Mt,Ms,Mr,u32,u33,Mq,Mo,Mn,Mm,Ml,Mk,Mj,Mi,Mh,Mg,u44,Mf,Me,Md,Mc,Mb,Ma,L9,L8,L6,L5,L4,L3,L0],defers:=D}
theorem gR{n v:Nat}{l:List ZN} {D:List Deferred}{w:World}{c1:Value} (hP:X6 l n)(hlb:bs.length=64)(uK:∀b∈bs,b<256)(hPt:Z7 w3 (R+1) 240 #[.pointer (some ⟨R,0,none⟩)])(hM:Z7 w3 Bm eh #[.slice (some ⟨go,0,none⟩) n co])(Y:Bm<R)(hgo:go<R)(hy:YQ R w3 (some ⟨gb,0,none⟩) bs)
 (aE1:∀(p:Nat) (x:ZN),l[p]? =some x->∀j,j<7->w3.cell? ⟨go,p*7+j,none⟩=(NF x)[j]?)
 (hS0:VX R M3 w3 (.slice (some ⟨gb,0,none⟩) 64 cb) 0 0 0 0 w) (hv:Zi (Yy bs) l 0=some v)
 (pz:∀(y7 Tj Ti Th Tg Tf Te Td Tc Tb Ta S8 S7 S6 S5 S4 S3 Rm S0 SZ SY SX SV SU SS SR SQ SP SN Rl SM SL:Value) (p a s:Nat) (w':World),VX R M3 w3 (.slice (some ⟨gb,0,none⟩) 64 cb) 0 p a s w'->Q0 (.panic (JX v)) {tmps:=#[.pointer (some ⟨Bm,0,none⟩),c1,c2,c3,c4,c5,.pointer (some ⟨R+1,0,none⟩),y7,c8,c9,c10,c11,c12,c13,c14,c15,c16,c17,c18,c19,c20,TJ,ny,gW,gV,gU,gT,Tj,Ti,Th,Tg,Tf,Te,Td,Tc,Tb,Ta,S8,S7,S6,S5,S4,S3,Rm,S0,SZ,SY,SX,SV,SU,SS,SR,SQ,SP,SN,Rl,SM,SL],defers:=D} w'):
 Code.wp prog (Code.loop ((Tryz.f65.body.bind WM).getD .skip)) Q0 {tmps:=#[.pointer (some ⟨Bm,0,none⟩),c1,c2,c3,c4,c5,.pointer (some ⟨R+1,0,none⟩),u7,c8,c9,c10,c11,c12,c13,c14,c15,c16,c17,c18,c19,c20,TJ,ny,gW,gV,gU,gT,Mu,u28,Mt,Ms,Mr,u32,u33,Mq,Mo,Mn,Mm,Ml,Mk,Mj,Mi,Mh,Mg,u44,Mf,Me,Md,Mc,Mb,Ma,L9,L8,L6,L5,L4,L3,L0],defers:=D} w:=by
 have hn:=hP.max;refine wp_loop (VmI c1 c2 c3 c4 c5 c8 c9 c10 c11 c12 c13 c14 c15 c16 c17 c18 c19 c20 TJ ny gW gV gU gT Bm R M3 n D l bs w3 (.slice (some ⟨gb,0,none⟩) 64 cb) v) (λ_ W=>ae0 R n W) ⟨0,0,0,⟨aR _,hP.pos,jD,hv,hS0⟩,u7,Mu,u28,Mt,Ms,Mr,u32,u33,Mq,Mo,Mn,Mm,Ml,Mk,Mj,Mi,Mh,Mg,u44,Mf,Me,Md,Mc,Mb,Ma,L9,L8,L6,L5,L4,L3,L0,rfl⟩ (λa' W A=> ?_);obtain⟨p,a,s,⟨U,Z,ha,hX,hS⟩,A⟩:=A;obtain⟨u7,A⟩:=A;obtain⟨Mu,A⟩:=A;obtain⟨u28,A⟩:=A;obtain⟨Mt,A⟩:=A;obtain⟨Ms,A⟩:=A;obtain⟨Mr,A⟩:=A;obtain⟨u32,A⟩:=A;obtain⟨u33,A⟩:=A;obtain⟨Mq,A⟩:=A;obtain⟨Mo,A⟩:=A;obtain⟨Mn,A⟩:=A;obtain⟨Mm,A⟩:=A;obtain⟨Ml,A⟩:=A;obtain⟨Mk,A⟩:=A;obtain⟨Mj,A⟩:=A;obtain⟨Mi,A⟩:=A;obtain⟨Mh,A⟩:=A;obtain⟨Mg,A⟩:=A;obtain⟨u44,A⟩:=A;obtain⟨Mf,A⟩:=A;obtain⟨Me,A⟩:=A;obtain⟨Md,A⟩:=A;obtain⟨Mc,A⟩:=A;obtain⟨Mb,A⟩:=A;obtain⟨Ma,A⟩:=A;obtain⟨L9,A⟩:=A;obtain⟨L8,A⟩:=A;obtain⟨L6,A⟩:=A;obtain⟨L5,A⟩:=A;obtain⟨L4,A⟩:=A;obtain⟨L3,A⟩:=A;obtain⟨L0,A⟩:=A;subst A;obtain⟨x,hx,C6⟩:=Hu hX;have lZ:=hP.ok p x hx;have vg:=hP.fit x (af hx);have vy:∀q b,Zi (Yy bs) (l.drop q) b=some v->q<n:=λq b hq=>by obtain⟨y,hy,_⟩:=Hu hq;have:=(au.1 hy).1;rwa [hP.len] at this
 have J:∀j,j<7->w3.cell? ⟨go,p*7+j,none⟩=((NF x).toArray:Array Value)[j]? :=λj hj=>by rw[aE1 p x hx j hj,ak]
 obtain⟨xc,xt,xf,T⟩:=x;obtain⟨hf0,vM,hf2,hf3⟩:=vg;obtain⟨_,kZ,hk2,hk3⟩:=lZ;dsimp only at C6 hf0 vM hf2 hf3 kZ hk2 hk3;rcases C6 with⟨rfl,C⟩|⟨rfl,C⟩|⟨rfl,C⟩|⟨rfl,C⟩|⟨hbr,C⟩
 ·have I:=vy _ _ C;have HA:=J6 uK T;exact JC (S1:=VX R M3 w3 (.slice (some ⟨gb,0,none⟩) 64 cb) 0 (p+1) (Yy bs T) (s+1)) (S2:=λ_ _=>False) (λ_ _=>rfl) (λwc h=>(uL (N:=R) hlb uK ⟨32,xt,xf,T⟩ (kZ rfl) jO wc (hy.below (h.px (aR R)) (aR R)) (ace hS.2.2.1) h).mono λ_ _ q=>.inl q) hPt hM Y hgo J Z hn U hS (λ_ _ _ _ _ _ _ _ _ _ _ _ _ _ _ _ _ _ _ _ _ _ _ _ _ _ _ _ _ _ _ _ W' h=>⟨⟨p+1,Yy bs T,s+1,⟨jO,I,HA,C,h⟩,_,_,_,_,_,_,_,_,_,_,_,_,_,_,_,_,_,_,_,_,_,_,_,_,_,_,_,_,_,_,_,_,rfl⟩,by rw[UA h,UA hS];omega⟩) (λ_ _ _ _ _ _ _ _ _ _ _ _ _ _ _ _ _ _ _ _ _ _ _ _ _ _ _ _ _ _ _ _ _ _ q=>False.elim q)
 ·have I:=vy _ _ C;have HA:a &&& T<4294967296:=aAb Nat.and_le_left ha;exact JC (S1:=VX R M3 w3 (.slice (some ⟨gb,0,none⟩) 64 cb) 0 (p+1) (a &&& T) (s+1)) (S2:=λ_ _=>False) (λ_ _=>rfl) (λwc h=>(iY ⟨84,xt,xf,T⟩ rfl wc h ha hf3).mono λ_ _ q=>.inl q) hPt hM Y hgo J Z hn U hS (λ_ _ _ _ _ _ _ _ _ _ _ _ _ _ _ _ _ _ _ _ _ _ _ _ _ _ _ _ _ _ _ _ W' h=>⟨⟨p+1,a &&& T,s+1,⟨jO,I,HA,C,h⟩,_,_,_,_,_,_,_,_,_,_,_,_,_,_,_,_,_,_,_,_,_,_,_,_,_,_,_,_,_,_,_,_,rfl⟩,by rw[UA h,UA hS];omega⟩) (λ_ _ _ _ _ _ _ _ _ _ _ _ _ _ _ _ _ _ _ _ _ _ _ _ _ _ _ _ _ _ _ _ _ _ q=>False.elim q)
 ·have I:=vy _ _ C;have HA:=ha;have:T<n-1-p:=hk2 rfl;exact JC (S1:=VX R M3 w3 (.slice (some ⟨gb,0,none⟩) 64 cb) 0 (p+1+T) (a) (s+1)) (S2:=λ_ _=>False) (λ_ _=>rfl) (λwc h=>(pq ⟨5,xt,xf,T⟩ (by show p+1+T<=10000;omega) wc h).mono λ_ _ q=>.inl q) hPt hM Y hgo J Z hn U hS (λ_ _ _ _ _ _ _ _ _ _ _ _ _ _ _ _ _ _ _ _ _ _ _ _ _ _ _ _ _ _ _ _ W' h=>⟨⟨p+1+T,a,s+1,⟨jO,I,HA,C,h⟩,_,_,_,_,_,_,_,_,_,_,_,_,_,_,_,_,_,_,_,_,_,_,_,_,_,_,_,_,_,_,_,_,rfl⟩,by rw[UA h,UA hS];omega⟩) (λ_ _ _ _ _ _ _ _ _ _ _ _ _ _ _ _ _ _ _ _ _ _ _ _ _ _ _ _ _ _ _ _ _ _ q=>False.elim q)
 ·subst C;exact JC (S1:=λ_=>False) (S2:=λx W'=>x=JX T/\VX R M3 w3 (.slice (some ⟨gb,0,none⟩) 64 cb) 0 (p+1) a (s+1) W') (λ_ _=>rfl) (λwc h=>(po ⟨6,xt,xf,T⟩ wc h).mono λ_ _ q=>.inr ⟨_,q.1,rfl,q.2⟩) hPt hM Y hgo J Z hn U hS (λ_ _ _ _ _ _ _ _ _ _ _ _ _ _ _ _ _ _ _ _ _ _ _ _ _ _ _ _ _ _ _ _ _ q=>False.elim q) (λ_ _ _ _ _ _ _ _ _ _ _ _ _ _ _ _ _ _ _ _ _ _ _ _ _ _ _ _ _ _ _ _ W' _ q=>by rw[q.1];exact pz _ _ _ _ _ _ _ _ _ _ _ _ _ _ _ _ _ _ _ _ _ _ _ _ _ _ _ _ _ _ _ _ _ _ _ W' q.2)
 ·have I:=vy _ _ C;have HA:=ha;have:xt<n-1-p/\xf<n-1-p:=hk3 hbr
  have hdf:PW xc=119:=by unfold YV at hbr;simp only[atb,ahd] at hbr;rcases hbr with((rfl|rfl)|rfl)|rfl<;>rfl
  unfold NF at J;dsimp only at J;rw[hdf] at J;obtain⟨PX,hPX⟩:∃q,p+1+(if YI xc a T=true then xt else xf)=q:=⟨_,rfl⟩;rw[hPX] at C I;have aL0:p+1<=PX:=jO;have fy:=λ(wc:World) (h:VX R M3 w3 (.slice (some ⟨gb,0,none⟩) 64 cb) 1 (p+1) a (s+1) wc)=>Ai ⟨xc,xt,xf,T⟩ hbr ⟨by show p+1+xt<=10000;omega,by show p+1+xf<=10000;omega⟩ wc h ha hf3
  simp only[NF,hdf,hPX] at fy;exact JC (S1:=VX R M3 w3 (.slice (some ⟨gb,0,none⟩) 64 cb) 0 (PX) (a) (s+1)) (S2:=λ_ _=>False) (λ_ _=>rfl) (λwc h=>(fy wc h).mono λ_ _ q=>.inl q) hPt hM Y hgo J Z hn U hS (λ_ _ _ _ _ _ _ _ _ _ _ _ _ _ _ _ _ _ _ _ _ _ _ _ _ _ _ _ _ _ _ _ W' h=>⟨⟨PX,a,s+1,⟨jO,I,HA,C,h⟩,_,_,_,_,_,_,_,_,_,_,_,_,_,_,_,_,_,_,_,_,_,_,_,_,_,_,_,_,_,_,_,_,rfl⟩,by rw[UA h,UA hS];omega⟩) (λ_ _ _ _ _ _ _ _ _ _ _ _ _ _ _ _ _ _ _ _ _ _ _ _ _ _ _ _ _ _ _ _ _ _ q=>False.elim q)
theorem od{n c b0 v:Nat}{ops:Value}{l:List ZN} (hP:X6 l n)(Z:bs.length=64)(Y:∀b∈bs,b<256)(hv:Zi (Yy bs) l 0=some v)(w:World)(hM:Z7 w Bm eh #[ops])(hO:w.ownsRow b0 UZ 7 ops n (l.flatMap NF))(hm:YQ N w (some ⟨g,off,none⟩) bs)(hN:N<=w.heap.size):
 Calls prog 65 #[.pointer (some ⟨Bm,0,none⟩),.slice (some ⟨g,off,none⟩) 64 c] w (Ae v w):=by
 have HP:=aT hP;have HV:=aT hv;have HLB:=aT Z;have jz:=aT Y;have hnp:=hP.pos;have hmx:=hP.max;obtain⟨go,co,rfl,hgo,_⟩:=World.ownsRow.form hO jO;have I:Hid (go<w.heap.size/\∀(p:Nat) (x:ZN),l[p]? =some x->∀j,j<7->w.cell? ⟨go,p*7+j,none⟩=(NF x)[j]?):=by
  have U:∀(p:Nat) (x:ZN),l[p]? =some x->∀j,j<7->w.cell? ⟨go,p*7+j,none⟩=(NF x)[j]? :=λp x hx j hj=>by obtain⟨g',e,_,hc⟩:=Ye NF 7 (λ_=>rfl) hP.len hO hx;cases e;exact hc j hj
  obtain⟨x0,hx0⟩:∃x,l[0]? =some x:=⟨_,aM (by rw[hP.len];omega)⟩;exact⟨afe _ _ (U 0 x0 hx0 0 jD),U⟩
 have HM:=aT hM;have hBm:=hM.lt;have HC:=aT (λ(W:World) (hb:Below w.heap.size w W)=>Ag (c:=c) Z jO W (hm.below hb hN) (aO hN hb.size));have Ek:=aT ((Z7.new w OY #[.int .u32 0,.int .i64 0,.slice none 0 0]).alloc (.cells #[.int .i64 0] FU));have HE1:Hid (Z7 ((w.alloc (.cells #[.int .u32 0,.int .i64 0,.slice none 0 0] OY)).alloc (.cells #[.int .i64 0] FU)) (w.heap.size+1) FU #[.int .i64 0]):=by have:=Z7.new (w.alloc (.cells #[.int .u32 0,.int .i64 0,.slice none 0 0] OY)) FU #[.int .i64 0];rwa [ah] at this
 have J:=aT (((aH w.heap.size w).alloc (aR _) (.cells #[.int .u32 0,.int .i64 0,.slice none 0 0] OY)).alloc jS (.cells #[.int .i64 0] FU));clear hP hv Z Y hO hm hM
 go_enter_defers func65,ntmps65
 go_upto_region 7 with fail;generalize (w.alloc (.cells #[.int .u32 0,.int .i64 0,.slice none 0 0] OY)).alloc (.cells #[.int .i64 0] FU)=w1 at*;go_wp2_with fail;refine(HC w1 J).mono ?_;rintro e A ⟨vb,rfl,D,hb⟩;obtain⟨gb,cb,rfl,hgb,_⟩:=World.ownsRow.form D jO;have HBY:=aT (OX HLB D);have XA:=aT (J.trans (hb.mono J.size));have Cg:=aT (Ek.below hb Ek.lt);have T:=aT (HE1.below hb HE1.lt);have RQ:w.heap.size+1<A.heap.size:=T.lt;clear hb D Ek HE1 HC J;have JA:=aT ((Z7.new A uM (FY (.slice (some ⟨gb,0,none⟩) 64 cb) 0 0 0 (.slice none 0 0))).alloc (.cells #[.pointer (some ⟨A.heap.size,0,none⟩)] 240));have Gs:Hid (Z7 ((A.alloc (.cells (FY (.slice (some ⟨gb,0,none⟩) 64 cb) 0 0 0 (.slice none 0 0)) uM)).alloc (.cells #[.pointer (some ⟨A.heap.size,0,none⟩)] 240)) (A.heap.size+1) 240 #[.pointer (some ⟨A.heap.size,0,none⟩)]):=by have:=Z7.new (A.alloc (.cells (FY (.slice (some ⟨gb,0,none⟩) 64 cb) 0 0 0 (.slice none 0 0)) uM)) 240 #[.pointer (some ⟨A.heap.size,0,none⟩)];rwa [ah] at this
 have C:=aT (((aH A.heap.size A).alloc (aR _) (.cells (FY (.slice (some ⟨gb,0,none⟩) 64 cb) 0 0 0 (.slice none 0 0)) uM)).alloc jS (.cells #[.pointer (some ⟨A.heap.size,0,none⟩)] 240));have Vj:=aT (XA.trans (C.mono XA.size));have tS:=aT (Cg.below C Cg.lt);have HE3:=aT (T.below C T.lt);have HY3:=aT (HBY.below C (aR _));clear HBY XA Cg T C;unfold FY at*;go_upto_region 8 with fail;generalize (A.alloc (.cells #[.slice (some ⟨gb,0,none⟩) 64 cb,.int .i64 0,.int .u32 0,.int .u32 0,.int .u32 0,.int .u32 0,.int .u32 0,.int .u32 0,.int .u32 0,.int .u32 0,.int .u32 0,.int .u32 0,.int .u32 0,.int .u32 0,.int .u32 0,.int .u32 0,.int .u32 0,.int .u32 0,.int .u32 0,.int .u32 0,.int .u32 0,.int .i64 0,.slice none 0 0] uM)).alloc (.cells #[.pointer (some ⟨A.heap.size,0,none⟩)] 240)=w3 at*;generalize A.heap.size=R at*;have HV0:Hid (VX R w3.heap.size w3 (.slice (some ⟨gb,0,none⟩) 64 cb) 0 0 0 0 w3):=⟨TG _ _,rfl,JA.lt,.slice none 0 0,0,[],aR _,JA,Yg _ _ _ _⟩;have hRw:w.heap.size+1<R:=RQ;have aE2:Hid (∀(p:Nat) (x:ZN),l[p]? =some x->∀j,j<7->w3.cell? ⟨go,p*7+j,none⟩=(NF x)[j]?):=λp x hx j hj=>(Vj.cell (p:=⟨go,p*7+j,none⟩) I.1).trans (I.2 p x hx j hj)
 have tY:=aT (HM.below Vj hBm);have aE3:go<R:=by have:=I.1;omega
 clear I HM JA;go_wp2_with fail;refine gR HP HLB jz Gs tY jO aE3 HY3 aE2 HV0 HV (λ_ _ _ _ _ _ _ _ _ _ _ _ _ _ _ _ _ _ _ _ _ _ _ _ _ _ _ _ _ _ _ _ p a s w' hs=> ?_);have gO:=hs.kept tS jO;have gE:=hs.kept HE3 jO;have gP:=hs.kept Gs jO;have gB:=Vj.trans (hs.px (N:=w.heap.size) jO);show Leaves prog _ _ (Ae v w) [_] (.panicking (JX v)) w';refine leaves_cons (f:=122) (args:=#[.pointer (some ⟨R+1,0,none⟩),.pointer (some ⟨w.heap.size,0,none⟩),.pointer (some ⟨w.heap.size+1,0,none⟩)]) jS (by simp[go_sem]) ?_;refine(Af _ _ _ _ _ _ _ _ hs gP gO gE).mono ?_;rintro e u' w'' ⟨rfl,rfl,HO9,HE9,fO⟩;obtain⟨la,ln,lc,hO9⟩:=HO9.out;obtain⟨k0,k1,k2⟩:=hO9.q3;have k3:=HE9.e0;exact⟨.tuple #[.agg #[.int .u32 v,.int .i64 s,.slice la ln lc],.int .i64 0],by simp[results,Tryz.results65,go_sem,k0,k1,k2,k3],s,la,ln,lc,rfl,gB.trans (fO w.heap.size jO (aR _) jO gB.size)⟩
theorem ug{n c v:Nat}{ad:Option Addr}{l:List ZN} (hP:X6 l n)(U:bs.length=64)(C:∀b∈bs,b<256)(hv:Zi (Yy bs) l 0=some v)(w:World)(hi:Jj N w ad l)(hm:YQ N w (some ⟨g,off,none⟩) bs)(hN:N<=w.heap.size):
 Calls prog 30 #[.slice ad n c,.slice (some ⟨g,off,none⟩) 64 cb] w (Ae v w):=by
 have HO:=aT (Z7.new w OY #[.int .u32 0,.int .i64 0,.slice none 0 0]);have T:=aT ((aH w.heap.size w).alloc (aR _) (.cells #[.int .u32 0,.int .i64 0,.slice none 0 0] OY));have HI:=aT (hi.below T hN);have HM:=aT (hm.below T hN);have HP:=aT hP;have HX:=aT (And.intro U (And.intro C hv));have J:N<=(w.alloc (.cells #[.int .u32 0,.int .i64 0,.slice none 0 0] OY)).heap.size:=aO hN T.size;clear hi hm hP U C hv;go_enter func30,ntmps30;go_upto_region 1 with fail;generalize w.alloc (.cells #[.int .u32 0,.int .i64 0,.slice none 0 0] OY)=w1 at*;go_wp2_with fail;refine(iX HP w1 HI J).mono ?_;rintro e w2 ⟨Bm,ops,rfl,hM,hO,hb⟩;have I:=aT (T.trans (hb.mono T.size));have D:=aT (HO.below hb HO.lt);have HR:=aT (od (c:=cb) HP HX.1 HX.2.1 HX.2.2 w2 hM hO (HM.below hb J) (aO J hb.size));clear hM hO hb HI HM T HO HX HP;go_wp2_with fail;refine HR.mono ?_;rintro e w3 ⟨s,Y,Z,lc,rfl,hb⟩;have Vj:=aT (I.trans (hb.mono I.size));have A:=aT (D.below hb D.lt);clear hb I D HR;have y0:=A.cell 0;have y1:=A.cell 1;have y2:=A.cell 2;have f0:=A.frozen 0;have f1:=A.frozen 1;have f2:=A.frozen 2;simp only[ak,aL,aF] at y0 y1 y2;go_wp2_with fail;have hF:=(((Vj.setCell (p:=⟨w.heap.size,0,none⟩) (aR _) (.int .u32 v)).setCell (p:=⟨w.heap.size,1,none⟩) (aR _) (.int .i64 s)).setCell (p:=⟨w.heap.size,2,none⟩) (aR _) (.slice Y Z lc));have bF:=((A.set 0 (.int .u32 v)).set 1 (.int .i64 s)).set 2 (.slice Y Z lc);obtain⟨e0,e1,e2⟩:=bF.q3;refine aag (v:=.tuple #[.agg #[.int .u32 v,.int .i64 s,.slice Y Z lc],.int .i64 0]) ?_ rfl ⟨s,Y,Z,lc,rfl,hF⟩;simp[results,Tryz.f30,go_sem,e0,e1,e2]
theorem FA{n L c gp op v:Nat}{l:List ZN} (D:X6 l n)(hL:L=n*8)(hc:L<=c)(J:bs.length=64)(C:∀b∈bs,b<256)(hv:Zi (Yy bs) l 0=some v)(w:World)(hp:YQ N w (some ⟨gp,op,none⟩) (YR l))(hm:YQ N w (some ⟨g,off,none⟩) bs)(hN:N<=w.heap.size):
 Calls prog 12 #[.slice (some ⟨gp,op,none⟩) L c,.slice (some ⟨g,off,none⟩) 64 cb] w λe w'=>e=.returned (.tuple #[.int .u32 v,.int .i64 0])/\Below w.heap.size w w':=by
 have T:=aT (qb D.len hL D.pos D.max D.fit hc w hp hN);have HP:=aT D;have ax1:=D.pos;have U:=aT (And.intro J (And.intro C hv));have HM:=aT hm;clear D hL J C hv hp hm;go_enter func12,ntmps12;go_wp2_with fail;refine T.mono ?_;rintro e w1 ⟨va,rfl,A,hb⟩;obtain⟨ga,ca,rfl,_,_⟩:=World.ownsRow.form A jO;have HB:=aT hb;have HR:=aT (ug (N:=w1.heap.size) (c:=ca) (cb:=cb) HP U.1 U.2.1 U.2.2 w1 (J3 HP.len A) (λi x hx=>by obtain⟨g',o',e,hl,h0⟩:=HM.below hb hN i x hx;exact⟨g',o',e,adf hl (aO hN hb.size),h0⟩) (aR _))
 clear A hb T HM U;go_wp2_with fail;refine HR.mono ?_;rintro e w2 ⟨s,Y,Z,lc,rfl,hb⟩;have I:=aT (HB.trans (hb.mono HB.size));have HO:=aT (Z7.new w2 OY #[.int .u32 v,.int .i64 s,.slice Y Z lc]);have Vj:=aT (I.alloc I.size (.cells #[.int .u32 v,.int .i64 s,.slice Y Z lc] OY));clear hb HR HB I;go_upto_region 5 with fail;generalize w2.alloc (.cells #[.int .u32 v,.int .i64 s,.slice Y Z lc] OY)=w3 at*;have y0:=HO.e0;go_wp2_with fail;go_ret2;exact⟨rfl,Vj⟩
end Go.Proofs.YtclgigmgbebhgaaGreatDoor
namespace Go.Proofs.YtclgigmgbebhgaaGreatDoor
open Tryz
open Go Go.Proofs Go.RowKit
theorem dK(k:Nat):XJ k<4294967296:=by unfold XJ QN Pk Pj Ph;split<;>(try split)<;>(try split)<;>decide
theorem xK{k nv:Nat}(h:nv<1073741824):whole k nv<4294967296:=by unfold whole V1;split<;>omega
theorem OS{N M:Nat}{W:World}{ad:Option Addr}{bs:List Nat}(h:YQ N W ad bs)(hN:N<=M):YQ M W ad bs:=λi x hx=>by
 obtain⟨g,off,e,hl,A⟩:=h i x hx;exact⟨g,off,e,adf hl hN,A⟩
theorem zG{k nv x0 x1 x2 x3 x4 x5:Nat}(A:nv<1073741824)(hx:∀x∈[x0,x1,x2,x3,x4,x5],x<Yf)(W:World):Calls prog 13 #[.agg #[.int .u32 ((whole k nv:Nat):Int),.int .u32 ((XJ k:Nat):Int),.int .u64 0,.int .u64 x0,.int .u64 x1,.int .u64 x2,.int .u64 x3,.int .u64 x4,.int .u64 x5],.bool false] W λe w'=>∃g c,e=.returned (.slice (some ⟨g,0,none⟩) 64 c)/\YQ w'.heap.size w' (some ⟨g,0,none⟩) (VG (whole k nv) (XJ k) 0 [x0,x1,x2,x3,x4,x5])/\Below W.heap.size W w':=by
 refine(zO (whole k nv) (XJ k) 0 x0 x1 x2 x3 x4 x5 (xK A) (dK k) jD (hx _ jS) (hx _ jS) (hx _ jS) (hx _ jS) (hx _ jS) (hx _ jS) W).mono ?_;rintro e w' ⟨v,rfl,hr,hb⟩;obtain⟨g,c,rfl⟩:=xO hr jD;exact⟨g,c,rfl,OX (by rw[GW];rfl) hr,hb⟩
theorem nZ{N gp m cp g c nw nt vv:Nat}{xs:List Nat}{out:List ZN}(I:X6 out m)(A:m*8<=cp)(C:xs.length=6)(J:Zi (Yy (VG nw nt 0 xs)) out 0=some vv)(W:World)(hN:N<=W.heap.size)(T:YQ N W (some ⟨gp,0,none⟩) (YR out))(D:YQ W.heap.size W (some ⟨g,0,none⟩) (VG nw nt 0 xs)):Calls prog 12 #[.slice (some ⟨gp,0,none⟩) (m*8) cp,.slice (some ⟨g,0,none⟩) 64 c] W λe w'=>e=.returned (.tuple #[.int .u32 vv,.int .i64 0])/\Below W.heap.size W w':=
 FA (N:=W.heap.size) I rfl A (by rw[GW,C]) (CK _ _ _ _) J W (OS T hN) D (aR _)
end Go.Proofs.YtclgigmgbebhgaaGreatDoor
namespace Go.Proofs.YtclgigmgbebhgaaGreatDoor.Z0
open Tryz
open Go Go.Proofs Go.RowKit Go.Deep
variable {a:Act} {K:Act->World->Prop} {Q:Exit->Act->World->Prop} {N:Nat} {P:Program} {W:World}
theorem Rh:∀(rs:List ZJ) (us:List Value) (j:Nat) (u:Value),us.length=rs.length->(Yi rs us)[j]? =some u->
 ∃i r A,rs[i]? =some r/\us[i]? =some A/\((j=i*4/\u=.string r.name)\/(j=i*4+1/\u=.int .i64 r.k)\/(j=i*4+2/\u=.int .i64 r.n)\/(j=i*4+3/\u=A))
 |[],us,j,u,_,h=>by simp[Yi] at h
 |r::rs,[],j,u,hl,h=>by simp at hl
 |r::rs,A::us,j,u,hl,h=>by
  have h:(LX r A++Yi rs us)[j]? =some u:=h
  match j,h with
  |0,h=>exact⟨0,r,A,rfl,rfl,.inl ⟨rfl,(ax h).symm⟩⟩
  |1,h=>exact⟨0,r,A,rfl,rfl,.inr (.inl ⟨rfl,(ax h).symm⟩)⟩
  |2,h=>exact⟨0,r,A,rfl,rfl,.inr (.inr (.inl ⟨rfl,(ax h).symm⟩))⟩
  |3,h=>exact⟨0,r,A,rfl,rfl,.inr (.inr (.inr ⟨rfl,(ax h).symm⟩))⟩
  |j+4,h=>
   have h:(Yi rs us)[j]? =some u:=h;obtain⟨i,J,C,D,T,I⟩:=Rh rs us j u (by simpa using hl) h;refine⟨i+1,J,C,D,T,?_⟩;rcases I with⟨e,h⟩|⟨e,h⟩|⟨e,h⟩|⟨e,h⟩;·exact .inl ⟨jO,h⟩
   ·exact .inr (.inl ⟨jO,h⟩)
   ·exact .inr (.inr (.inl ⟨jO,h⟩))
   ·exact .inr (.inr (.inr ⟨jO,h⟩))
theorem NJ:∀(rs:List ZJ) (us:List Value),us.length=rs.length->(Yi rs us).length=rs.length*4
 |[],us,_=>rfl
 |r::rs,[],hl=>by simp at hl
 |r::rs,u::us,hl=>by have:=NJ rs us (by simpa using hl);show(LX r u++Yi rs us).length=_;rw[ay,this,aj];show 4+_=_;omega
def I8(N:Nat)(W:World)(rs:List ZJ)(us:List Value):Prop:=us.length=rs.length/\∀(i:Nat) (r:ZJ) (u:Value),rs[i]? =some r->us[i]? =some u->∃ua uc,u=.slice ua r.conds.length uc/\Xv N W ua r.conds
theorem I8.below{M:Nat}{W':World}{rs:List ZJ}{us:List Value}(h:I8 N W rs us)(hb:Below M W W')(hN:N<=M):I8 N W' rs us:=⟨h.1,λi r u hr hu=>by
 obtain⟨ua,uc,e,hc⟩:=h.2 i r u hr hu;exact⟨ua,uc,e,hc.below hb hN⟩⟩
theorem I8.one{rs:List ZJ}{us:List Value}(h:I8 N W rs us):∀u∈Yi rs us,u.oneCell'=true:=by
 intro u hu;obtain⟨j,A,e⟩:=agb.1 hu;obtain⟨i,r,J,C,D,I⟩:=Rh rs us j u h.1 (by rw[aM A,e]);rcases I with⟨_,rfl⟩|⟨_,rfl⟩|⟨_,rfl⟩|⟨_,rfl⟩;·rfl
 ·rfl
 ·rfl
 ·obtain⟨ua,uc,rfl,_⟩:=h.2 i r u C D;rfl
theorem I8.snoc{rs:List ZJ}{us:List Value}{r:ZJ}{ua:Option Addr}{uc:Nat}(h:I8 N W rs us)(hc:Xv N W ua r.conds):I8 N W (rs++[r]) (us++[.slice ua r.conds.length uc]):=by
 refine⟨by rw[ay,ay,h.1];rfl,λi x u hx hu=> ?_⟩;by_cases hi:i<rs.length;·rw[abb hi] at hx;rw[abb (by rw[h.1];exact hi)] at hu;exact h.2 i x u hx hu
 ·rw[aae jO] at hx;rw[aae (by rw[h.1];omega),h.1] at hu;cases hk:i-rs.length with
  |zero=>
   rw[hk] at hx hu;simp only[aL,akf] at hx hu;subst hx hu;exact⟨ua,uc,rfl,hc⟩
  |succ k=>
   rw[hk] at hx;simp at hx
theorem zF{α:Type}(R:Nat->α)(n:Nat):∃l:List α,l.length=n/\∀j,j<n->l[j]? =some (R j):=
 ⟨(List.range n).map R,jS,λj A=>by simp[A]⟩
theorem Yd.us{n c:Nat} {a:Option Addr}{rs:List ZJ}(h:Yd N W (.slice a n c) rs):∃us,I8 N W rs us/\∀U,a=some U->∀j u,(Yi rs us)[j]? =some u->W.cell? (U.add j)=some u:=by
 obtain⟨a',c',e,h⟩:=h;obtain⟨rfl,rfl,rfl⟩:=Value.slice.inj e;have hx:∀i,i<rs.length->∃u:Value,∀r,rs[i]? =some r->∃g off ua uc,u=.slice ua r.conds.length uc/\a=some ⟨g,off,none⟩/\W.cell? ⟨g,off+i*4,none⟩=some (.string r.name)/\W.cell? ⟨g,off+i*4+1,none⟩=some (.int .i64 r.k)/\W.cell? ⟨g,off+i*4+2,none⟩=some (.int .i64 r.n)/\W.cell? ⟨g,off+i*4+3,none⟩=some u/\Xv N W ua r.conds:=by intro i hi;obtain⟨g,off,ua,uc,e,_,Z,D,C,T,h4⟩:=h i _ (aM hi);refine⟨.slice ua (rs[i]'hi).conds.length uc,λr hr=> ?_⟩;rw[aM hi] at hr;obtain rfl:=ax hr;exact⟨g,off,ua,uc,rfl,e,Z,D,C,T,h4⟩
 have J:∀i,∃u:Value,i<rs.length->∀r,rs[i]? =some r->∃g off ua uc,u=.slice ua r.conds.length uc/\a=some ⟨g,off,none⟩/\W.cell? ⟨g,off+i*4,none⟩=some (.string r.name)/\W.cell? ⟨g,off+i*4+1,none⟩=some (.int .i64 r.k)/\W.cell? ⟨g,off+i*4+2,none⟩=some (.int .i64 r.n)/\W.cell? ⟨g,off+i*4+3,none⟩=some u/\Xv N W ua r.conds:=λi=>by
  by_cases hi:i<rs.length;·obtain⟨u,hu⟩:=hx i hi;exact⟨u,λ_=>hu⟩
  ·exact⟨.nilFunc,λh=>absurd h hi⟩
 obtain⟨R,hR⟩:=Classical.axiomOfChoice J;obtain⟨us,hl,hu⟩:=zF R rs.length;have I:∀i r u,rs[i]? =some r->us[i]? =some u->∃g off ua uc,u=.slice ua r.conds.length uc/\a=some ⟨g,off,none⟩/\W.cell? ⟨g,off+i*4,none⟩=some (.string r.name)/\W.cell? ⟨g,off+i*4+1,none⟩=some (.int .i64 r.k)/\W.cell? ⟨g,off+i*4+2,none⟩=some (.int .i64 r.n)/\W.cell? ⟨g,off+i*4+3,none⟩=some u/\Xv N W ua r.conds:=by intro i r u hr A;have hi:=(au.1 hr).1;rw[hu i hi] at A;obtain rfl:=ax A;exact hR i hi r hr
 refine⟨us,⟨hl,λi r u hr A=> ?_⟩,λU Y j u hj=> ?_⟩;·obtain⟨_,_,ua,uc,D,_,_,_,_,_,C⟩:=I i r u hr A;exact⟨ua,uc,D,C⟩
 ·obtain⟨i,r,ui,D,C,T⟩:=Rh rs us j u hl hj;obtain⟨g,off,ua,uc,e1,e2,c0,c1,c2,c3,_⟩:=I i r ui D C;rw[Y] at e2;obtain rfl:=ax e2;rw[Addr.add_lit];rcases T with⟨rfl,rfl⟩|⟨rfl,rfl⟩|⟨rfl,rfl⟩|⟨rfl,rfl⟩;·exact c0
  ·rw[<-amd];exact c1
  ·rw[<-amd];exact c2
  ·rw[<-amd];exact c3
theorem Yd.ap3{lo t:Nat} {v:Value}{rs:List ZJ}{us:List Value}(ho:W.ownsRow lo t 4 v rs.length (Yi rs us))(hu:I8 N W rs us)(hN:N<=W.heap.size):Yd W.heap.size W v rs:=by
 rcases id ho.2 with⟨rfl,D⟩|⟨g,cap,J,rfl,_,C,_⟩;·obtain rfl:rs=[]:=ahf.1 D;exact⟨none,0,rfl,λi r hr=>by simp at hr⟩
 ·refine⟨_,_,rfl,λi r hr=> ?_⟩;have hi:=(au.1 hr).1;obtain⟨u,A⟩:∃u,us[i]? =some u:=⟨_,aM (by rw[hu.1];exact hi)⟩;obtain⟨c0,c1,c2,T⟩:=JP rs us i r u hr A;have Y:=(ho.cellAt (i*4) jO).trans c0;have Z:=(ho.cellAt (i*4+1) jO).trans c1;have U:=(ho.cellAt (i*4+2) jO).trans c2;have d3:=(ho.cellAt (i*4+3) jO).trans T;obtain⟨ua,uc,rfl,hc⟩:=hu.2 i r u hr A;refine⟨g,0,ua,uc,rfl,(aaa.1 C).1,?_,?_,?_,?_,?_⟩;·rw[aca];exact Y
  ·rw[aca];exact Z
  ·rw[aca];exact U
  ·rw[aca];exact d3
  ·intro k c hk;obtain⟨I,off,e,hl,rest⟩:=hc k c hk;exact⟨I,off,e,adf hl hN,rest⟩
def Cv(a:Option Addr)(n c:Nat):Prop:=(a=none/\n=0/\c=0)\/(∃ad,a=some ad/\n<=c)
theorem zD(W:World)(row:Option Nat):W.grownBy W row:=⟨rfl,rfl,rfl,aR _,λ_ _ _=>rfl⟩
theorem XO (w:World){o:Oper} (s x:Operand)(t:TypeId)
 (ho:o.op=.call {callee:=.builtin .append,args:=#[s,x],argTypes:=#[t,t]})
 (base:Nat) (e:TypeId) (i:TypeInfo) (z:Value) (size bytes:Nat) (ht:P.underlying t=some (.slice e)) (hi:P.info? e=some i) (hz:i.zero=some z)
 (I:i.size=size) (Z:i.bytes=bytes) (hzs:z.cells.size=size) (Y:0<size)
 (v:Value) (n:Nat) (xs:List Value) (hs:a.eval s=v) (A:w.ownsRow base e size v n xs)
 (pa:Option Addr) (m c:Nat) (news:List Value) (hx:a.eval x=.slice pa m c) (hf:Cv pa m c) (hl:news.length=m*size) (D:∀U,pa=some U->∀j u,news[j]? =some u->w.cell? (U.add j)=some u) (h1:∀u∈news,u.oneCell'=true)
 (h63:n+m<=maxLen) (C:(n+m)*bytes<=140737488355328) (J:base<=w.heap.size)
 (h:∀v' w',w'.ownsRow base e size v' (n+m) (xs++news)->w.grownBy w' v.ownBlock->K (a.put o.dst v') w'):Oper.wp P o a w K Q:=by
 rcases hf with⟨rfl,rfl,rfl⟩|⟨U,rfl,_⟩;·have hr:=run_append_owned_none (P:=P) w base t o.type e i size ht hi v n xs A;unfold Oper.wp execOp;simp only[ho,resolve,invoke,builtin,Sem.run_bind,Sem.run_pure,asa,List.map_toArray,aec,apb,hs,hx,hr];have T:news=[]:=ahf.1 (by rw[hl,Nat.zero_mul]);subst T;refine h v w ?_ (zD w _);rw[ade];exact A
 ·exact Ys w s x t ho base e i z size bytes ht hi hz I Z hzs Y v n xs hs A U m c news hx hl (D U rfl) h1 h63 C J h
theorem GP {o:Oper} (w:World)(t:TypeId){e:TypeId}{ie:TypeInfo}{sz:Nat}(ho:o.op=.buildSlice t 0 #[])(hu:P.underlying t=some (.slice e))(A:P.info? e=some ie)(hs:ie.size=sz)
 (h:K (a.put o.dst (.slice (some ⟨w.heap.size,0,none⟩) 0 0)) (w.alloc (.cells #[] e))):o.wp P a w K Q:=by
 have hr:(Instr.buildSlice t 0 #[]).run P w=.ok (.slice (some ⟨w.heap.size,0,none⟩) 0 0) (w.alloc (.cells #[] e)):=by
  have hz:Array.range 0=#[]:=by simp[Array.range]
  simp[Instr.buildSlice,ajb hu,sizeOf,typeInfo,A,Instr.fill,newRow,hz]
 unfold Oper.wp execOp;simp only[ho,Sem.run_bind,List.map_toArray,apb,hr,asa];exact h
theorem Z1 {B e s n m:Nat}{v:Value}{xs:List Value}(h:W.ownsRow B e s v n xs)(hm:n=m):∃a c,v=.slice a m c:=by
 subst hm;rcases h.2 with⟨rfl,rfl⟩|⟨g,c,_,rfl,_⟩;·exact⟨_,_,rfl⟩
 ·exact⟨_,_,rfl⟩
end Go.Proofs.YtclgigmgbebhgaaGreatDoor.Z0
namespace Go.Proofs.YtclgigmgbebhgaaGreatDoor
open Tryz
open Go Go.Proofs Go.RowKit
variable {sn sc nv:Nat} {sa:Option Addr} {W:World}
def xJ(pr:List NR)(l:List Z4.Z2)(k n:Int)(x:Bool)(ev:Int)(sa:Option Addr)(sn sc:Nat)(W:World):Prop:=ev=0->Z4.Zt l/\∃(out:List ZN) (m gp:Nat),sa=some ⟨gp,0,none⟩/\sn=m*8/\X6 out m/\m*8<=sc/\YQ W.heap.size W (some ⟨gp,0,none⟩) (YR out)/\Says out l x (XR k n) pr
theorem xJ.below{pr:List NR}{l:List Z4.Z2}{k n:Int}{x:Bool}{ev:Int}{W':World}(h:xJ pr l k n x ev sa sn sc W)(hb:Below W.heap.size W W'):xJ pr l k n x ev sa sn sc W':=λJ=>by
 obtain⟨U,out,m,A,D,Z,I,C,Y,T⟩:=h J;exact⟨U,out,m,A,D,Z,I,C,OS (Y.below hb (aR _)) hb.size,T⟩
def zB(pr:List NR)(l:List Z4.Z2)(k n:Int)(x:Bool)(w:World)(e:Ending)(w':World):Prop:=∃(sa:Option Addr) (sn sc:Nat) (z ev:Int),e=.returned (.tuple #[.agg #[.slice sa sn sc,.int .i64 0,.int .i64 z],.int .i64 ev])/\xJ pr l k n x ev sa sn sc w'/\Below w.heap.size w w'
theorem Cu{k n:Int}{x:Bool}{rs:List Z0.ZJ}{lo L:Nat}{v:Value}(sv:Value)(l:List Z4.Z2)(hL:rs.length=L)(A:L<=41)(C:∀r∈rs,r.name.size<=60/\r.conds.length<=12)(hn:∀r∈rs,∀c∈r.conds,Z0.Pv c)(hl:CN l)(w:World)(hp:Zh.Xb w)(hR:Z0.YW TR TC lo w v rs)(D:Z4.X2 w sv l):
 Calls prog 10 #[.agg #[.int .i64 k,.int .i64 n,.bool x,v],sv] w (zB (rs.map SG) l k n x w):=by
 refine(Cw (L:=L) (Cm:=6) sv l hL A (λr hr=>(C r hr).1) (λr hr=>(C r hr).2) (λJ r hr=>((TK J).2.2 r hr).2.1) jD hn (by unfold NT;omega) hl.1 hl.2 w hp hR D).mono ?_;rintro e w' (⟨z,ev,T,_,rfl,hb⟩|⟨hV,out,m,Y,cp,rfl,I,h2,U,Z,hb⟩);·exact⟨none,0,0,z,ev,rfl,λh=>absurd h T,hb⟩
 ·exact⟨_,_,_,0,0,rfl,λ_=>⟨hV.2.1,out,m,Y,rfl,rfl,I,h2,U,Z⟩,hb⟩
theorem nY{i:Nat}{l:List Z4.Z2}(h:Z4.X2 W (.slice sa sn sc) l)(hi:i<l.length):∃b off,sa=some ⟨b,off,none⟩/\b<W.heap.size/\∀q v,(l[i]!).cells[q]? =some v->W.cell? ⟨b,off+i*8+q,none⟩=some v:=by
 obtain⟨a,c,e,h⟩:=h;obtain⟨rfl,_,rfl⟩:=Value.slice.inj e;rcases h with rfl|⟨b,off,rfl,hb,hr⟩;·simp at hi
 ·exact⟨b,off,rfl,hb,hr i hi⟩
theorem nX{w:Nat->Nat}{x:Bool}{d a:Nat}{rs:List Z0.ZJ}{r:Z0.ZJ}{nm:ByteArray}(h:nm≠r.name):N3 w x d a ((rs++[r]).map SG) nm=N3 w x d a (rs.map SG) nm:=by
 rw[acf];show N3 w x d a (rs.map SG++[SG r]) nm=_;have hd:decide ((SG r).nm=nm)=false:=aee λe:r.name=nm=>h e.symm
 unfold N3 ofName;rw[ave];simp only[amf,List.filter_nil,hd,Bool.false_eq_true,if_false,ade]
theorem uf{l:List Z4.Z2}{i k:Nat}(A:Z4.Zt l)(hi:i<l.length)(hk:k<5)(C:0<=(l[i]!).num k):∃nv:Nat,(l[i]!).num k=(nv:Int)/\nv<1073741824:=by
 have h:=(Z4.fV (A i hi)).2.2.1.1 k hk;unfold Z4.Oo at h;exact⟨((l[i]!).num k).toNat,jO,jO⟩
theorem nW{r:Z4.Z2}{k:Nat}(hk:k<5):r.cells[1+k]? =some (.int .i64 (r.num k)):=by
 rcases (show k=0\/k=1\/k=2\/k=3\/k=4 from jO) with rfl|rfl|rfl|rfl|rfl<;>rfl
theorem Ct{P:Prop}{w w':World}{e:Ending}(C:P)(h:CO P w e w'):e=.returned (.bool true)/\Below w.heap.size w w':=by
 obtain⟨b,rfl,hb,A⟩:=h;rw[hb.2 C];exact⟨rfl,A⟩
theorem GN{P:Prop}{w w':World}{e:Ending}(C:¬P)(h:CO P w e w'):e=.returned (.bool false)/\Below w.heap.size w w':=by
 obtain⟨b,rfl,hb,A⟩:=h;cases b with
 |true=>exact absurd (hb.1 rfl) C
 |false=>exact⟨rfl,A⟩
theorem Cs{a b:ByteArray}(e:a.toList=b.toList):a=b:=by
 rw[aga,aga] at e;exact ByteArray.ext (Array.toList_inj.1 e)
def I7(k nv:Nat):List Nat:=VG (whole k nv) (XJ k) 0 [1,2,3,0,0,0]
theorem dJ{out:List ZN}{l:List Z4.Z2}{x:Bool}{d i k:Nat}{pr:List NR}(hs:Says out l x d pr)(hi:i<l.length)(hk:k<5)(hv:(l[i]!).num k=(nv:Int))(A:nv<1073741824):Zi (Yy (I7 k nv)) out 0=some (N3 (Yy (I7 k nv)) x d k pr (l[i]!).name):=
 hs _ (uo _ _ _ _) k i hk hi (by rw[hv];omega) (zN _ _ _ (dK k)) (by show Yy (VG (whole k nv) (XJ k) 0 [1,2,3,0,0,0]) 0=_;rw[uq _ _ _ (xK A),hv,Int.toNat_natCast])
theorem Cr{N gp m cp g c k vv:Nat}{out:List ZN}(D:X6 out m)(A:m*8<=cp)(I:Zi (Yy (I7 k nv)) out 0=some vv)(W:World)(hN:N<=W.heap.size)(J:YQ N W (some ⟨gp,0,none⟩) (YR out))(C:YQ W.heap.size W (some ⟨g,0,none⟩) (I7 k nv)):Calls prog 12 #[.slice (some ⟨gp,0,none⟩) (m*8) cp,.slice (some ⟨g,0,none⟩) 64 c] W λe w'=>e=.returned (.tuple #[.int .u32 vv,.int .i64 0])/\Below W.heap.size W w':=
 nZ D A rfl I W hN J C
theorem zA{k:Nat}(A:nv<1073741824)(W:World):Calls prog 13 #[.agg #[.int .u32 ((whole k nv:Nat):Int),.int .u32 ((XJ k:Nat):Int),.int .u64 0,.int .u64 1,.int .u64 2,.int .u64 3,.int .u64 0,.int .u64 0,.int .u64 0],.bool false] W λe w'=>∃g c,e=.returned (.slice (some ⟨g,0,none⟩) 64 c)/\YQ w'.heap.size w' (some ⟨g,0,none⟩) (I7 k nv)/\Below W.heap.size W w':=
 zG (x0:=1) (x1:=2) (x2:=3) (x3:=0) (x4:=0) (x5:=0) A (λx hx=>by simp only[abf,ajf,atg] at hx;unfold Yf;omega) W
theorem nV{k:Nat}(hk:k<5)(A:nv<1073741824)(W:World):Calls prog 14 #[.int .i64 k,.int .u32 nv,.agg #[.int .u64 1,.int .u64 2,.int .u64 3,.int .u64 0,.int .u64 0,.int .u64 0]] W λe w'=>e=.returned (.agg #[.int .u32 ((whole k nv:Nat):Int),.int .u32 ((XJ k:Nat):Int),.int .u64 0,.int .u64 1,.int .u64 2,.int .u64 3,.int .u64 0,.int .u64 0,.int .u64 0])/\Below W.heap.size W w':=
 og k nv 1 2 3 0 0 0 hk A W
end Go.Proofs.YtclgigmgbebhgaaGreatDoor
