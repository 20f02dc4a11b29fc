/- TopFirst: part 42: TopVm4 TopVm5 TopRun TopRunP TopFstP. -/
import Derived.Test.YtclgigmgbebhgaaGreatDoorF40
import Derived.Test.YtclgigmgbebhgaaGreatDoorF41
set_option linter.unusedVariables false
set_option linter.unusedSimpArgs false
set_option maxRecDepth 100000
set_option maxHeartbeats 16000000
namespace Go.Proofs.YtclgigmgbebhgaaGreatDoor
open Tryz
open Go Go.Proofs Go.RowKit Go.Shelf
variable {Q0:Exit->Act->World->Prop} {bs:List Nat} {Bm R M3 go co gb cb a N g off:Nat} {c2 c3 c4 c5 c8 c9 c10 c11 c12 c13 c14 c15 c16 c17 c18 c19 c20 Tt nD ir iq im il u7 Mi u28 Mh Mg Mf u32 u33 Me Md Mc Mb Ma L9 L8 L6 L5 L4 u44 L3 L0 LZ LY LX LW LV LU LS LR LQ LP LN:Value} {w3:World}
def WJ:Code->Option Code
 | .loop c=>some c
 | .seq a b=>match WJ a with
   |some c=>some c
   |none=>WJ b
 | .block _ c=>WJ c
 | .scope c=>WJ c
 | .cond _ a b=>match WJ a with
   |some c=>some c
   |none=>WJ b
 |_=>none
theorem Jp{n p s xt xf xk FN:Nat}{xc KN:Int}{S1:World->Prop}{S2:List PanicEntry->World->Prop}{D:List Deferred}{wr:World}{c1:Value}{K:Act->World->Prop} (hF:∀(v:Array Value) (w:World),Sem.run prog (callFunc FN v) w=.ok (.enter FN v) w)(hC:∀wc:World,VO R M3 w3 (.slice (some ⟨gb,0,none⟩) 64 cb) 1 (p+1) a (s+1) wc->Calls prog FN #[.pointer (some ⟨R,0,none⟩),.agg #[.int .u16 xc,.int .u8 xt,.int .u8 xf,.int .u32 xk,.func (.func FN) #[] #[],.int .i64 KN,.bool false]] wc λe w'=>(e=.returned (.tuple #[])/\S1 w')\/(∃x,e=.panicked x/\S2 x w'))(hP:Z7 w3 (R+1) 240 #[.pointer (some ⟨R,0,none⟩)])(hM:Z7 w3 Bm eL #[.slice (some ⟨go,0,none⟩) n co])(hMR:Bm<R)(hgo:go<R)
 (hx:∀j,j<7->w3.cell? ⟨go,p*7+j,none⟩=(#[.int .u16 xc,.int .u8 xt,.int .u8 xf,.int .u32 xk,.func (.func FN) #[] #[],.int .i64 KN,.bool false]:Array Value)[j]?) (Dx:p<n) (hn:n<=4096) (hsp:s<=p) (hS:VO R M3 w3 (.slice (some ⟨gb,0,none⟩) 64 cb) 0 p a s wr)
 (hK:∀(y7 S0 SZ SY SX SV SU SS SR SQ SP SN SM Y SL SJ SI SH SG Z SF SE SD SC SA Sy Sx Sw Sv Su Ss Sr:Value) (w':World),S1 w'->K {tmps:=#[.pointer (some ⟨Bm,0,none⟩),c1,c2,c3,c4,c5,.pointer (some ⟨R+1,0,none⟩),y7,c8,c9,c10,c11,c12,c13,c14,c15,c16,c17,c18,c19,c20,Tt,nD,ir,iq,im,il,S0,SZ,SY,SX,SV,SU,SS,SR,SQ,SP,SN,SM,Y,SL,SJ,SI,SH,SG,Z,SF,SE,SD,SC,SA,Sy,Sx,Sw,Sv,Su,Ss,Sr],defers:=D} w')
 (hQ:∀(y7 S0 SZ SY SX SV SU SS SR SQ SP SN SM Y SL SJ SI SH SG Z SF SE SD SC SA Sy Sx Sw Sv Su Ss Sr:Value) (w':World) (x:List PanicEntry),S2 x w'->Q0 (.panic x) {tmps:=#[.pointer (some ⟨Bm,0,none⟩),c1,c2,c3,c4,c5,.pointer (some ⟨R+1,0,none⟩),y7,c8,c9,c10,c11,c12,c13,c14,c15,c16,c17,c18,c19,c20,Tt,nD,ir,iq,im,il,S0,SZ,SY,SX,SV,SU,SS,SR,SQ,SP,SN,SM,Y,SL,SJ,SI,SH,SG,Z,SF,SE,SD,SC,SA,Sy,Sx,Sw,Sv,Su,Ss,Sr],defers:=D} w'):
 Code.wp prog ((Tryz.f65.body.bind WJ).getD .skip) (Exit.then K Q0) {tmps:=#[.pointer (some ⟨Bm,0,none⟩),c1,c2,c3,c4,c5,.pointer (some ⟨R+1,0,none⟩),u7,c8,c9,c10,c11,c12,c13,c14,c15,c16,c17,c18,c19,c20,Tt,nD,ir,iq,im,il,Mi,u28,Mh,Mg,Mf,u32,u33,Me,Md,Mc,Mb,Ma,L9,L8,L6,L5,L4,u44,L3,L0,LZ,LY,LX,LW,LV,LU,LS,LR,LQ,LP,LN],defers:=D} wr:=by
 have hR:=hS.2.2.1;have hPR:=hS.kept hP jO;have hMM:=hS.kept hM jO;have hB:=hS.oU (N:=R) (aR R);have I:Hid (∀j,j<7->wr.cell? ⟨go,p*7+j,none⟩=(#[.int .u16 xc,.int .u8 xt,.int .u8 xf,.int .u32 xk,.func (.func FN) #[] #[],.int .i64 KN,.bool false]:Array Value)[j]?):=λj hj=>(hB.cell (p:=⟨go,p*7+j,none⟩) hgo).trans (hx j hj)
 have c0':=I 0 jD;have c1':=I 1 jD;have uK:=I 2 jD;have c3':=I 3 jD;have c4':=I 4 jD;have tF:=I 5 jD;have c6':=I 6 jD;simp only[au,aM,aH,aec] at c0' c1' uK c3' c4' tF c6';have m0:=hMM.e0;have U:=hPR.e0;obtain⟨_,z1,_,_,_,_⟩:=hS.cells;have p0:=jZ p;have p1:(p:Int)<(n:Int):=jO;have HT:=aT (Z7.new wr UL #[.int .u16 xc,.int .u8 xt,.int .u8 xf,.int .u32 xk,.func (.func FN) #[] #[],.int .i64 KN,.bool false]);have T:=aT (hS.alloc (.cells #[.int .u16 xc,.int .u8 xt,.int .u8 xf,.int .u32 xk,.func (.func FN) #[] #[],.int .i64 KN,.bool false] UL)).drew;have sN:Hid (Z7 (wr.alloc (.cells #[.int .u16 xc,.int .u8 xt,.int .u8 xf,.int .u32 xk,.func (.func FN) #[] #[],.int .i64 KN,.bool false] UL)).drew wr.heap.size UL #[.int .u16 xc,.int .u8 xt,.int .u8 xf,.int .u32 xk,.func (.func FN) #[] #[],.int .i64 KN,.bool false]):=HT;have HP1:Hid (∀W q p a s,VO R M3 w3 (.slice (some ⟨gb,0,none⟩) 64 cb) q p a s W->Z7 W (R+1) 240 #[.pointer (some ⟨R,0,none⟩)]):=λW q p a s h=>h.kept hP jO
 have hlR:R<wr.heap.size:=hS.lt;have C:∀(A:Addr) (u:Value),wr.cell? A=some u->∀o,(wr.alloc o).cell? A=some u:=λA u hu o=>by rw[World.cell?_alloc_some wr A o (by rw[hu];rfl)];exact hu
 have e0:=C _ _ c0';have e1:=C _ _ c1';have e2:=C _ _ uK;have e3:=C _ _ c3';have e4:=C _ _ c4';have e5:=C _ _ tF;have e6:=C _ _ c6';have e7:=C _ _ m0;have e8:=C _ _ U;have e9:=C _ _ z1;have HKK:=aT hK;have HQQ:=aT hQ;have Fl:=aT hC;have HF:=aT hF;clear HT I C hP hM hx hS hPR hMM hB hK hQ hC hF
 conv=>arg 2;whnf
 go_wp2_with fail;go_region;clear c0' c1' uK c3' c4' tF c6' m0 U z1 e0 e1 e2 e3 e4 e5 e6 e7 e8 e9;generalize (wr.alloc (.cells #[.int .u16 xc,.int .u8 xt,.int .u8 xf,.int .u32 xk,.func (.func FN) #[] #[],.int .i64 KN,.bool false] UL)).drew=wa at*;have U:=(HP1 wa _ _ _ _ T).e0;obtain⟨z0,z1,z2,z3,z4,zf⟩:=T.cells;have f1:=zf 1;clear z0 z2 z3 z4 zf;have pw:=jW p;have sw:=jW s;have J:=aT (T.set 1 (.int .i64 ((p:Int)+1)) (q':=0) (p':=p+1) (a':=a) (s':=s) (λlv=>rfl) (λn hn=>hn));have mL:wr.heap.size≠R:=jO;generalize wr.heap.size=T9 at*;have Tp:=aT (sN.other (B':=R) mL 1 (.int .i64 ((p:Int)+1)));clear T sN;go_upto_region 11 with fail;generalize wa.setCell ⟨R,1,none⟩ (.int .i64 ((p:Int)+1))=wb at*;clear U z1 f1;have U:=(HP1 wb _ _ _ _ J).e0;obtain⟨z0,z1,z2,z3,z4,zf⟩:=J.cells;have f1:=zf 21;clear z0 z1 z2 z3 zf;have Gg:=aT (J.set 21 (.int .i64 ((s:Int)+1)) (q':=1) (p':=p+1) (a':=a) (s':=s+1) (λlv=>rfl) (λn hn=>jO));have dz:=aT (Tp.other (B':=R) mL 21 (.int .i64 ((s:Int)+1)));clear J Tp;go_upto_region 12 with fail;generalize wb.setCell ⟨R,21,none⟩ (.int .i64 ((s:Int)+1))=wc at*;clear U z4 f1;have U:=(HP1 wc _ _ _ _ Gg).e0;obtain⟨k0,k1,k2,k3,k4,k5,k6⟩:=dz.q7;have CK:=aT (Fl wc Gg);clear pw sw;go_wp2_with fail;rw[HF.out,Oper.upon_enter];refine CK.mono ?_;intro e wd he;have HE:=aT he;clear he CK U k0 k1 k2 k3 k4 k5 k6;rcases HE.out with⟨rfl,hs⟩|⟨x,rfl,hs⟩
 ·have tP:=aT hs;clear hs HE;go_wp2_with fail;refine HKK _ _ _ _ _ _ _ _ _ _ _ _ _ _ _ _ _ _ _ _ _ _ _ _ _ _ _ _ _ _ _ _ wd tP
 ·have tP:=aT hs;clear hs HE;go_wp2;refine HQQ _ _ _ _ _ _ _ _ _ _ _ _ _ _ _ _ _ _ _ _ _ _ _ _ _ _ _ _ _ _ _ _ wd x tP
def ae0(R n:Nat)(w:World):Nat:=n-(match w.cell? ⟨R,1,none⟩ with|some (.int _ z)=>z.toNat|_=>0)
theorem Uo{q p s n:Nat}{W:World}{vb:Value}(h:VO R M3 w3 vb q p a s W):ae0 R n W=n-p:=by
 unfold ae0;rw[h.cells.2.1];rfl
def VmR(R M3 n:Nat)(l:List ZN)(bs:List Nat)(w3:World)(vb:Value)(v:Nat)(p a s:Nat)(W:World):Prop:=s<=p/\p<n/\a<4294967296/\Zh (Y6 bs) (l.drop p) a=some v/\VO R M3 w3 vb 0 p a s W
def VmI(c1 c2 c3 c4 c5 c8 c9 c10 c11 c12 c13 c14 c15 c16 c17 c18 c19 c20 Tt nD ir iq im il:Value)(Bm R M3 n:Nat)(D:List Deferred)(l:List ZN)(bs:List Nat)(w3:World)(vb:Value)(v:Nat)(a':Act)(W:World):Prop:=∃p a s,VmR R M3 n l bs w3 vb v p a s W/\∃u7:Value,∃Mi:Value,∃u28:Value,∃Mh:Value,∃Mg:Value,∃Mf:Value,∃u32:Value,∃u33:Value,∃Me:Value,∃Md:Value,∃Mc:Value,∃Mb:Value,∃Ma:Value,∃L9:Value,∃L8:Value,∃L6:Value,∃L5:Value,∃L4:Value,∃u44:Value,∃L3:Value,∃L0:Value,∃LZ:Value,∃LY:Value,∃LX:Value,∃LW:Value,∃LV:Value,∃LU:Value,∃LS:Value,∃LR:Value,∃LQ:Value,∃LP:Value,∃LN:Value,a'={tmps:=#[.pointer (some ⟨Bm,0,none⟩),c1,c2,c3,c4,c5,.pointer (some ⟨R+1,0,none⟩),u7,c8,c9,c10,c11,c12,c13,c14,c15,c16,c17,c18,c19,c20,Tt,nD,ir,iq,im,il,Mi,u28,Mh,Mg,Mf,u32,u33,Me,Md,Mc,Mb,Ma,L9,L8,L6,L5,L4,u44,L3,L0,LZ,LY,LX,LW,LV,LU,LS,LR,LQ,LP,LN],defers:=D}
theorem ij{n v:Nat}{l:List ZN} {D:List Deferred}{w:World}{c1:Value} (hP:XP l n)(hlb:bs.length=64)(uF:∀b∈bs,b<256)(hPt:Z7 w3 (R+1) 240 #[.pointer (some ⟨R,0,none⟩)])(hM:Z7 w3 Bm eL #[.slice (some ⟨go,0,none⟩) n co])(hMR:Bm<R)(hgo:go<R)(hy:Yi R w3 (some ⟨gb,0,none⟩) bs)
 (aE0:∀(p:Nat) (x:ZN),l[p]? =some x->∀j,j<7->w3.cell? ⟨go,p*7+j,none⟩=(Nu x)[j]?)
 (hS0:VO R M3 w3 (.slice (some ⟨gb,0,none⟩) 64 cb) 0 0 0 0 w) (hv:Zh (Y6 bs) l 0=some v)
 (oW:∀(y7 S0 SZ SY SX SV SU SS SR SQ SP SN SM QZ SL SJ SI SH SG QY SF SE SD SC SA Sy Sx Sw Sv Su Ss Sr:Value) (p a s:Nat) (w':World),VO R M3 w3 (.slice (some ⟨gb,0,none⟩) 64 cb) 0 p a s w'->Q0 (.panic (JO v)) {tmps:=#[.pointer (some ⟨Bm,0,none⟩),c1,c2,c3,c4,c5,.pointer (some ⟨R+1,0,none⟩),y7,c8,c9,c10,c11,c12,c13,c14,c15,c16,c17,c18,c19,c20,Tt,nD,ir,iq,im,il,S0,SZ,SY,SX,SV,SU,SS,SR,SQ,SP,SN,SM,QZ,SL,SJ,SI,SH,SG,QY,SF,SE,SD,SC,SA,Sy,Sx,Sw,Sv,Su,Ss,Sr],defers:=D} w'):
 Code.wp prog (Code.loop ((Tryz.f65.body.bind WJ).getD .skip)) Q0 {tmps:=#[.pointer (some ⟨Bm,0,none⟩),c1,c2,c3,c4,c5,.pointer (some ⟨R+1,0,none⟩),u7,c8,c9,c10,c11,c12,c13,c14,c15,c16,c17,c18,c19,c20,Tt,nD,ir,iq,im,il,Mi,u28,Mh,Mg,Mf,u32,u33,Me,Md,Mc,Mb,Ma,L9,L8,L6,L5,L4,u44,L3,L0,LZ,LY,LX,LW,LV,LU,LS,LR,LQ,LP,LN],defers:=D} w:=by
 have hn:=hP.max;refine wp_loop (VmI c1 c2 c3 c4 c5 c8 c9 c10 c11 c12 c13 c14 c15 c16 c17 c18 c19 c20 Tt nD ir iq im il Bm R M3 n D l bs w3 (.slice (some ⟨gb,0,none⟩) 64 cb) v) (λ_ W=>ae0 R n W) ⟨0,0,0,⟨aR _,hP.pos,jD,hv,hS0⟩,u7,Mi,u28,Mh,Mg,Mf,u32,u33,Me,Md,Mc,Mb,Ma,L9,L8,L6,L5,L4,u44,L3,L0,LZ,LY,LX,LW,LV,LU,LS,LR,LQ,LP,LN,rfl⟩ (λa' W C=> ?_);obtain⟨p,a,s,⟨hsp,Dx,ha,hX,hS⟩,C⟩:=C;obtain⟨u7,C⟩:=C;obtain⟨Mi,C⟩:=C;obtain⟨u28,C⟩:=C;obtain⟨Mh,C⟩:=C;obtain⟨Mg,C⟩:=C;obtain⟨Mf,C⟩:=C;obtain⟨u32,C⟩:=C;obtain⟨u33,C⟩:=C;obtain⟨Me,C⟩:=C;obtain⟨Md,C⟩:=C;obtain⟨Mc,C⟩:=C;obtain⟨Mb,C⟩:=C;obtain⟨Ma,C⟩:=C;obtain⟨L9,C⟩:=C;obtain⟨L8,C⟩:=C;obtain⟨L6,C⟩:=C;obtain⟨L5,C⟩:=C;obtain⟨L4,C⟩:=C;obtain⟨u44,C⟩:=C;obtain⟨L3,C⟩:=C;obtain⟨L0,C⟩:=C;obtain⟨LZ,C⟩:=C;obtain⟨LY,C⟩:=C;obtain⟨LX,C⟩:=C;obtain⟨LW,C⟩:=C;obtain⟨LV,C⟩:=C;obtain⟨LU,C⟩:=C;obtain⟨LS,C⟩:=C;obtain⟨LR,C⟩:=C;obtain⟨LQ,C⟩:=C;obtain⟨LP,C⟩:=C;obtain⟨LN,C⟩:=C;subst C;obtain⟨x,hx,Y⟩:=Hf hX;have mz:=hP.ok p x hx;have uX:=hP.fit x (ag hx);have vh:∀q b,Zh (Y6 bs) (l.drop q) b=some v->q<n:=λq b hq=>by obtain⟨y,hy,_⟩:=Hf hq;have:=(ak.1 hy).1;rwa [hP.len] at this
 have T:∀j,j<7->w3.cell? ⟨go,p*7+j,none⟩=((Nu x).toArray:Array Value)[j]? :=λj hj=>by rw[aE0 p x hx j hj,au]
 obtain⟨xc,xt,xf,U⟩:=x;obtain⟨hf0,vE,hf2,hf3⟩:=uX;obtain⟨_,tS,hk2,hk3⟩:=mz;dsimp only at Y hf0 vE hf2 hf3 tS hk2 hk3;rcases Y with⟨rfl,I⟩|⟨rfl,I⟩|⟨rfl,I⟩|⟨rfl,I⟩|⟨Z,I⟩
 ·have J:=vh _ _ I;have HA:=JX uF U;exact Jp (S1:=VO R M3 w3 (.slice (some ⟨gb,0,none⟩) 64 cb) 0 (p+1) (Y6 bs U) (s+1)) (S2:=λ_ _=>False) (λ_ _=>rfl) (λwc h=>(uG (N:=R) hlb uF ⟨32,xt,xf,U⟩ (tS rfl) jO wc (hy.below (h.oU (aR R)) (aR R)) (acf hS.2.2.1) h).mono λ_ _ q=>.inl q) hPt hM hMR hgo T Dx hn hsp hS (λ_ _ _ _ _ _ _ _ _ _ _ _ _ _ _ _ _ _ _ _ _ _ _ _ _ _ _ _ _ _ _ _ W' h=>⟨⟨p+1,Y6 bs U,s+1,⟨jO,J,HA,I,h⟩,_,_,_,_,_,_,_,_,_,_,_,_,_,_,_,_,_,_,_,_,_,_,_,_,_,_,_,_,_,_,_,_,rfl⟩,by rw[Uo h,Uo hS];omega⟩) (λ_ _ _ _ _ _ _ _ _ _ _ _ _ _ _ _ _ _ _ _ _ _ _ _ _ _ _ _ _ _ _ _ _ _ q=>False.elim q)
 ·have J:=vh _ _ I;have HA:a &&& U<4294967296:=azb Nat.and_le_left ha;exact Jp (S1:=VO R M3 w3 (.slice (some ⟨gb,0,none⟩) 64 cb) 0 (p+1) (a &&& U) (s+1)) (S2:=λ_ _=>False) (λ_ _=>rfl) (λwc h=>(jq ⟨84,xt,xf,U⟩ rfl wc h ha hf3).mono λ_ _ q=>.inl q) hPt hM hMR hgo T Dx hn hsp hS (λ_ _ _ _ _ _ _ _ _ _ _ _ _ _ _ _ _ _ _ _ _ _ _ _ _ _ _ _ _ _ _ _ W' h=>⟨⟨p+1,a &&& U,s+1,⟨jO,J,HA,I,h⟩,_,_,_,_,_,_,_,_,_,_,_,_,_,_,_,_,_,_,_,_,_,_,_,_,_,_,_,_,_,_,_,_,rfl⟩,by rw[Uo h,Uo hS];omega⟩) (λ_ _ _ _ _ _ _ _ _ _ _ _ _ _ _ _ _ _ _ _ _ _ _ _ _ _ _ _ _ _ _ _ _ _ q=>False.elim q)
 ·have J:=vh _ _ I;have HA:=ha;have:U<n-1-p:=hk2 rfl;exact Jp (S1:=VO R M3 w3 (.slice (some ⟨gb,0,none⟩) 64 cb) 0 (p+1+U) (a) (s+1)) (S2:=λ_ _=>False) (λ_ _=>rfl) (λwc h=>(oT ⟨5,xt,xf,U⟩ (by show p+1+U<=10000;omega) wc h).mono λ_ _ q=>.inl q) hPt hM hMR hgo T Dx hn hsp hS (λ_ _ _ _ _ _ _ _ _ _ _ _ _ _ _ _ _ _ _ _ _ _ _ _ _ _ _ _ _ _ _ _ W' h=>⟨⟨p+1+U,a,s+1,⟨jO,J,HA,I,h⟩,_,_,_,_,_,_,_,_,_,_,_,_,_,_,_,_,_,_,_,_,_,_,_,_,_,_,_,_,_,_,_,_,rfl⟩,by rw[Uo h,Uo hS];omega⟩) (λ_ _ _ _ _ _ _ _ _ _ _ _ _ _ _ _ _ _ _ _ _ _ _ _ _ _ _ _ _ _ _ _ _ _ q=>False.elim q)
 ·subst I;exact Jp (S1:=λ_=>False) (S2:=λx W'=>x=JO U/\VO R M3 w3 (.slice (some ⟨gb,0,none⟩) 64 cb) 0 (p+1) a (s+1) W') (λ_ _=>rfl) (λwc h=>(oQ ⟨6,xt,xf,U⟩ wc h).mono λ_ _ q=>.inr ⟨_,q.1,rfl,q.2⟩) hPt hM hMR hgo T Dx hn hsp hS (λ_ _ _ _ _ _ _ _ _ _ _ _ _ _ _ _ _ _ _ _ _ _ _ _ _ _ _ _ _ _ _ _ _ q=>False.elim q) (λ_ _ _ _ _ _ _ _ _ _ _ _ _ _ _ _ _ _ _ _ _ _ _ _ _ _ _ _ _ _ _ _ W' _ q=>by rw[q.1];exact oW _ _ _ _ _ _ _ _ _ _ _ _ _ _ _ _ _ _ _ _ _ _ _ _ _ _ _ _ _ _ _ _ _ _ _ W' q.2)
 ·have J:=vh _ _ I;have HA:=ha;have:xt<n-1-p/\xf<n-1-p:=hk3 Z
  have hdf:Px xc=119:=by unfold YS at Z;simp only[asg,ahc] at Z;rcases Z with((rfl|rfl)|rfl)|rfl<;>rfl
  unfold Nu at T;dsimp only at T;rw[hdf] at T;obtain⟨PX,hPX⟩:∃q,p+1+(if YF xc a U=true then xt else xf)=q:=⟨_,rfl⟩;rw[hPX] at I J;have aL4:p+1<=PX:=jO;have fO:=λ(wc:World) (h:VO R M3 w3 (.slice (some ⟨gb,0,none⟩) 64 cb) 1 (p+1) a (s+1) wc)=>Ak ⟨xc,xt,xf,U⟩ Z ⟨by show p+1+xt<=10000;omega,by show p+1+xf<=10000;omega⟩ wc h ha hf3
  simp only[Nu,hdf,hPX] at fO;exact Jp (S1:=VO R M3 w3 (.slice (some ⟨gb,0,none⟩) 64 cb) 0 (PX) (a) (s+1)) (S2:=λ_ _=>False) (λ_ _=>rfl) (λwc h=>(fO wc h).mono λ_ _ q=>.inl q) hPt hM hMR hgo T Dx hn hsp hS (λ_ _ _ _ _ _ _ _ _ _ _ _ _ _ _ _ _ _ _ _ _ _ _ _ _ _ _ _ _ _ _ _ W' h=>⟨⟨PX,a,s+1,⟨jO,J,HA,I,h⟩,_,_,_,_,_,_,_,_,_,_,_,_,_,_,_,_,_,_,_,_,_,_,_,_,_,_,_,_,_,_,_,_,rfl⟩,by rw[Uo h,Uo hS];omega⟩) (λ_ _ _ _ _ _ _ _ _ _ _ _ _ _ _ _ _ _ _ _ _ _ _ _ _ _ _ _ _ _ _ _ _ _ q=>False.elim q)
theorem nK{n c b0 v:Nat}{ops:Value}{l:List ZN} (hP:XP l n)(hlb:bs.length=64)(Z:∀b∈bs,b<256)(hv:Zh (Y6 bs) l 0=some v)(w:World)(hM:Z7 w Bm eL #[ops])(hO:w.ownsRow b0 UL 7 ops n (l.flatMap Nu))(hm:Yi N w (some ⟨g,off,none⟩) bs)(hN:N<=w.heap.size):
 Calls prog 65 #[.pointer (some ⟨Bm,0,none⟩),.slice (some ⟨g,off,none⟩) 64 c] w (Ag v w):=by
 have HP:=aT hP;have HV:=aT hv;have HLB:=aT hlb;have aE1:=aT Z;have hnp:=hP.pos;have hmx:=hP.max;obtain⟨go,co,rfl,hgo,_⟩:=World.ownsRow.form hO jO;have T:Hid (go<w.heap.size/\∀(p:Nat) (x:ZN),l[p]? =some x->∀j,j<7->w.cell? ⟨go,p*7+j,none⟩=(Nu x)[j]?):=by
  have Y:∀(p:Nat) (x:ZN),l[p]? =some x->∀j,j<7->w.cell? ⟨go,p*7+j,none⟩=(Nu x)[j]? :=λp x hx j hj=>by obtain⟨g',e,_,hc⟩:=X9 Nu 7 (λ_=>rfl) hP.len hO hx;cases e;exact hc j hj
  obtain⟨x0,hx0⟩:∃x,l[0]? =some x:=⟨_,aL (by rw[hP.len];omega)⟩;exact⟨afg _ _ (Y 0 x0 hx0 0 jD),Y⟩
 have HM:=aT hM;have hBm:=hM.lt;have HC:=aT (λ(W:World) (hb:Below w.heap.size w W)=>Ai (c:=c) hlb jO W (hm.below hb hN) (aO hN hb.size));have xu:=aT ((Z7.new w OM #[.int .u32 0,.int .i64 0,.slice none 0 0]).alloc (.cells #[.int .i64 0] FP));have HE1:Hid (Z7 ((w.alloc (.cells #[.int .u32 0,.int .i64 0,.slice none 0 0] OM)).alloc (.cells #[.int .i64 0] FP)) (w.heap.size+1) FP #[.int .i64 0]):=by have:=Z7.new (w.alloc (.cells #[.int .u32 0,.int .i64 0,.slice none 0 0] OM)) FP #[.int .i64 0];rwa [aj] at this
 have U:=aT (((aG w.heap.size w).alloc (aR _) (.cells #[.int .u32 0,.int .i64 0,.slice none 0 0] OM)).alloc jS (.cells #[.int .i64 0] FP));clear hP hv hlb Z hO hm hM
 go_enter_defers func65,ntmps65
 go_upto_region 7 with fail;generalize (w.alloc (.cells #[.int .u32 0,.int .i64 0,.slice none 0 0] OM)).alloc (.cells #[.int .i64 0] FP)=w1 at*;go_wp2_with fail;refine(HC w1 U).mono ?_;rintro e C ⟨vb,rfl,D,hb⟩;obtain⟨gb,cb,rfl,hgb,_⟩:=World.ownsRow.form D jO;have HBY:=aT (OL HLB D);have XX:=aT (U.trans (hb.mono U.size));have wu:=aT (xu.below hb xu.lt);have J:=aT (HE1.below hb HE1.lt);have Ro:w.heap.size+1<C.heap.size:=J.lt;clear hb D xu HE1 HC U;have Jm:=aT ((Z7.new C uH (FT (.slice (some ⟨gb,0,none⟩) 64 cb) 0 0 0 (.slice none 0 0))).alloc (.cells #[.pointer (some ⟨C.heap.size,0,none⟩)] 240));have Gm:Hid (Z7 ((C.alloc (.cells (FT (.slice (some ⟨gb,0,none⟩) 64 cb) 0 0 0 (.slice none 0 0)) uH)).alloc (.cells #[.pointer (some ⟨C.heap.size,0,none⟩)] 240)) (C.heap.size+1) 240 #[.pointer (some ⟨C.heap.size,0,none⟩)]):=by have:=Z7.new (C.alloc (.cells (FT (.slice (some ⟨gb,0,none⟩) 64 cb) 0 0 0 (.slice none 0 0)) uH)) 240 #[.pointer (some ⟨C.heap.size,0,none⟩)];rwa [aj] at this
 have I:=aT (((aG C.heap.size C).alloc (aR _) (.cells (FT (.slice (some ⟨gb,0,none⟩) 64 cb) 0 0 0 (.slice none 0 0)) uH)).alloc jS (.cells #[.pointer (some ⟨C.heap.size,0,none⟩)] 240));have Uy:=aT (XX.trans (I.mono XX.size));have tM:=aT (wu.below I wu.lt);have HE3:=aT (J.below I J.lt);have HY3:=aT (HBY.below I (aR _));clear HBY XX wu J I;unfold FT at*;go_upto_region 8 with fail;generalize (C.alloc (.cells #[.slice (some ⟨gb,0,none⟩) 64 cb,.int .i64 0,.int .u32 0,.int .u32 0,.int .u32 0,.int .u32 0,.int .u32 0,.int .u32 0,.int .u32 0,.int .u32 0,.int .u32 0,.int .u32 0,.int .u32 0,.int .u32 0,.int .u32 0,.int .u32 0,.int .u32 0,.int .u32 0,.int .u32 0,.int .u32 0,.int .u32 0,.int .i64 0,.slice none 0 0] uH)).alloc (.cells #[.pointer (some ⟨C.heap.size,0,none⟩)] 240)=w3 at*;generalize C.heap.size=R at*;have HV0:Hid (VO R w3.heap.size w3 (.slice (some ⟨gb,0,none⟩) 64 cb) 0 0 0 0 w3):=⟨Tq _ _,rfl,Jm.lt,.slice none 0 0,0,[],aR _,Jm,Ya _ _ _ _⟩;have hRw:w.heap.size+1<R:=Ro;have aE2:Hid (∀(p:Nat) (x:ZN),l[p]? =some x->∀j,j<7->w3.cell? ⟨go,p*7+j,none⟩=(Nu x)[j]?):=λp x hx j hj=>(Uy.cell (p:=⟨go,p*7+j,none⟩) T.1).trans (T.2 p x hx j hj)
 have Fm:=aT (HM.below Uy hBm);have aE3:go<R:=by have:=T.1;omega
 clear T HM Jm;go_wp2_with fail;refine ij HP HLB aE1 Gm Fm jO aE3 HY3 aE2 HV0 HV (λ_ _ _ _ _ _ _ _ _ _ _ _ _ _ _ _ _ _ _ _ _ _ _ _ _ _ _ _ _ _ _ _ p a s w' hs=> ?_);have gO:=hs.kept tM jO;have gE:=hs.kept HE3 jO;have gP:=hs.kept Gm jO;have gB:=Uy.trans (hs.oU (N:=w.heap.size) jO);show Leaves prog _ _ (Ag v w) [_] (.panicking (JO v)) w';refine leaves_cons (f:=122) (args:=#[.pointer (some ⟨R+1,0,none⟩),.pointer (some ⟨w.heap.size,0,none⟩),.pointer (some ⟨w.heap.size+1,0,none⟩)]) jS (by simp[go_sem]) ?_;refine(Ah _ _ _ _ _ _ _ _ hs gP gO gE).mono ?_;rintro e u' w'' ⟨rfl,rfl,HO9,HE9,tK⟩;obtain⟨la,ln,lc,hO9⟩:=HO9.out;obtain⟨k0,k1,k2⟩:=hO9.q3;have k3:=HE9.e0;exact⟨.tuple #[.agg #[.int .u32 v,.int .i64 s,.slice la ln lc],.int .i64 0],by simp[results,Tryz.results65,go_sem,k0,k1,k2,k3],s,la,ln,lc,rfl,gB.trans (tK w.heap.size jO (aR _) jO gB.size)⟩
theorem tV{n c v:Nat}{ad:Option Addr}{l:List ZN} (hP:XP l n)(Y:bs.length=64)(D:∀b∈bs,b<256)(hv:Zh (Y6 bs) l 0=some v)(w:World)(hi:I4 N w ad l)(hm:Yi N w (some ⟨g,off,none⟩) bs)(hN:N<=w.heap.size):
 Calls prog 30 #[.slice ad n c,.slice (some ⟨g,off,none⟩) 64 cb] w (Ag v w):=by
 have HO:=aT (Z7.new w OM #[.int .u32 0,.int .i64 0,.slice none 0 0]);have U:=aT ((aG w.heap.size w).alloc (aR _) (.cells #[.int .u32 0,.int .i64 0,.slice none 0 0] OM));have HI:=aT (hi.below U hN);have HM:=aT (hm.below U hN);have HP:=aT hP;have HX:=aT (And.intro Y (And.intro D hv));have T:N<=(w.alloc (.cells #[.int .u32 0,.int .i64 0,.slice none 0 0] OM)).heap.size:=aO hN U.size;clear hi hm hP Y D hv;go_enter func30,ntmps30;go_upto_region 1 with fail;generalize w.alloc (.cells #[.int .u32 0,.int .i64 0,.slice none 0 0] OM)=w1 at*;go_wp2_with fail;refine(jn HP w1 HI T).mono ?_;rintro e w2 ⟨Bm,ops,rfl,hM,hO,hb⟩;have I:=aT (U.trans (hb.mono U.size));have J:=aT (HO.below hb HO.lt);have HR:=aT (nK (c:=cb) HP HX.1 HX.2.1 HX.2.2 w2 hM hO (HM.below hb T) (aO T hb.size));clear hM hO hb HI HM U HO HX HP;go_wp2_with fail;refine HR.mono ?_;rintro e w3 ⟨s,la,ln,Z,rfl,hb⟩;have Uy:=aT (I.trans (hb.mono I.size));have C:=aT (J.below hb J.lt);clear hb I J HR;have y0:=C.cell 0;have y1:=C.cell 1;have y2:=C.cell 2;have f0:=C.frozen 0;have f1:=C.frozen 1;have f2:=C.frozen 2;simp only[au,aM,aH] at y0 y1 y2;go_wp2_with fail;have hF:=(((Uy.setCell (p:=⟨w.heap.size,0,none⟩) (aR _) (.int .u32 v)).setCell (p:=⟨w.heap.size,1,none⟩) (aR _) (.int .i64 s)).setCell (p:=⟨w.heap.size,2,none⟩) (aR _) (.slice la ln Z));have bF:=((C.set 0 (.int .u32 v)).set 1 (.int .i64 s)).set 2 (.slice la ln Z);obtain⟨e0,e1,e2⟩:=bF.q3;refine aaf (v:=.tuple #[.agg #[.int .u32 v,.int .i64 s,.slice la ln Z],.int .i64 0]) ?_ rfl ⟨s,la,ln,Z,rfl,hF⟩;simp[results,Tryz.f30,go_sem,e0,e1,e2]
theorem Fw{n L c gp op v:Nat}{l:List ZN} (I:XP l n)(hL:L=n*8)(hc:L<=c)(T:bs.length=64)(D:∀b∈bs,b<256)(hv:Zh (Y6 bs) l 0=some v)(w:World)(hp:Yi N w (some ⟨gp,op,none⟩) (Yz l))(hm:Yi N w (some ⟨g,off,none⟩) bs)(hN:N<=w.heap.size):
 Calls prog 12 #[.slice (some ⟨gp,op,none⟩) L c,.slice (some ⟨g,off,none⟩) 64 cb] w λe w'=>e=.returned (.tuple #[.int .u32 v,.int .i64 0])/\Below w.heap.size w w':=by
 have U:=aT (pR I.len hL I.pos I.max I.fit hc w hp hN);have HP:=aT I;have ax1:=I.pos;have Y:=aT (And.intro T (And.intro D hv));have HM:=aT hm;clear I hL T D hv hp hm;go_enter func12,ntmps12;go_wp2_with fail;refine U.mono ?_;rintro e w1 ⟨va,rfl,C,hb⟩;obtain⟨ga,ca,rfl,_,_⟩:=World.ownsRow.form C jO;have Z:=aT hb;have HR:=aT (tV (N:=w1.heap.size) (c:=ca) (cb:=cb) HP Y.1 Y.2.1 Y.2.2 w1 (JU HP.len C) (λi x hx=>by obtain⟨g',o',e,hl,h0⟩:=HM.below hb hN i x hx;exact⟨g',o',e,adg hl (aO hN hb.size),h0⟩) (aR _))
 clear C hb U HM Y;go_wp2_with fail;refine HR.mono ?_;rintro e w2 ⟨s,la,ln,lc,rfl,hb⟩;have J:=aT (Z.trans (hb.mono Z.size));have HO:=aT (Z7.new w2 OM #[.int .u32 v,.int .i64 s,.slice la ln lc]);have Uy:=aT (J.alloc J.size (.cells #[.int .u32 v,.int .i64 s,.slice la ln lc] OM));clear hb HR Z J;go_upto_region 5 with fail;generalize w2.alloc (.cells #[.int .u32 v,.int .i64 s,.slice la ln lc] OM)=w3 at*;have y0:=HO.e0;go_wp2_with fail;go_ret2;exact⟨rfl,Uy⟩
end Go.Proofs.YtclgigmgbebhgaaGreatDoor
namespace Go.Proofs.YtclgigmgbebhgaaGreatDoor
open Tryz
open Go Go.Proofs Go.RowKit
variable {xs:Array Value} {A O M2 V:Int} {nv N x0 x1 x2 x3 x4 x5 m:Nat} {sl:Value} {W w:World}
theorem ek(k:Nat):Zb k<4294967296:=by unfold Zb Qy O7 O6 O5;split<;>(try split)<;>(try split)<;>decide
theorem xO{k:Nat}(h:nv<1073741824):whole k nv<4294967296:=by unfold whole VT;split<;>omega
theorem zI{M:Nat} {ad:Option Addr}{bs:List Nat}(h:Yi N W ad bs)(hN:N<=M):Yi M W ad bs:=λi x hx=>by
 obtain⟨g,off,e,hl,C⟩:=h i x hx;exact⟨g,off,e,adg hl hN,C⟩
theorem zH{k:Nat}(C:nv<1073741824)(hx:∀x∈[x0,x1,x2,x3,x4,x5],x<YN)(W:World):Calls prog 13 #[.agg #[.int .u32 ((whole k nv:Nat):Int),.int .u32 ((Zb k:Nat):Int),.int .u64 0,.int .u64 x0,.int .u64 x1,.int .u64 x2,.int .u64 x3,.int .u64 x4,.int .u64 x5],.bool false] W λe w'=>∃g c,e=.returned (.slice (some ⟨g,0,none⟩) 64 c)/\Yi w'.heap.size w' (some ⟨g,0,none⟩) (Yc (whole k nv) (Zb k) 0 [x0,x1,x2,x3,x4,x5])/\Below W.heap.size W w':=by
 refine(zQ (whole k nv) (Zb k) 0 x0 x1 x2 x3 x4 x5 (xO C) (ek k) jD (hx _ jS) (hx _ jS) (hx _ jS) (hx _ jS) (hx _ jS) (hx _ jS) W).mono ?_;rintro e w' ⟨v,rfl,hr,hb⟩;obtain⟨g,c,rfl⟩:=xU hr jD;exact⟨g,c,rfl,OL (by rw[GQ];rfl) hr,hb⟩
theorem Ct{gp cp g c nw nt vv:Nat}{xs:List Nat}{out:List ZN}(U:XP out m)(C:m*8<=cp)(D:xs.length=6)(I:Zh (Y6 (Yc nw nt 0 xs)) out 0=some vv)(W:World)(hN:N<=W.heap.size)(J:Yi N W (some ⟨gp,0,none⟩) (Yz out))(T:Yi W.heap.size W (some ⟨g,0,none⟩) (Yc nw nt 0 xs)):Calls prog 12 #[.slice (some ⟨gp,0,none⟩) (m*8) cp,.slice (some ⟨g,0,none⟩) 64 c] W λe w'=>e=.returned (.tuple #[.int .u32 vv,.int .i64 0])/\Below W.heap.size W w':=
 Fw (N:=W.heap.size) U rfl C (by rw[GQ,D]) (CI _ _ _ _) I W (zI J hN) T (aR _)
theorem ae1{wA wB wD wE wF wG:World}{c0 c1 c2 c3 c4 c5:Array Value}{t0 t1 t2 t3 t4 t5:Nat}(hA:w.alloc (.cells c0 t0)=wA)(C:wA.alloc (.cells c1 t1)=wB)(I:wB.alloc (.cells c2 t2)=wD)(J:wD.alloc (.cells c3 t3)=wE)(hF:wE.alloc (.cells c4 t4)=wF)(D:wF.alloc (.cells c5 t5)=wG):
 Z7 wG w.heap.size t0 c0/\Z7 wG (w.heap.size+1) t1 c1/\Z7 wG (w.heap.size+1+1) t2 c2/\Z7 wG (w.heap.size+1+1+1) t3 c3/\Z7 wG (w.heap.size+1+1+1+1) t4 c4/\Z7 wG (w.heap.size+1+1+1+1+1) t5 c5/\Below w.heap.size w wG/\wG.heap.size=w.heap.size+6:=by
 have s1:wA.heap.size=w.heap.size+1:=by rw[<-hA,aj]
 have Z:wB.heap.size=w.heap.size+1+1:=by rw[<-C,aj,s1]
 have U:wD.heap.size=w.heap.size+1+1+1:=by rw[<-I,aj,Z]
 have s4:wE.heap.size=w.heap.size+1+1+1+1:=by rw[<-J,aj,U]
 have s5:wF.heap.size=w.heap.size+1+1+1+1+1:=by rw[<-hF,aj,s4]
 have s6:wG.heap.size=w.heap.size+6:=by rw[<-D,aj,s5]
 have T:Below wF.heap.size wF wG:=by rw[<-D];exact Yx wF _
 have Y:Below wE.heap.size wE wG:=by
  have:Below wE.heap.size wE wF:=by rw[<-hF];exact Yx wE _
  exact this.trans (T.mono this.size)
 have b3:Below wD.heap.size wD wG:=by
  have:Below wD.heap.size wD wE:=by rw[<-J];exact Yx wD _
  exact this.trans (Y.mono this.size)
 have b2:Below wB.heap.size wB wG:=by
  have:Below wB.heap.size wB wD:=by rw[<-I];exact Yx wB _
  exact this.trans (b3.mono this.size)
 have b1:Below wA.heap.size wA wG:=by
  have:Below wA.heap.size wA wB:=by rw[<-C];exact Yx wA _
  exact this.trans (b2.mono this.size)
 have b0:Below w.heap.size w wG:=by
  have:Below w.heap.size w wA:=by rw[<-hA];exact Yx w _
  exact this.trans (b1.mono this.size)
 refine⟨?_,?_,?_,?_,?_,?_,b0,s6⟩
 ·have h:Z7 wA w.heap.size t0 c0:=by rw[<-hA];exact Z7.new w _ _
  exact h.below b1 jO
 ·have h:Z7 wB (w.heap.size+1) t1 c1:=by rw[<-C,<-s1];exact Z7.new wA _ _
  exact h.below b2 jO
 ·have h:Z7 wD (w.heap.size+1+1) t2 c2:=by rw[<-I,<-Z];exact Z7.new wB _ _
  exact h.below b3 jO
 ·have h:Z7 wE (w.heap.size+1+1+1) t3 c3:=by rw[<-J,<-U];exact Z7.new wD _ _
  exact h.below Y jO
 ·have h:Z7 wF (w.heap.size+1+1+1+1) t4 c4:=by rw[<-hF,<-s4];exact Z7.new wE _ _
  exact h.below T jO
 ·rw[<-D,<-s5];exact Z7.new wF _ _
theorem Sj {b t:Nat} (h:Z7 W b t #[.int .i64 A,.int .i64 O,.int .u64 M2,.int .u64 V]):ZX.U0 W.heap.size W (some ⟨b,0,none⟩) [⟨A,O,M2,V⟩]:=λi c hc=>by
 have hi:i=0:=by have:=(ak.1 hc).1;simpa using this
 subst hi;simp only[aM,ahf] at hc;subst hc;exact⟨b,0,rfl,h.lt,h.cell 0,h.cell 1,h.cell 2,h.cell 3⟩
theorem OE{u:Option Addr}:ZX.U0 N W u []:=λi c hc=>by simp at hc
theorem Si {b t c:Nat}{r q:ZX.Zo}{ua qa:Option Addr}{uc qc:Nat}(h:Z7 W b t #[.string r.name,.int .i64 r.k,.int .i64 r.n,.slice ua r.conds.length uc,.string q.name,.int .i64 q.k,.int .i64 q.n,.slice qa q.conds.length qc])(hr:ZX.U0 W.heap.size W ua r.conds)(C:ZX.U0 W.heap.size W qa q.conds):ZX.VV W.heap.size W (.slice (some ⟨b,0,none⟩) 2 c) [r,q]:=⟨_,_,rfl,λj x hx=>by
 have D:j<2:=by have:=(ak.1 hx).1;simpa using this
 rcases (show j=0\/j=1 from jO) with rfl|rfl;·simp only[aM,ahf] at hx;subst hx;exact⟨b,0,ua,uc,rfl,h.lt,h.cell 0,h.cell 1,h.cell 2,h.cell 3,hr⟩
 ·simp only[aH,aM,ahf] at hx;subst hx;exact⟨b,0,qa,qc,rfl,h.lt,h.cell 4,h.cell 5,h.cell 6,h.cell 7,C⟩⟩
theorem zG{a:Option Addr}{c:Nat}{r q:ZX.Zo}(h:ZX.VV N W (.slice a 2 c) [r,q]):ZX.VV N W (.slice a 1 c) [r]:=by
 obtain⟨a',T,D,h⟩:=h;obtain⟨rfl,rfl⟩:a=a'/\c=T:=by injection D with J U C;exact⟨J,C⟩
 refine⟨_,_,rfl,λj x hx=> ?_⟩;have I:j=0:=by have:=(ak.1 hx).1;simpa using this
 subst I;exact h 0 x (by simpa using hx)
theorem QT {b t:Nat}{r:Z4.Z1}(h:Z7 W b t #[.string r.name,.int .i64 r.n0,.int .i64 r.n1,.int .i64 r.n2,.int .i64 r.n3,.int .i64 r.n4,.int .i64 r.Yp,.int .i64 r.sub]):Z4.Xv W (.slice (some ⟨b,0,none⟩) 1 1) [r]:=⟨_,_,rfl,.inr ⟨b,0,rfl,h.lt,λj D q v hv=>by
 have C:j=0:=by simpa using D
 subst C;have e:=h.cell q;rw[show 0+0*8+q=q from jO];refine e.trans ?_;rw[<-hv];simp[Z4.Z1.cells]⟩⟩
theorem zF(j:Nat)(Z:j<=5)(o m v T Y C I U J D:Int)(ho:1<=o/\o<=7)(hx:[T,Y,C,I,U,J][j]? =some D)(hr:o=7\/m=0)(w:World):
 Calls prog 18 #[.agg #[.int .i64 j,.int .i64 o,.int .u64 m,.int .u64 v],.agg #[.int .u64 T,.int .u64 Y,.int .u64 C,.int .u64 I,.int .u64 U,.int .u64 J]] w λe w'=>e=.returned (.bool (ZJ.Ww o m v D))/\Below w.heap.size w w':=by
 have hR:ZJ.Yf j o m=true:=acb ⟨jO,jO,jO,jO,hr⟩;have:o=1\/o=2\/o=3\/o=4\/o=5\/o=6\/o=7:=jO;rcases this with rfl|rfl|rfl|rfl|rfl|rfl|rfl;·exact ZJ.Sq (n:=0) rfl jD rfl (λ_ _=>rfl) ZJ.lL j Z m v T Y C I U J D hx hR w
 ·exact ZJ.Sq (n:=1) rfl jD rfl (λ_ _=>rfl) ZJ.lK j Z m v T Y C I U J D hx hR w
 ·exact ZJ.Sq (n:=2) rfl jD rfl (λ_ _=>rfl) ZJ.lJ j Z m v T Y C I U J D hx hR w
 ·exact ZJ.Sq (n:=3) rfl jD rfl (λ_ _=>rfl) ZJ.lI j Z m v T Y C I U J D hx hR w
 ·exact ZJ.Sq (n:=4) rfl jD rfl (λ_ _=>rfl) ZJ.lH j Z m v T Y C I U J D hx hR w
 ·exact ZJ.Sq (n:=5) rfl jD rfl (λ_ _=>rfl) ZJ.lG j Z m v T Y C I U J D hx hR w
 ·exact ZJ.Sq (n:=6) rfl jD rfl (λ_ _=>rfl) ZJ.lF j Z m v T Y C I U J D hx hR w
theorem Cs{o v x:Nat}(ho:1<=o/\o<=7)(hm:m<YN)(hx:x<YN):ZJ.Ww (o:Int) (m:Int) (v:Int) (x:Int)=Gx o m v x:=by
 have:o=1\/o=2\/o=3\/o=4\/o=5\/o=6\/o=7:=jO;rcases this with rfl|rfl|rfl|rfl|rfl|rfl|rfl
 ·show((x:Int) == (v:Int))=(x == v);rw[ajd];simp;omega
 ·show((x:Int) != (v:Int))=(x != v);rw[ajd];simp;omega
 ·show decide ((x:Int)<(v:Int))=decide (x<v);simp
 ·show decide ((x:Int)<=(v:Int))=decide (x<=v);simp
 ·show decide ((v:Int)<(x:Int))=decide (v<x);simp
 ·show decide ((v:Int)<=(x:Int))=decide (v<=x);simp
 ·show(bits BinOp.and IntKind.u64 (x:Int) (m:Int) == (v:Int))=((x &&& m) == v);rw[bits_and_u64_nat x m hx hm,ajd];generalize x &&& m=q;simp;omega
theorem Cr{k n:Int}{x:Bool}{rs:List ZX.Zo}{lo L Cm:Nat}{v:Value}(sv:Value)(l:List Z4.Z1)(hL:rs.length=L)(Xo:L<=41)(T:∀r∈rs,r.name.size<=60)(hcs:∀r∈rs,r.conds.length<=12)(ac3:Cm<=12)(hn:∀r∈rs,∀c∈r.conds,ZX.WK c)(I:Tx L Cm<=10000)(U:l.length<=40)(J:∀r∈l,r.name.size<=60)(w:World)(hp:ZJ.Xr w)(hR:ZX.Zg TR TC lo w v rs)(D:Z4.Xv w sv l)(hrg:Vn k n x rs=true)(hT:Z4.ZA l)(Y:∀ev,RD l (rs.map X3) [] ev->ev≠0):
 Calls prog 10 #[.agg #[.int .i64 k,.int .i64 n,.bool x,v],sv] w λe w'=>JM (OH (Vn k n x rs) l (rs.map X3)) ((rs.map X3).any (Xf l)) L Cm w e w':=by
 obtain⟨a,c,hv⟩:=hR.slice;rw[hL] at hv;subst hv;obtain⟨sa,sc,hsv,yJ⟩:=id D;subst hsv;have hI:=hR.toI;have hlen:(rs.map X3).length=L:=by rw[aab,hL]
 have hVr:∀W,Below w.heap.size w W->Calls prog 75 #[.agg #[.int .i64 k,.int .i64 n,.bool x,.slice a L c]] W λe w'=>e=.returned (.bool (Vn k n x rs))/\Below W.heap.size W w':=λW hb=>
  ZX.JC (p:=⟨k,n,x,rs⟩) ⟨by show rs.length<=_;omega,λr hr=>⟨aO (T r hr) jD,aO (hcs r hr) jD⟩⟩ W (hR.below hb)
 have Z:Vn k n x rs=true->∀r∈rs.map X3,r.nm.size<=1000/\r.cs.length<=1000/\∀c∈r.cs,c.right:=λhr r hm=>by
  obtain⟨d,hd,rfl⟩:=ah.1 hm;refine⟨aO (T d hd) jD,?_,λc hc=> ?_⟩;·show(d.conds.map Sk).length<=_;rw[aab];exact aO (hcs d hd) jD
  ·obtain⟨q,hq,rfl⟩:=ah.1 (show c∈d.conds.map Sk from hc);exact(Jr (((Tu hr).2.2 d hd).2.2 q hq) (hn d hd q hq)).2.2.2.2
 refine(GZ (V:=False) (C:=OH (Vn k n x rs) l (rs.map X3)) (N:=w.heap.size) (L:=L) (c:=c) (Cm:=Cm) (a:=a) (pr:=rs.map X3) (k:=k) (n:=n) (x:=x) sa sc l (λh=>h.elim) jO I w (λh=>h.elim) (aR _) jO D
  (λW hb=>by
    refine(Js (uf:=Vn k n x rs) (N:=w.heap.size) (L:=L) (c:=c) (a:=a) (pr:=rs.map X3) (k:=k) (n:=n) (x:=x) sa sc l (λ_=>hlen) jO W (λhr=>(MJ hI hr hn).below hb (aR _)) hb.size U (λr hr=>aO (J r hr) jD) (D.below hb) (hp.below hb) (λW' hb'=>hVr W' (hb.trans (hb'.mono hb.size))) Z).mono ?_;rintro e w' ⟨z,ev,rfl,hC,hb2⟩;refine⟨z,ev,rfl,hC,λh0=> ?_,hb2⟩;rcases hC.2 hrg with⟨_,h2⟩|⟨_,h2⟩;·exact absurd hT h2
    ·exact Y ev h2 h0)
  (λh=>h.elim) (λh=>h.elim) (λh=>h.elim) (λh=>h.elim) jO (λh=>h.elim) (λh=>h.elim)).mono ?_
 rintro e w' (h|⟨h,_⟩);·exact h
 ·exact h.elim
abbrev TDc:Nat:=27
abbrev TDx:Nat:=24
structure zD(w:World)(S:Nat)(A O M2 V:Int)(xs:Array Value)(sl:Value)(W:World):Prop where
 c:Z7 W w.heap.size TDc #[.int .i64 A,.int .i64 O,.int .u64 M2,.int .u64 V]
 x:Z7 W (w.heap.size+1) TDx xs
 t:Z7 W S 40 #[.string ⟨#[111,112,101,110]⟩,.int .i64 2,.int .i64 2,.int .i64 5,.int .i64 7,.int .i64 9,.int .i64 0,.int .i64 0]
 d:Z7 W (S+1) TDc #[.int .i64 A,.int .i64 O,.int .u64 M2,.int .u64 V]
 rx:Z7 W (S+1+1) zT #[.string ⟨#[111,112,101,110]⟩,.int .i64 4,.int .i64 13,.slice (some ⟨S+1,0,none⟩) 1 1]
 ry:Z7 W (S+1+1+1) zT #[.string ⟨#[111,112,101,110]⟩,.int .i64 7,.int .i64 0,.slice none 0 0]
 p:Z7 W (S+1+1+1+1+1) TDp #[.int .i64 1,.int .i64 0,.bool true,sl]
 b:Below w.heap.size w W
 s:w.heap.size+1<S
theorem zD.to{W':World}{S:Nat} (h:zD w S A O M2 V xs sl W)(hb:Below W.heap.size W W'):zD w S A O M2 V xs sl W':=
 ⟨h.c.below hb h.c.lt,h.x.below hb h.x.lt,h.t.below hb h.t.lt,h.d.below hb h.d.lt,h.rx.below hb h.rx.lt,h.ry.below hb h.ry.lt,h.p.below hb h.p.lt,h.b.trans (hb.mono h.b.size),h.s⟩
theorem zD.Ll {S:Nat} (h:zD w S A O M2 V xs sl W)(u:Value):zD w S A O M2 V xs u (W.setCell ⟨S+1+1+1+1+1,3,none⟩ u):=
 ⟨h.c.other (by have:=h.s;omega) 3 u,h.x.other (by have:=h.s;omega) 3 u,h.t.other jO 3 u,h.d.other jO 3 u,h.rx.other jO 3 u,h.ry.other jO 3 u,h.p.set 3 u,h.b.setCell (p:=⟨S+1+1+1+1+1,3,none⟩) (by have:=h.s;show w.heap.size<=S+1+1+1+1+1;omega) u,h.s⟩
theorem Fv {k:Nat}(T:Vu ⟨A,O,M2,V⟩=true)(hn:ZX.WK ⟨A,O,M2,V⟩)(hx:∀x∈[x0,x1,x2,x3,x4,x5],x<YN)(w:World):
 Calls prog 18 #[.agg #[.int .i64 A,.int .i64 O,.int .u64 M2,.int .u64 V],.agg #[.int .u64 ((seen k x0:Nat):Int),.int .u64 ((seen k x1:Nat):Int),.int .u64 ((seen k x2:Nat):Int),.int .u64 ((seen k x3:Nat):Int),.int .u64 ((seen k x4:Nat):Int),.int .u64 ((seen k x5:Nat):Int)]] w λe w'=>e=.returned (.bool (tX k [x0,x1,x2,x3,x4,x5] ⟨A,O,M2,V⟩))/\Below w.heap.size w w':=by
 have hr:=agc (QU T);dsimp only at hr;obtain⟨hm,hv⟩:=hn;dsimp only at hm hv;obtain⟨j,rfl⟩:∃j:Nat,A=(j:Int):=⟨A.toNat,jO⟩;obtain⟨o,rfl⟩:∃j:Nat,O=(j:Int):=⟨O.toNat,jO⟩;obtain⟨m,rfl⟩:∃j:Nat,M2=(j:Int):=⟨M2.toNat,jO⟩;obtain⟨v,rfl⟩:∃j:Nat,V=(j:Int):=⟨V.toNat,jO⟩;have U:j<=5:=jO;have I:m<YN:=by unfold YN;omega
 obtain⟨D,C⟩:∃D,[x0,x1,x2,x3,x4,x5][j]? =some D:=⟨_,aL (show j<6 from jO)⟩;have J:seen k D<YN:=by
  have:=hx _ (ag C);unfold seen;split;·exact azb (Nat.mod_le _ _) this
  ·exact this
 have hi:[((seen k x0:Nat):Int),((seen k x1:Nat):Int),((seen k x2:Nat):Int),((seen k x3:Nat):Int),((seen k x4:Nat):Int),((seen k x5:Nat):Int)][j]? =some ((seen k D:Nat):Int):=by
  have h:([x0,x1,x2,x3,x4,x5].map λy=>((seen k y:Nat):Int))[j]? =some ((seen k D:Nat):Int):=by rw[acd,C];rfl
  exact h
 refine(zF j U (o:Int) m v _ _ _ _ _ _ _ ⟨jO,jO⟩ hi (by rcases hr.2.2.2.2 with h|h;exact .inl h;exact .inr h) w).mono ?_;rintro e w' ⟨rfl,hb⟩;refine⟨?_,hb⟩;have Y:tX k [x0,x1,x2,x3,x4,x5] ⟨(j:Int),(o:Int),(m:Int),(v:Int)⟩=Gx o m v (seen k D):=by show Gx ((o:Int)).toNat ((m:Int)).toNat ((v:Int)).toNat (seen k ([x0,x1,x2,x3,x4,x5].getD ((j:Int)).toNat 0))=_;rw[aub,aub,aub,aub,aee,C];rfl
 rw[Y,Cs ⟨jO,jO⟩ I J]
def MI(A O M2 V:Int):ZX.Zo:=⟨⟨#[111,112,101,110]⟩,4,13,[⟨A,O,M2,V⟩]⟩
def RA:ZX.Zo:=⟨⟨#[111,112,101,110]⟩,7,0,[]⟩
section
variable {A O M2 V:Int}
theorem ok1(C:Vu ⟨A,O,M2,V⟩=true):∀c∈[(⟨A,O,M2,V⟩:ZX.YO)],Vu c=true:=λc hc=>by
 simp only[aaa] at hc;subst hc;exact C
theorem cn1(hn:ZX.WK ⟨A,O,M2,V⟩):∀c∈[(⟨A,O,M2,V⟩:ZX.YO)],ZX.WK c:=λc hc=>by
 simp only[aaa] at hc;subst hc;exact hn
theorem zB(C:Vu ⟨A,O,M2,V⟩=true){rs:List ZX.Zo}(hl:rs.length<=2)(hm:∀r∈rs,r=MI A O M2 V\/r=RA):Vn 1 0 true rs=true:=
 tY Fx.1 (aO hl jD) (λr hr=>by
  rcases hm r hr with rfl|rfl;·exact⟨GJ,Fx.2.2.1,(show 1<=6 from jD),λc hc=>QU (ok1 C c hc)⟩
  ·exact⟨GJ,Fx.2.2.2,(show 0<=6 from jD),λc hc=>by cases hc⟩)
theorem MH{rs:List ZX.Zo}(hm:∀r∈rs,r=MI A O M2 V\/r=RA):∀r∈rs,r.name.size<=60/\r.conds.length<=1:=λr hr=>by
 rcases hm r hr with rfl|rfl;·exact⟨(show 4<=60 from jD),(show 1<=1 from jD)⟩
 ·exact⟨(show 4<=60 from jD),(show 0<=1 from jD)⟩
theorem nJ(hn:ZX.WK ⟨A,O,M2,V⟩){rs:List ZX.Zo}(hm:∀r∈rs,r=MI A O M2 V\/r=RA):∀r∈rs,∀c∈r.conds,ZX.WK c:=λr hr c hc=>by
 rcases hm r hr with rfl|rfl;·exact cn1 hn c hc
 ·cases hc
theorem ej:∀r∈[Za],r.name.size<=60:=λr hr=>by
 simp only[aaa] at hr;subst hr;exact(show 4<=60 from jD)
theorem Fu{N K c:Nat}{ad:Option Addr}{rs:List ZX.Zo}(hm:∀r∈rs,r=MI A O M2 V\/r=RA)(C:rs.length=K)(D:K<=2)(w:World)(hN:N<=w.heap.size)(h:ZX.VV N w (.slice ad K c) rs):
 Calls prog 11 #[.agg #[.int .i64 1,.int .i64 0,.bool true,.slice ad K c]] w λe w'=>∃u,e=.returned (.agg #[.int .i64 1,.int .i64 0,.bool true,u])/\ZX.Zg TR TC w.heap.size w' u rs/\Below w.heap.size w w':=
 iW C jO (λr hr=>aO (MH hm r hr).2 jD) w hN h
theorem ei{K:Nat}(C:K<=2):Tx K 1<=76:=by
 unfold Tx;omega
theorem Cq{K lo:Nat}{rs:List ZX.Zo}{v sv:Value}(D:Vu ⟨A,O,M2,V⟩=true)(hn:ZX.WK ⟨A,O,M2,V⟩)(hm:∀r∈rs,r=MI A O M2 V\/r=RA)(T:rs.length=K)(J:K<=2)(hc:∀ev,RD [Za] (rs.map X3) [] ev->ev=0)(w:World)(hp:ZJ.Xr w)(U:ZX.Zg TR TC lo w v rs)(C:Z4.Xv w sv [Za]):
 Calls prog 10 #[.agg #[.int .i64 1,.int .i64 0,.bool true,v],sv] w λe w'=>JL (rs.map X3) [Za] 1 0 true w e w':=by
 have I:=ei J;refine(Cv (L:=K) (Cm:=1) sv [Za] T jO (λr hr=>(MH hm r hr).1) (λr hr=>aO (MH hm r hr).2 jD) (λ_ r hr=>(MH hm r hr).2) jD (nJ hn hm) jO jD ej w hp U C).mono ?_;intro e w' h;exact ad8 (zB D jO hm) OG rfl hc jO h
theorem nI{K lo:Nat}{rs:List ZX.Zo}{v sv:Value}(D:Vu ⟨A,O,M2,V⟩=true)(hn:ZX.WK ⟨A,O,M2,V⟩)(hm:∀r∈rs,r=MI A O M2 V\/r=RA)(J:rs.length=K)(T:K<=2)(hc:∀ev,RD [Za] (rs.map X3) [] ev->ev=15)(w:World)(hp:ZJ.Xr w)(U:ZX.Zg TR TC lo w v rs)(C:Z4.Xv w sv [Za]):
 Calls prog 10 #[.agg #[.int .i64 1,.int .i64 0,.bool true,v],sv] w λe w'=>∃z,e=.returned (.tuple #[.agg #[.slice none 0 0,.int .i64 0,.int .i64 z],.int .i64 15])/\Below w.heap.size w w':=by
 have I:=ei T;refine(Cr (L:=K) (Cm:=1) sv [Za] J jO (λr hr=>(MH hm r hr).1) (λr hr=>aO (MH hm r hr).2 jD) jD (nJ hn hm) jO jD ej w hp U C (zB D jO hm) OG (λev h=>by rw[hc ev h];decide)).mono ?_;intro e w' h;exact iF (zB D jO hm) OG rfl hc jO h
theorem ao8(C:Vu ⟨A,O,M2,V⟩=true)(hn:ZX.WK ⟨A,O,M2,V⟩):∀ev,RD [Za] ([MI A O M2 V,RA].map X3) [] ev->ev=0:=λev h=>
 RD.two (x:=X3 (MI A O M2 V)) (y:=X3 RA) h rfl (Fy rfl) (Cu (ok1 C) (cn1 hn)) (List.cons_ne_nil _ _) rfl
theorem ao9(C:Vu ⟨A,O,M2,V⟩=true)(hn:ZX.WK ⟨A,O,M2,V⟩):∀ev,RD [Za] ([RA,MI A O M2 V].map X3) [] ev->ev=15:=λev h=>
 RD.late (x:=X3 (MI A O M2 V)) (y:=X3 RA) h rfl (Fy rfl) (Cu (ok1 C) (cn1 hn)) rfl
theorem aE4:∀ev,RD [Za] ([RA].map X3) [] ev->ev=0:=λev h=>
 RD.one (r:=X3 RA) h (Fy rfl) rfl
theorem eh:∀r∈[MI A O M2 V,RA],r=MI A O M2 V\/r=RA:=λr hr=>by
 simp only[abb,ahd,arc] at hr;exact hr
theorem ee:∀r∈[RA,MI A O M2 V],r=MI A O M2 V\/r=RA:=λr hr=>by
 simp only[abb,ahd,arc] at hr;exact hr.symm
theorem ap0:∀r∈[RA],r=MI A O M2 V\/r=RA:=λr hr=>by
 simp only[abb,ahd,arc] at hr;exact .inr hr
def VU(k:Nat):Nat:=if k=0 then 2 else if k=1 then 2 else if k=2 then 5 else if k=3 then 7 else 9
theorem Cp{k:Nat}(hk:k<5):Za.num k=(VU k:Int)/\VU k<1073741824:=by
 rcases (show k=0\/k=1\/k=2\/k=3\/k=4 from jO) with rfl|rfl|rfl|rfl|rfl<;>exact⟨rfl,jD⟩
theorem tU{k S:Nat}{W:World}(hk:k<5)(h:Z7 W S 40 #[.string ⟨#[111,112,101,110]⟩,.int .i64 2,.int .i64 2,.int .i64 5,.int .i64 7,.int .i64 9,.int .i64 0,.int .i64 0]):W.cell? ⟨S,1+k,none⟩=some (.int .i64 (VU k:Int)):=by
 rcases (show k=0\/k=1\/k=2\/k=3\/k=4 from jO) with rfl|rfl|rfl|rfl|rfl;·exact h.cell 1
 ·exact h.cell 2
 ·exact h.cell 3
 ·exact h.cell 4
 ·exact h.cell 5
theorem ap1{out:List ZN}{pr:List NR}{k:Nat}{xs:List Nat}(hs:Says out [Za] true (YM 1 0) pr)(hk:k<5):Zh (Y6 (Yc (whole k (VU k)) (Zb k) 0 xs)) out 0=some (Mr (Y6 (Yc (whole k (VU k)) (Zb k) 0 xs)) true (YM 1 0) k pr Za.name):=by
 obtain⟨C,D⟩:=Cp hk;exact hs _ (uj _ _ _ _) k 0 hk jD (by show 0<=Za.num k;rw[C];omega) (zP _ _ _ (ek k)) (by rw[um _ _ _ (xO D)];show whole k (VU k)=whole k (Za.num k).toNat;rw[C,aub])
theorem ae2{out:List ZN}{k:Nat}{xs:List Nat}(D:Vu ⟨A,O,M2,V⟩=true)(hn:ZX.WK ⟨A,O,M2,V⟩)(C:xs.length=6)(hx:∀x∈xs,x<YN)(hs:Says out [Za] true (YM 1 0) ([MI A O M2 V,RA].map X3))(hk:k<5):Zh (Y6 (Yc (whole k (VU k)) (Zb k) 0 xs)) out 0=some (if tX k xs ⟨A,O,M2,V⟩=true then 327693 else 2147221504):=by
 rw[ap1 hs hk]
 congr 1
 refine(nN (r:=X3 (MI A O M2 V)) (q:=X3 RA) rfl rfl).trans ?_;show(if Z2 (WH (Y6 (Yc (whole k (VU k)) (Zb k) 0 xs)) (decide (k≠2))) ([⟨A,O,M2,V⟩].map Sk)=true then YM 4 13 else YM 7 0)=_;rw[tW C hx (ok1 D),Jq.2.2.1,Jq.2.2.2];simp only[List.all_cons,List.all_nil,Bool.and_true]
theorem ap2{out:List ZN}{k:Nat}{xs:List Nat}(hs:Says out [Za] true (YM 1 0) ([RA].map X3))(hk:k<5):Zh (Y6 (Yc (whole k (VU k)) (Zb k) 0 xs)) out 0=some 2147221504:=by
 rw[ap1 hs hk]
 congr 1
 refine(nP (r:=X3 RA)).trans ?_;show(if Z2 (WH (Y6 (Yc (whole k (VU k)) (Zb k) 0 xs)) (decide (k≠2))) ([]:List Z5)=true then YM 7 0 else YM 1 0)=_;rw[aF (show Z2 _ []=true from rfl),Jq.2.2.2]
end
end Go.Proofs.YtclgigmgbebhgaaGreatDoor
