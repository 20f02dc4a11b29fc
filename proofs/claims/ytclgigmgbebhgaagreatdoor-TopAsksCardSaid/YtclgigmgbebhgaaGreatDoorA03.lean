/- TopAsks: part 3: TopRules TopTreeP. -/
import Derived.Test.YtclgigmgbebhgaaGreatDoorA02
set_option linter.unusedVariables false
set_option linter.unusedSimpArgs false
set_option maxRecDepth 100000
set_option maxHeartbeats 16000000
namespace Go.Proofs.YtclgigmgbebhgaaGreatDoor
open Tryz
open Go Go.Proofs Go.RowKit Go.Maps Go.WideMaps Go.ChangeMaps
theorem Ra(wide:Bool)(next:Nat):∀(cs:List Z5) (g:G),Vc g (Zh wide next cs g)
 |[],g=>Vc.refl g
 |c::cs,g=>(((Vc.mark g).trans (Vc.put _ _)).trans (Vc.here _ _)).trans (Ra wide next cs _)
theorem NG(wide:Bool)(ow:Nat):∀(rs:List Z3) (g:G),Vc g (XO wide ow rs g)
 |[],g=>Vc.put _ _
 |(cs,code)::rs,g=>(((((Vc.mark g).trans (Ra wide (g.n+1) cs _)).trans (Vc.goes _ _)).trans (Vc.put _ _)).trans (Vc.here _ _)).trans (NG wide ow rs _)
theorem NF{c:Z5}{wide:Bool}{yes no:Int}:(XF c wide yes no).length<=6:=by
 unfold XF R1 Vu M6;cases wide<;>(repeat' split)<;>simp
def Pf(rs:List Z3):Prop:=∀r∈rs,r.2<4294967296/\∀c∈r.1,c.nf
theorem drop_cons{α:Type}{l:List α}{i:Nat}{x:α}(h:l[i]? =some x):l.drop i=x::l.drop (i+1):=by
 obtain⟨hl,rfl⟩:=aq.1 h;exact aua hl
theorem Ua{LO M Bm:Nat}{v:Value}{g:G}{m:Nat}(w:World)(h:Zl LO M Bm w v g)(hl:g.l.length+1<=1000000)(A:LO<=w.heap.size):
 Calls prog 53 #[.pointer (some ⟨M,0,none⟩),.int .i64 ((m:Int)+1)] w λe w'=>e=.returned (.tuple #[])/\∃v',Zl LO M Bm w' v' (g.here (m+1))/\Yh LO M Bm w w':=Lk (m:=m+1) w h hl A
theorem xU{LO M Bm N:Nat}{v va:Value}{g:G}(rs:List Z3)(wide:Bool)(ow:Nat)(hrs:Pf rs)(Le:rs.length<=1000000)(hbc:∀r∈rs,r.1.length<=1000000)(w:World)(h:Zl LO M Bm w v g)(hg:Wl g)(hG:GB (XO wide ow rs g))(hm:UC N w va rs)(hN:N<=LO)(I:LO<=w.heap.size):
 Calls prog 168 #[.pointer (some ⟨M,0,none⟩),va,.bool wide,.int .i64 ow] w λe w'=>e=.returned (.tuple #[])/\∃v',Zl LO M Bm w' v' (XO wide ow rs g)/\Yh LO M Bm w w'/\Wl (XO wide ow rs g):=by
 have CU:=hm;obtain⟨aa,ac,rfl,_⟩:=CU;obtain⟨L,hL⟩:=jX rs.length;rw[hL] at Le ⊢;have HL:=aT hL;have HM:=aT hm;have HRS:=aT hrs;have HBC:=aT hbc;obtain⟨RG,iq⟩:=jX (XO wide ow rs g);rw[iq] at hG ⊢;have L6:=aT iq;have HG:=aT hG;have HH:=aT h;have nC:=aT hg;clear hL hm hrs hbc iq hG h hg;go_enter func168,ntmps168;go_upto_region 1 with fail;go_loopg [16] (L+1) (λgg iv wr=>∃i v' g',i<=L/\L-i<gg/\iv=.int .i64 (i:Int)/\Hid (Zl LO M Bm wr v' g')/\Hid (Yh LO M Bm w wr)/\Hid (Wl g')/\Hid (XO wide ow (rs.drop i) g'=RG));case atStart=>exact⟨0,v,g,abb _,jO,rfl,HH,Yh.refl _ _ _ _,nC,L6⟩
 case round=>
  obtain⟨i,v',g',tM,VM,rfl,HH',T,eu,et⟩:=hrel;have i0:=jZ i;by_cases hlt:i<L
  ·have Zc:(i:Int)<(L:Int):=by omega
   obtain⟨r,hr⟩:∃r,rs[i]? =some r:=⟨_,aM (by rw[HL.out];exact hlt)⟩;obtain⟨a2,c2,e2,hrow⟩:=HM.out;injection e2 with e3 _ e4;subst e3 e4;obtain⟨gb,off,u,rfl,Va,e0,e1,hcs⟩:=hrow i r hr;have y0:=ZZ T.1 hN Va e0;have y1:=ZZ T.1 hN Va e1;obtain⟨J,hnf⟩:=HRS r (ag hr);have hkc:=HBC r (ag hr);have C:=et.out;rw[drop_cons hr] at C;obtain⟨cs,code⟩:=r;dsimp only at J hnf hkc C y1 hcs;have an9:=hcs;obtain⟨ua,uc,rfl,_⟩:=an9;obtain⟨U,hKc⟩:∃K,cs.length=K:=⟨_,rfl⟩;rw[hKc] at hkc y0;have HKC:=aT hKc;have xS:=aT hcs;have HNF:=aT hnf;have CD:LO<=wr.heap.size:=aO I T.2.1;unfold XO at C;have hgb:=HG.out;rw[<-C] at hgb;have b5:=hgb.back (NG wide ow _ _);have b3:=b5.back ((Vc.put _ _).trans (Vc.here _ _));have b2:=b3.back (Vc.goes _ _);have b1:=b2.back (Ra wide (g'.n+1) cs g'.mark);have l4:(Zh wide (g'.n+1) cs g'.mark |>.goes code).l.length+2<=1000000:=by have:=b5.1;simp[G.here,G.put] at this;omega
   have X1:=aT b2;have ao0:g'.n+1<=1000000:=aO b1.2 jD;have ad4:=aO b3.2 (show 900000<=1000000 from jD);have HST:=aT C;have HB9:=aT (Z8.new wr 121 #[.slice ua U uc,.int .u32 code]);have HH1:=aT (HH'.al (.cells #[.slice ua U uc,.int .u32 code] 121));have tR:=aT (T.trans (Yh.alloc (a:=wr) (.cells #[.slice ua U uc,.int .u32 code] 121) CD));have hnM:wr.heap.size≠M:=λe=>by have:=HH'.blk.lt;omega
   have hnB:wr.heap.size≠Bm:=λe=>by have:=HH'.map.lt;omega
   clear hrow e0 e1 hr C hgb b5 b3 b2 b1 hcs hnf hKc HH' T et;go_upto_region 3 with fail;generalize wr.alloc (.cells #[.slice ua U uc,.int .u32 code] 121)=w1 at*;generalize wr.heap.size=B9 at*;go_wp2_with fail;refine(Vp w1 HH1 ao0).mono ?_;rintro e w2 ⟨rfl,h2,f2⟩;have L8:=aT h2;have Lj:=aT (tR.trans f2);have er:=f2.blk HB9 hnM hnB jD;have z0:=er.e0;have ao1:=aT er;clear h2 f2 er HH1 tR HB9 y0 y1;obtain⟨CR,hCR⟩:=jX (Zh wide (g'.n+1) cs g'.mark);rw[hCR] at ad4 l4;have HCR:=aT hCR;have HCB:Hid (GB CR):=by rw[<-hCR];exact X1
   have HOM:Hid (Wl g'.mark):=eu.mark;have tL:Hid (LO<=w2.heap.size):=aO I Lj.2.1;clear hCR X1 eu;go_upto_region 5 with fail;go_loopg [25] (U+1) (λgg iv wq=>∃k v'' A,k<=U/\U-k<gg/\iv=.int .i64 (k:Int)/\Hid (Zl LO M Bm wq v'' A)/\Hid (Yh LO M Bm w wq)/\Hid (Wl A)/\Hid (Zh wide (g'.n+1) (cs.drop k) A=CR)/\Hid (Z8 wq B9 121 #[.slice ua U uc,.int .u32 code]));case atStart=>exact⟨0,v',g'.mark,abb _,jO,rfl,L8,Lj,HOM,HCR,ao1⟩
   case round=>
    obtain⟨k,v'',A,hkK,mm,rfl,HQ,D,HQO,HQR,HQB⟩:=hrel;have k0:=jZ k;have Z:=HQB.out;have z1:=Z.e1;have ad5:LO<=wr.heap.size:=aO I D.2.1;by_cases hk:k<U
    ·have ep:(k:Int)<(U:Int):=by omega
     obtain⟨c,hc⟩:∃c,cs[k]? =some c:=⟨_,aM (by rw[HKC.out];exact hk)⟩;obtain⟨ua2,uc2,e2,hcell⟩:=xS.out;injection e2 with e3 _ e4;subst e3 e4;obtain⟨gu,aB3,rfl,Y,c0,c1,c2,c3⟩:=hcell k c hc;have y0:=ZZ D.1 hN Y c0;have y1:=ZZ D.1 hN Y c1;have y2:=ZZ D.1 hN Y c2;have y3:=ZZ D.1 hN Y c3;have C:Zh wide (g'.n+1) (cs.drop (k+1)) ((A.mark.put (XF c wide ((A.n:Int)+1) ((g'.n:Int)+1))).here (A.n+1))=CR:=by have h:=HQR.out;rw[drop_cons hc] at h;exact h
     have hcb:=HCB.out;rw[<-C] at hcb;have b1:=hcb.back (Ra wide (g'.n+1) (cs.drop (k+1)) _);have l1:=b1.1;have n1:A.n+1<=900000:=b1.2;have l2:((A.mark.put (XF c wide ((A.n:Int)+1) ((g'.n:Int)+1))).here (A.n+1)).l.length=A.l.length+(XF c wide ((A.n:Int)+1) ((g'.n:Int)+1)).length+1:=by simp[G.here,G.put,G.mark];omega
     have l3:=NF (c:=c) (wide:=wide) (yes:=(A.n:Int)+1) (no:=(g'.n:Int)+1);have l5:A.l.length+7<=1000000:=jO;have HCN:=aT (HNF c (ag hc));have ek:=aT C;have HBc:=aT (Z8.new wr 68 #[.int .i64 c.a,.int .i64 c.o,.int .u64 c.m,.int .u64 c.v]);have HQ1:=aT (HQ.al (.cells #[.int .i64 c.a,.int .i64 c.o,.int .u64 c.m,.int .u64 c.v] 68));have ad6:=aT (D.trans (Yh.alloc (a:=wr) (.cells #[.int .i64 c.a,.int .i64 c.o,.int .u64 c.m,.int .u64 c.v] 68) ad5));have ad7:=aT (Z.alloc (.cells #[.int .i64 c.a,.int .i64 c.o,.int .u64 c.m,.int .u64 c.v] 68));have hcM:wr.heap.size≠M:=λe=>by have:=HQ.blk.lt;omega
     have hcB:wr.heap.size≠Bm:=λe=>by have:=HQ.map.lt;omega
     have h9M:B9≠M:=λe=>by subst e;exact absurd (HQ.blk.symm.trans Z) (by intro h;injection h with h;injection h with _ h2;exact absurd h2 jD)
     have h9B:B9≠Bm:=λe=>by subst e;obtain⟨es,cl,hb,_⟩:=HQ.map;have:=hb.symm.trans Z;injection this with this;cases this
     clear hcell c0 c1 c2 c3 hc C hcb b1 l1 l2 l3 Z HQ D HQR HQB z1;go_upto_region 7 with fail;generalize wr.alloc (.cells #[.int .i64 c.a,.int .i64 c.o,.int .u64 c.m,.int .u64 c.v] 68)=wq1 at*;generalize wr.heap.size=Bc at*;go_wp2_with fail;refine(Vp wq1 HQ1 jO).mono ?_;rintro e wq2 ⟨rfl,h2,f2⟩;have HQ2:=aT h2;have ej:=aT (ad6.trans f2);have ad8:=aT (f2.blk ad7 h9M h9B jD);have ad9:=f2.blk HBc hcM hcB jD;obtain⟨x0,x1,x2,x3⟩:=ad9.q4;have Pe:LO<=wq2.heap.size:=aO I ej.2.1;clear h2 f2 ad9 HBc HQ1 ad6 ad7 y0 y1 y2 y3;go_wp2_with fail;refine(tO c wide ((A.n:Int)+1) ((g'.n:Int)+1) HCN wq2 HQ2 (by show A.l.length+6<=_;omega) Pe).mono ?_;rintro e wq3 ⟨rfl,v3,h3,f3⟩;have HQ3:=aT h3;have ei:=aT (ej.trans f3);have ae0:=aT (f3.blk ad8 h9M h9B jD);have xR:LO<=wq3.heap.size:=aO I ei.2.1;have l6:(A.mark.put (XF c wide ((A.n:Int)+1) ((g'.n:Int)+1))).l.length+1<=1000000:=by have:=NF (c:=c) (wide:=wide) (yes:=(A.n:Int)+1) (no:=(g'.n:Int)+1);show(A.l++_).length+1<=_;rw[ay];omega
     clear h3 f3 HQ2 ej ad8 x0 x1 x2 x3;go_wp2_with fail;refine(Ua (m:=A.n) wq3 HQ3 l6 xR).mono ?_;rintro e wq4 ⟨rfl,v4,h4,f4⟩;have HQ4:=aT h4;have ao2:=aT (ei.trans f4);have ao3:=aT (f4.blk ae0 h9M h9B jD);have ao4:Hid (Wl ((A.mark.put (XF c wide ((A.n:Int)+1) ((g'.n:Int)+1))).here (A.n+1))):=(HQO.mark.put _).here _;clear h4 f4 HQ3 ei ae0;have kw:=jW k;go_wp2_with fail;go_roundg (U-k);case measure=>omega
     case rel=>exact⟨k+1,v4,_,jO,jO,by go_num,HQ4,ao2,ao4,ek,ao3⟩
    ·obtain rfl:U=k:=by omega
     have ep:¬(U:Int)<(U:Int):=jO;have hcr:A=CR:=by have h:=HQR.out;rw[anc (by rw[HKC.out];exact aP _)] at h;exact h
     subst hcr;clear Z;go_wp2_with fail;refine(Ud wr HQ HQO J ad4 ad5).mono ?_;rintro e w5 ⟨rfl,h5,f5⟩;have HQ5:=aT h5;have eh:=aT (D.trans f5);have ae1:=aT (HQO.goes J);have OO:LO<=w5.heap.size:=aO I eh.2.1;clear h5 f5 HQ D HQO z1;obtain⟨g5,hg5⟩:=jX (A.goes code);have hs5:=HST.out;rw[HCR.out] at hs5;rw[hg5] at HQ5 ae1 l4 hs5;obtain⟨LK,hLK⟩:=jX (look g5.b code);rw[hLK] at hs5;have HS5:=aT hs5;rw[hg5,hLK];clear hs5 hg5 hLK HST
     go_wp2_with (refine Great.wpList_buildSliceTo rfl 79 Wm 1 _ rfl _ rfl _ rfl underlying79 #[.int .i64 0,.int .u16 5,.int .u32 0,.int .i64 LK,.int .i64 0] jK ?_)
     refine(Y0 (xs:=[ins 0x05 0 LK 0]) w5 HQ5 rfl rfl (by show g5.l.length+1<=_;omega) OO).mono ?_;rintro e w6 ⟨rfl,v6,h6,f6⟩;have HQ6:=aT h6;have ee:=aT (eh.trans f6);have EM:LO<=w6.heap.size:=aO I ee.2.1;have l7:(g5.put [ins 0x05 0 LK 0]).l.length+1<=1000000:=by show(g5.l++_).length+1<=_;rw[ay];show g5.l.length+1+1<=_;omega
     clear h6 f6 HQ5 eh;go_wp2_with fail;refine(Ua (m:=g'.n) w6 HQ6 l7 EM).mono ?_;rintro e w7 ⟨rfl,v7,h7,f7⟩;have HQ7:=aT h7;have ao5:=aT (ee.trans f7);have ao6:Hid (Wl ((g5.put [ins 0x05 0 LK 0]).here (g'.n+1))):=(ae1.put _).here _;clear h7 f7 HQ6 ee;have iw:=jW i;go_wp2_with fail;go_roundg (L-i);case measure=>omega
     case rel=>exact⟨i+1,v7,_,jO,jO,by go_num,HQ7,ao5,ao6,HS5⟩
  ·obtain rfl:L=i:=by omega
   have Zc:¬(L:Int)<(L:Int):=jO;have EL:g'.put [ins 0x05 0 ow 0]=RG:=by have h:=et.out;rw[anc (by rw[HL.out];exact aP _)] at h;exact h
   have hlen:g'.l.length+1<=1000000:=by
    have h1:=HG.1;rw[<-EL] at h1;have e:(g'.put [ins 0x05 0 ow 0]).l.length=g'.l.length+1:=by show(g'.l++_).length=_;rw[ay];rfl
    omega
   have Sl:=aT EL;clear EL
   go_wp2_with (refine Great.wpList_buildSliceTo rfl 79 Wm 1 _ rfl _ rfl _ rfl underlying79 #[.int .i64 0,.int .u16 5,.int .u32 0,.int .i64 ow,.int .i64 0] jK ?_)
   refine(Y0 (xs:=[ins 0x05 0 ow 0]) wr HH' rfl rfl hlen (aO I T.2.1)).mono ?_;rintro e w' ⟨rfl,v'',h1,h2⟩;rw[Sl.out] at h1;have HK:=aT h1;have HF:=aT (T.trans h2);have JN:Hid (Wl RG):=by rw[<-Sl.out];exact eu.put _
   clear h1 h2;go_wp2_with fail;go_end0;exact⟨rfl,_,HK,HF,JN⟩
end Go.Proofs.YtclgigmgbebhgaaGreatDoor
namespace Go.Proofs.YtclgigmgbebhgaaGreatDoor
open Tryz
open Go Go.Proofs
structure VH where
 leaf:Bool
 num:Nat
 place:Int
 (low high:Nat)
inductive UB (t:List VH):Nat->List Nat->Nat->Prop
 |leaf {i n a:Nat}:t[i]? =some ⟨true,n,(a:Int),0,0⟩->UB t i [n] a
 |node {i:Nat} {l:List Nat} {a lo hi:Nat}:2<=l.length->t[i]? =some ⟨false,l.getD (l.length/2) 0,0,lo,hi⟩->UB t lo (l.take (l.length/2)) a->UB t hi (l.drop (l.length/2)) (a+l.length/2)->UB t i l a
theorem tK{α:Type}{t s:List α}{i:Nat}{x:α}(h:t[i]? =some x):(t++s)[i]? =some x:=by
 rw[abc (aq.1 h).1];exact h
theorem UB.app{t:List VH}(s:List VH){i:Nat}{l:List Nat}{a:Nat}(h:UB t i l a):UB (t++s) i l a:=by
 induction h with
 |leaf h=>exact .leaf (tK h)
 |node C A _ _ I D=>exact .node C (tK A) I D
def Vm(l:List Nat)(ms:List Nat)(a:Nat):List (Nat×Nat):=l.zip (ms.drop a)
theorem xQ(l ms:List Nat)(a h:Nat):(Vm l ms a).take h=Vm (l.take h) ms a:=by
 unfold Vm;apply agb;intro j;rw[aif];split;·rename_i A;simp[List.getElem?_zip_eq_some,List.zip,List.getElem?_zipWith,aif,A]
 ·rename_i A;simp[List.zip,List.getElem?_zipWith,aif,A]
theorem xP(l ms:List Nat)(a h:Nat):(Vm l ms a).drop h=Vm (l.drop h) ms (a+h):=by
 unfold Vm;apply agb;intro j;simp[List.zip,List.getElem?_zipWith,avf,aya]
end Go.Proofs.YtclgigmgbebhgaaGreatDoor
