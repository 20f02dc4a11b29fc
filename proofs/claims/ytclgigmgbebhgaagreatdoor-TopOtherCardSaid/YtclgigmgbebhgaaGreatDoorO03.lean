/- TopOther: part 3: TopRules TopTreeP. -/
import Derived.Test.YtclgigmgbebhgaaGreatDoorO02
set_option linter.unusedVariables false
set_option linter.unusedSimpArgs false
set_option maxRecDepth 100000
set_option maxHeartbeats 16000000
namespace Go.Proofs.YtclgigmgbebhgaaGreatDoor
open Tryz
open Go Go.Proofs Go.RowKit Go.Maps Go.WideMaps Go.ChangeMaps
theorem Q6(wide:Bool)(next:Nat):∀(cs:List Z5) (g:G),U9 g (Zg wide next cs g)
 |[],g=>U9.refl g
 |c::cs,g=>(((U9.mark g).trans (U9.put _ _)).trans (U9.here _ _)).trans (Q6 wide next cs _)
theorem Nw(wide:Bool)(ow:Nat):∀(rs:List Z3) (g:G),U9 g (XN wide ow rs g)
 |[],g=>U9.put _ _
 |(cs,code)::rs,g=>(((((U9.mark g).trans (Q6 wide (g.n+1) cs _)).trans (U9.goes _ _)).trans (U9.put _ _)).trans (U9.here _ _)).trans (Nw wide ow rs _)
theorem Nv{c:Z5}{wide:Bool}{yes no:Int}:(XF c wide yes no).length<=6:=by
 unfold XF R2 Vu MR;cases wide<;>(repeat' split)<;>simp
def Pc(rs:List Z3):Prop:=∀r∈rs,r.2<4294967296/\∀c∈r.1,c.nf
theorem drop_cons{α:Type}{l:List α}{i:Nat}{x:α}(h:l[i]? =some x):l.drop i=x::l.drop (i+1):=by
 obtain⟨hl,rfl⟩:=au.1 h;exact aud hl
theorem T7{LO M Bm:Nat}{v:Value}{g:G}{m:Nat}(w:World)(h:Zl LO M Bm w v g)(hl:g.l.length+1<=1000000)(A:LO<=w.heap.size):
 Calls prog 53 #[.pointer (some ⟨M,0,none⟩),.int .i64 ((m:Int)+1)] w λe w'=>e=.returned (.tuple #[])/\∃v',Zl LO M Bm w' v' (g.here (m+1))/\Yh LO M Bm w w':=K0 (m:=m+1) w h hl A
theorem xu{LO M Bm N:Nat}{v va:Value}{g:G}(rs:List Z3)(wide:Bool)(ow:Nat)(hrs:Pc rs)(Pb:rs.length<=1000000)(hbc:∀r∈rs,r.1.length<=1000000)(w:World)(h:Zl LO M Bm w v g)(hg:Wj g)(hG:GB (XN wide ow rs g))(hm:Ux N w va rs)(hN:N<=LO)(I:LO<=w.heap.size):
 Calls prog 168 #[.pointer (some ⟨M,0,none⟩),va,.bool wide,.int .i64 ow] w λe w'=>e=.returned (.tuple #[])/\∃v',Zl LO M Bm w' v' (XN wide ow rs g)/\Yh LO M Bm w w'/\Wj (XN wide ow rs g):=by
 have Cj:=hm;obtain⟨aa,ac,rfl,_⟩:=Cj;obtain⟨L,hL⟩:=jX rs.length;rw[hL] at Pb ⊢;have HL:=aT hL;have HM:=aT hm;have HRS:=aT hrs;have HBC:=aT hbc;obtain⟨RG,gz⟩:=jX (XN wide ow rs g);rw[gz] at hG ⊢;have LQ:=aT gz;have HG:=aT hG;have HH:=aT h;have nr:=aT hg;clear hL hm hrs hbc gz hG h hg;go_enter func168,ntmps168;go_upto_region 1 with fail;go_loopg [16] (L+1) (λgg iv wr=>∃i v' g',i<=L/\L-i<gg/\iv=.int .i64 (i:Int)/\Hid (Zl LO M Bm wr v' g')/\Hid (Yh LO M Bm w wr)/\Hid (Wj g')/\Hid (XN wide ow (rs.drop i) g'=RG));case atStart=>exact⟨0,v,g,abc _,jO,rfl,HH,Yh.refl _ _ _ _,nr,LQ⟩
 case round=>
  obtain⟨i,v',g',zm,VP,rfl,HH',T,dx,dw⟩:=hrel;have i0:=jZ i;by_cases hlt:i<L
  ·have Y8:(i:Int)<(L:Int):=by omega
   obtain⟨r,hr⟩:∃r,rs[i]? =some r:=⟨_,aM (by rw[HL.out];exact hlt)⟩;obtain⟨a2,c2,e2,hrow⟩:=HM.out;injection e2 with e3 _ e4;subst e3 e4;obtain⟨gb,off,u,rfl,U7,e0,e1,hcs⟩:=hrow i r hr;have y0:=ZY T.1 hN U7 e0;have y1:=ZY T.1 hN U7 e1;obtain⟨J,hnf⟩:=HRS r (af hr);have hkc:=HBC r (af hr);have C:=dw.out;rw[drop_cons hr] at C;obtain⟨cs,code⟩:=r;dsimp only at J hnf hkc C y1 hcs;have ar9:=hcs;obtain⟨ua,uc,rfl,_⟩:=ar9;obtain⟨Y,hKc⟩:∃K,cs.length=K:=⟨_,rfl⟩;rw[hKc] at hkc y0;have HKC:=aT hKc;have xr:=aT hcs;have HNF:=aT hnf;have BS:LO<=wr.heap.size:=aO I T.2.1;unfold XN at C;have hgb:=HG.out;rw[<-C] at hgb;have b5:=hgb.back (Nw wide ow _ _);have b3:=b5.back ((U9.put _ _).trans (U9.here _ _));have b2:=b3.back (U9.goes _ _);have b1:=b2.back (Q6 wide (g'.n+1) cs g'.mark);have l4:(Zg wide (g'.n+1) cs g'.mark |>.goes code).l.length+2<=1000000:=by have:=b5.1;simp[G.here,G.put] at this;omega
   have XA:=aT b2;have as0:g'.n+1<=1000000:=aO b1.2 jD;have af8:=aO b3.2 (show 900000<=1000000 from jD);have HST:=aT C;have HB9:=aT (Z7.new wr 121 #[.slice ua Y uc,.int .u32 code]);have HH1:=aT (HH'.al (.cells #[.slice ua Y uc,.int .u32 code] 121));have tz:=aT (T.trans (Yh.alloc (a:=wr) (.cells #[.slice ua Y uc,.int .u32 code] 121) BS));have hnM:wr.heap.size≠M:=λe=>by have:=HH'.blk.lt;omega
   have hnB:wr.heap.size≠Bm:=λe=>by have:=HH'.map.lt;omega
   clear hrow e0 e1 hr C hgb b5 b3 b2 b1 hcs hnf hKc HH' T dw;go_upto_region 3 with fail;generalize wr.alloc (.cells #[.slice ua Y uc,.int .u32 code] 121)=w1 at*;generalize wr.heap.size=B9 at*;go_wp2_with fail;refine(Vp w1 HH1 as0).mono ?_;rintro e w2 ⟨rfl,h2,f2⟩;have LR:=aT h2;have OH:=aT (tz.trans f2);have dv:=f2.blk HB9 hnM hnB jD;have z0:=dv.e0;have as1:=aT dv;clear h2 f2 dv HH1 tz HB9 y0 y1;obtain⟨CR,hCR⟩:=jX (Zg wide (g'.n+1) cs g'.mark);rw[hCR] at af8 l4;have HCR:=aT hCR;have HCB:Hid (GB CR):=by rw[<-hCR];exact XA
   have HOM:Hid (Wj g'.mark):=dx.mark;have td:Hid (LO<=w2.heap.size):=aO I OH.2.1;clear hCR XA dx;go_upto_region 5 with fail;go_loopg [25] (Y+1) (λgg iv wq=>∃k v'' A,k<=Y/\Y-k<gg/\iv=.int .i64 (k:Int)/\Hid (Zl LO M Bm wq v'' A)/\Hid (Yh LO M Bm w wq)/\Hid (Wj A)/\Hid (Zg wide (g'.n+1) (cs.drop k) A=CR)/\Hid (Z7 wq B9 121 #[.slice ua Y uc,.int .u32 code]));case atStart=>exact⟨0,v',g'.mark,abc _,jO,rfl,LR,OH,HOM,HCR,as1⟩
   case round=>
    obtain⟨k,v'',A,hkK,lS,rfl,HQ,D,HQO,HQR,HQB⟩:=hrel;have k0:=jZ k;have Z:=HQB.out;have z1:=Z.e1;have af9:LO<=wr.heap.size:=aO I D.2.1;by_cases hk:k<Y
    ·have dt:(k:Int)<(Y:Int):=by omega
     obtain⟨c,hc⟩:∃c,cs[k]? =some c:=⟨_,aM (by rw[HKC.out];exact hk)⟩;obtain⟨ua2,uc2,e2,hcell⟩:=xr.out;injection e2 with e3 _ e4;subst e3 e4;obtain⟨gu,aF9,rfl,U,c0,c1,c2,c3⟩:=hcell k c hc;have y0:=ZY D.1 hN U c0;have y1:=ZY D.1 hN U c1;have y2:=ZY D.1 hN U c2;have y3:=ZY D.1 hN U c3;have C:Zg wide (g'.n+1) (cs.drop (k+1)) ((A.mark.put (XF c wide ((A.n:Int)+1) ((g'.n:Int)+1))).here (A.n+1))=CR:=by have h:=HQR.out;rw[drop_cons hc] at h;exact h
     have hcb:=HCB.out;rw[<-C] at hcb;have b1:=hcb.back (Q6 wide (g'.n+1) (cs.drop (k+1)) _);have l1:=b1.1;have n1:A.n+1<=900000:=b1.2;have l2:((A.mark.put (XF c wide ((A.n:Int)+1) ((g'.n:Int)+1))).here (A.n+1)).l.length=A.l.length+(XF c wide ((A.n:Int)+1) ((g'.n:Int)+1)).length+1:=by simp[G.here,G.put,G.mark];omega
     have l3:=Nv (c:=c) (wide:=wide) (yes:=(A.n:Int)+1) (no:=(g'.n:Int)+1);have l5:A.l.length+7<=1000000:=jO;have HCN:=aT (HNF c (af hc));have dr:=aT C;have HBc:=aT (Z7.new wr 68 #[.int .i64 c.a,.int .i64 c.o,.int .u64 c.m,.int .u64 c.v]);have HQ1:=aT (HQ.al (.cells #[.int .i64 c.a,.int .i64 c.o,.int .u64 c.m,.int .u64 c.v] 68));have ag0:=aT (D.trans (Yh.alloc (a:=wr) (.cells #[.int .i64 c.a,.int .i64 c.o,.int .u64 c.m,.int .u64 c.v] 68) af9));have ag1:=aT (Z.alloc (.cells #[.int .i64 c.a,.int .i64 c.o,.int .u64 c.m,.int .u64 c.v] 68));have hcM:wr.heap.size≠M:=λe=>by have:=HQ.blk.lt;omega
     have hcB:wr.heap.size≠Bm:=λe=>by have:=HQ.map.lt;omega
     have h9M:B9≠M:=λe=>by subst e;exact absurd (HQ.blk.symm.trans Z) (by intro h;injection h with h;injection h with _ h2;exact absurd h2 jD)
     have h9B:B9≠Bm:=λe=>by subst e;obtain⟨es,cl,hb,_⟩:=HQ.map;have:=hb.symm.trans Z;injection this with this;cases this
     clear hcell c0 c1 c2 c3 hc C hcb b1 l1 l2 l3 Z HQ D HQR HQB z1;go_upto_region 7 with fail;generalize wr.alloc (.cells #[.int .i64 c.a,.int .i64 c.o,.int .u64 c.m,.int .u64 c.v] 68)=wq1 at*;generalize wr.heap.size=Bc at*;go_wp2_with fail;refine(Vp wq1 HQ1 jO).mono ?_;rintro e wq2 ⟨rfl,h2,f2⟩;have HQ2:=aT h2;have dp:=aT (ag0.trans f2);have ag2:=aT (f2.blk ag1 h9M h9B jD);have s6:=f2.blk HBc hcM hcB jD;obtain⟨x0,x1,x2,x3⟩:=s6.q4;have Pa:LO<=wq2.heap.size:=aO I dp.2.1;clear h2 f2 s6 HBc HQ1 ag0 ag1 y0 y1 y2 y3;go_wp2_with fail;refine(tj c wide ((A.n:Int)+1) ((g'.n:Int)+1) HCN wq2 HQ2 (by show A.l.length+6<=_;omega) Pa).mono ?_;rintro e wq3 ⟨rfl,v3,h3,f3⟩;have HQ3:=aT h3;have dm:=aT (dp.trans f3);have ag3:=aT (f3.blk ag2 h9M h9B jD);have xq:LO<=wq3.heap.size:=aO I dm.2.1;have l6:(A.mark.put (XF c wide ((A.n:Int)+1) ((g'.n:Int)+1))).l.length+1<=1000000:=by have:=Nv (c:=c) (wide:=wide) (yes:=(A.n:Int)+1) (no:=(g'.n:Int)+1);show(A.l++_).length+1<=_;rw[ay];omega
     clear h3 f3 HQ2 dp ag2 x0 x1 x2 x3;go_wp2_with fail;refine(T7 (m:=A.n) wq3 HQ3 l6 xq).mono ?_;rintro e wq4 ⟨rfl,v4,h4,f4⟩;have HQ4:=aT h4;have as2:=aT (dm.trans f4);have as3:=aT (f4.blk ag3 h9M h9B jD);have as4:Hid (Wj ((A.mark.put (XF c wide ((A.n:Int)+1) ((g'.n:Int)+1))).here (A.n+1))):=(HQO.mark.put _).here _;clear h4 f4 HQ3 dm ag3;have kw:=jW k;go_wp2_with fail;go_roundg (Y-k);case measure=>omega
     case rel=>exact⟨k+1,v4,_,jO,jO,by go_num,HQ4,as2,as4,dr,as3⟩
    ·obtain rfl:Y=k:=by omega
     have dt:¬(Y:Int)<(Y:Int):=jO;have hcr:A=CR:=by have h:=HQR.out;rw[anc (by rw[HKC.out];exact aR _)] at h;exact h
     subst hcr;clear Z;go_wp2_with fail;refine(Uc wr HQ HQO J af8 af9).mono ?_;rintro e w5 ⟨rfl,h5,f5⟩;have HQ5:=aT h5;have di:=aT (D.trans f5);have ag4:=aT (HQO.goes J);have OE:LO<=w5.heap.size:=aO I di.2.1;clear h5 f5 HQ D HQO z1;obtain⟨g5,hg5⟩:=jX (A.goes code);have hs5:=HST.out;rw[HCR.out] at hs5;rw[hg5] at HQ5 ag4 l4 hs5;obtain⟨LK,hLK⟩:=jX (look g5.b code);rw[hLK] at hs5;have HS5:=aT hs5;rw[hg5,hLK];clear hs5 hg5 hLK HST
     go_wp2_with (refine Great.wpList_buildSliceTo rfl 79 Wk 1 _ rfl _ rfl _ rfl underlying79 #[.int .i64 0,.int .u16 5,.int .u32 0,.int .i64 LK,.int .i64 0] jK ?_)
     refine(Y0 (xs:=[ins 0x05 0 LK 0]) w5 HQ5 rfl rfl (by show g5.l.length+1<=_;omega) OE).mono ?_;rintro e w6 ⟨rfl,v6,h6,f6⟩;have HQ6:=aT h6;have dh:=aT (di.trans f6);have Eo:LO<=w6.heap.size:=aO I dh.2.1;have l7:(g5.put [ins 0x05 0 LK 0]).l.length+1<=1000000:=by show(g5.l++_).length+1<=_;rw[ay];show g5.l.length+1+1<=_;omega
     clear h6 f6 HQ5 di;go_wp2_with fail;refine(T7 (m:=g'.n) w6 HQ6 l7 Eo).mono ?_;rintro e w7 ⟨rfl,v7,h7,f7⟩;have HQ7:=aT h7;have as5:=aT (dh.trans f7);have as6:Hid (Wj ((g5.put [ins 0x05 0 LK 0]).here (g'.n+1))):=(ag4.put _).here _;clear h7 f7 HQ6 dh;have iw:=jW i;go_wp2_with fail;go_roundg (L-i);case measure=>omega
     case rel=>exact⟨i+1,v7,_,jO,jO,by go_num,HQ7,as5,as6,HS5⟩
  ·obtain rfl:L=i:=by omega
   have Y8:¬(L:Int)<(L:Int):=jO;have En:g'.put [ins 0x05 0 ow 0]=RG:=by have h:=dw.out;rw[anc (by rw[HL.out];exact aR _)] at h;exact h
   have hlen:g'.l.length+1<=1000000:=by
    have h1:=HG.1;rw[<-En] at h1;have e:(g'.put [ins 0x05 0 ow 0]).l.length=g'.l.length+1:=by show(g'.l++_).length=_;rw[ay];rfl
    omega
   have Vm:=aT En;clear En
   go_wp2_with (refine Great.wpList_buildSliceTo rfl 79 Wk 1 _ rfl _ rfl _ rfl underlying79 #[.int .i64 0,.int .u16 5,.int .u32 0,.int .i64 ow,.int .i64 0] jK ?_)
   refine(Y0 (xs:=[ins 0x05 0 ow 0]) wr HH' rfl rfl hlen (aO I T.2.1)).mono ?_;rintro e w' ⟨rfl,v'',h1,h2⟩;rw[Vm.out] at h1;have HK:=aT h1;have HF:=aT (T.trans h2);have Jv:Hid (Wj RG):=by rw[<-Vm.out];exact dx.put _
   clear h1 h2;go_wp2_with fail;go_end0;exact⟨rfl,_,HK,HF,Jv⟩
end Go.Proofs.YtclgigmgbebhgaaGreatDoor
namespace Go.Proofs.YtclgigmgbebhgaaGreatDoor
open Tryz
open Go Go.Proofs
structure VJ where
 leaf:Bool
 num:Nat
 place:Int
 (low high:Nat)
inductive Uw (t:List VJ):Nat->List Nat->Nat->Prop
 |leaf {i n a:Nat}:t[i]? =some ⟨true,n,(a:Int),0,0⟩->Uw t i [n] a
 |node {i:Nat} {l:List Nat} {a lo hi:Nat}:2<=l.length->t[i]? =some ⟨false,l.getD (l.length/2) 0,0,lo,hi⟩->Uw t lo (l.take (l.length/2)) a->Uw t hi (l.drop (l.length/2)) (a+l.length/2)->Uw t i l a
theorem sZ{α:Type}{t s:List α}{i:Nat}{x:α}(h:t[i]? =some x):(t++s)[i]? =some x:=by
 rw[abb (au.1 h).1];exact h
theorem Uw.app{t:List VJ}(s:List VJ){i:Nat}{l:List Nat}{a:Nat}(h:Uw t i l a):Uw (t++s) i l a:=by
 induction h with
 |leaf h=>exact .leaf (sZ h)
 |node C I _ _ A D=>exact .node C (sZ I) A D
def Vl(l:List Nat)(ms:List Nat)(a:Nat):List (Nat×Nat):=l.zip (ms.drop a)
theorem xp(l ms:List Nat)(a h:Nat):(Vl l ms a).take h=Vl (l.take h) ms a:=by
 unfold Vl;apply agd;intro j;rw[aie];split;·rename_i A;simp[List.getElem?_zip_eq_some,List.zip,List.getElem?_zipWith,aie,A]
 ·rename_i A;simp[List.zip,List.getElem?_zipWith,aie,A]
theorem xn(l ms:List Nat)(a h:Nat):(Vl l ms a).drop h=Vl (l.drop h) ms (a+h):=by
 unfold Vl;apply agd;intro j;simp[List.zip,List.getElem?_zipWith,awb,amd]
end Go.Proofs.YtclgigmgbebhgaaGreatDoor
