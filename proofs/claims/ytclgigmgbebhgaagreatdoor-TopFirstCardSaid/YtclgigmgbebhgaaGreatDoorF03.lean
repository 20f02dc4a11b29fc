/- TopFirst: part 3: TopRules TopTreeP. -/
import Derived.Test.YtclgigmgbebhgaaGreatDoorF02
set_option linter.unusedVariables false
set_option linter.unusedSimpArgs false
set_option maxRecDepth 100000
set_option maxHeartbeats 16000000
namespace Go.Proofs.YtclgigmgbebhgaaGreatDoor
open Tryz
open Go Go.Proofs Go.RowKit Go.Maps Go.WideMaps Go.ChangeMaps
theorem QO(wide:Bool)(next:Nat):∀(cs:List Z5) (g:G),UY g (Ze wide next cs g)
 |[],g=>UY.refl g
 |c::cs,g=>(((UY.mark g).trans (UY.put _ _)).trans (UY.here _ _)).trans (QO wide next cs _)
theorem Nl(wide:Bool)(ow:Nat):∀(rs:List Z3) (g:G),UY g (XK wide ow rs g)
 |[],g=>UY.put _ _
 |(cs,code)::rs,g=>(((((UY.mark g).trans (QO wide (g.n+1) cs _)).trans (UY.goes _ _)).trans (UY.put _ _)).trans (UY.here _ _)).trans (Nl wide ow rs _)
theorem Nk{c:Z5}{wide:Bool}{yes no:Int}:(XC c wide yes no).length<=6:=by
 unfold XC Ry Vh MG;cases wide<;>(repeat' split)<;>simp
def O0(rs:List Z3):Prop:=∀r∈rs,r.2<4294967296/\∀c∈r.1,c.nf
theorem drop_cons{α:Type}{l:List α}{i:Nat}{x:α}(h:l[i]? =some x):l.drop i=x::l.drop (i+1):=by
 obtain⟨hl,rfl⟩:=ak.1 h;exact auc hl
theorem TT{LO M Bm:Nat}{v:Value}{g:G}{m:Nat}(w:World)(h:Zj LO M Bm w v g)(hl:g.l.length+1<=1000000)(C:LO<=w.heap.size):
 Calls prog 53 #[.pointer (some ⟨M,0,none⟩),.int .i64 ((m:Int)+1)] w λe w'=>e=.returned (.tuple #[])/\∃v',Zj LO M Bm w' v' (g.here (m+1))/\Yb LO M Bm w w':=KP (m:=m+1) w h hl C
theorem xD{LO M Bm N:Nat}{v va:Value}{g:G}(rs:List Z3)(wide:Bool)(ow:Nat)(hrs:O0 rs)(KH:rs.length<=1000000)(hbc:∀r∈rs,r.1.length<=1000000)(w:World)(h:Zj LO M Bm w v g)(hg:V9 g)(hG:GB (XK wide ow rs g))(hm:Um N w va rs)(hN:N<=LO)(J:LO<=w.heap.size):
 Calls prog 168 #[.pointer (some ⟨M,0,none⟩),va,.bool wide,.int .i64 ow] w λe w'=>e=.returned (.tuple #[])/\∃v',Zj LO M Bm w' v' (XK wide ow rs g)/\Yb LO M Bm w w'/\V9 (XK wide ow rs g):=by
 have Fo:=hm;obtain⟨aa,ac,rfl,_⟩:=Fo;obtain⟨L,hL⟩:=jX rs.length;rw[hL] at KH ⊢;have HL:=aT hL;have HM:=aT hm;have HRS:=aT hrs;have HBC:=aT hbc;obtain⟨RG,gY⟩:=jX (XK wide ow rs g);rw[gY] at hG ⊢;have LC:=aT gY;have HG:=aT hG;have HH:=aT h;have nA:=aT hg;clear hL hm hrs hbc gY hG h hg;go_enter func168,ntmps168;go_upto_region 1 with fail;go_loopg [16] (L+1) (λgg iv wr=>∃i v' g',i<=L/\L-i<gg/\iv=.int .i64 (i:Int)/\Hid (Zj LO M Bm wr v' g')/\Hid (Yb LO M Bm w wr)/\Hid (V9 g')/\Hid (XK wide ow (rs.drop i) g'=RG));case atStart=>exact⟨0,v,g,abd _,jO,rfl,HH,Yb.refl _ _ _ _,nA,LC⟩
 case round=>
  obtain⟨i,v',g',sR,Vs,rfl,HH',U,dL,dK⟩:=hrel;have i0:=jZ i;by_cases hlt:i<L
  ·have Zd:(i:Int)<(L:Int):=by omega
   obtain⟨r,hr⟩:∃r,rs[i]? =some r:=⟨_,aL (by rw[HL.out];exact hlt)⟩;obtain⟨a2,c2,e2,hrow⟩:=HM.out;injection e2 with e3 _ e4;subst e3 e4;obtain⟨gb,off,u,rfl,UW,e0,e1,hcs⟩:=hrow i r hr;have y0:=ZY U.1 hN UW e0;have y1:=ZY U.1 hN UW e1;obtain⟨T,hnf⟩:=HRS r (ag hr);have hkc:=HBC r (ag hr);have D:=dK.out;rw[drop_cons hr] at D;obtain⟨cs,code⟩:=r;dsimp only at T hnf hkc D y1 hcs;have as0:=hcs;obtain⟨ua,uc,rfl,_⟩:=as0;obtain⟨Y,hKc⟩:∃K,cs.length=K:=⟨_,rfl⟩;rw[hKc] at hkc y0;have HKC:=aT hKc;have xz:=aT hcs;have HNF:=aT hnf;have BW:LO<=wr.heap.size:=aO J U.2.1;unfold XK at D;have hgb:=HG.out;rw[<-D] at hgb;have b5:=hgb.back (Nl wide ow _ _);have b3:=b5.back ((UY.put _ _).trans (UY.here _ _));have b2:=b3.back (UY.goes _ _);have b1:=b2.back (QO wide (g'.n+1) cs g'.mark);have l4:(Ze wide (g'.n+1) cs g'.mark |>.goes code).l.length+2<=1000000:=by have:=b5.1;simp[G.here,G.put] at this;omega
   have XX:=aT b2;have as1:g'.n+1<=1000000:=aO b1.2 jD;have af5:=aO b3.2 (show 900000<=1000000 from jD);have HST:=aT D;have zn:=aT (Z7.new wr 121 #[.slice ua Y uc,.int .u32 code]);have HH1:=aT (HH'.al (.cells #[.slice ua Y uc,.int .u32 code] 121));have sW:=aT (U.trans (Yb.alloc (a:=wr) (.cells #[.slice ua Y uc,.int .u32 code] 121) BW));have hnM:wr.heap.size≠M:=λe=>by have:=HH'.blk.lt;omega
   have hnB:wr.heap.size≠Bm:=λe=>by have:=HH'.map.lt;omega
   clear hrow e0 e1 hr D hgb b5 b3 b2 b1 hcs hnf hKc HH' U dK;go_upto_region 3 with fail;generalize wr.alloc (.cells #[.slice ua Y uc,.int .u32 code] 121)=w1 at*;generalize wr.heap.size=B9 at*;go_wp2_with fail;refine(Vc w1 HH1 as1).mono ?_;rintro e w2 ⟨rfl,h2,f2⟩;have LD:=aT h2;have LF:=aT (sW.trans f2);have dJ:=f2.blk zn hnM hnB jD;have z0:=dJ.e0;have as2:=aT dJ;clear h2 f2 dJ HH1 sW zn y0 y1;obtain⟨CR,hCR⟩:=jX (Ze wide (g'.n+1) cs g'.mark);rw[hCR] at af5 l4;have HCR:=aT hCR;have HCB:Hid (GB CR):=by rw[<-hCR];exact XX
   have HOM:Hid (V9 g'.mark):=dL.mark;have sQ:Hid (LO<=w2.heap.size):=aO J LF.2.1;clear hCR XX dL;go_upto_region 5 with fail;go_loopg [25] (Y+1) (λgg iv wq=>∃k v'' C,k<=Y/\Y-k<gg/\iv=.int .i64 (k:Int)/\Hid (Zj LO M Bm wq v'' C)/\Hid (Yb LO M Bm w wq)/\Hid (V9 C)/\Hid (Ze wide (g'.n+1) (cs.drop k) C=CR)/\Hid (Z7 wq B9 121 #[.slice ua Y uc,.int .u32 code]));case atStart=>exact⟨0,v',g'.mark,abd _,jO,rfl,LD,LF,HOM,HCR,as2⟩
   case round=>
    obtain⟨k,v'',C,hkK,mj,rfl,HQ,I,HQO,HQR,HQB⟩:=hrel;have k0:=jZ k;have hq9:=HQB.out;have z1:=hq9.e1;have af6:LO<=wr.heap.size:=aO J I.2.1;by_cases hk:k<Y
    ·have dI:(k:Int)<(Y:Int):=by omega
     obtain⟨c,hc⟩:∃c,cs[k]? =some c:=⟨_,aL (by rw[HKC.out];exact hk)⟩;obtain⟨ua2,uc2,e2,hcell⟩:=xz.out;injection e2 with e3 _ e4;subst e3 e4;obtain⟨gu,aG2,rfl,Z,c0,c1,c2,c3⟩:=hcell k c hc;have y0:=ZY I.1 hN Z c0;have y1:=ZY I.1 hN Z c1;have y2:=ZY I.1 hN Z c2;have y3:=ZY I.1 hN Z c3;have D:Ze wide (g'.n+1) (cs.drop (k+1)) ((C.mark.put (XC c wide ((C.n:Int)+1) ((g'.n:Int)+1))).here (C.n+1))=CR:=by have h:=HQR.out;rw[drop_cons hc] at h;exact h
     have hcb:=HCB.out;rw[<-D] at hcb;have b1:=hcb.back (QO wide (g'.n+1) (cs.drop (k+1)) _);have l1:=b1.1;have n1:C.n+1<=900000:=b1.2;have l2:((C.mark.put (XC c wide ((C.n:Int)+1) ((g'.n:Int)+1))).here (C.n+1)).l.length=C.l.length+(XC c wide ((C.n:Int)+1) ((g'.n:Int)+1)).length+1:=by simp[G.here,G.put,G.mark];omega
     have l3:=Nk (c:=c) (wide:=wide) (yes:=(C.n:Int)+1) (no:=(g'.n:Int)+1);have l5:C.l.length+7<=1000000:=jO;have HCN:=aT (HNF c (ag hc));have dH:=aT D;have HBc:=aT (Z7.new wr 68 #[.int .i64 c.a,.int .i64 c.o,.int .u64 c.m,.int .u64 c.v]);have HQ1:=aT (HQ.al (.cells #[.int .i64 c.a,.int .i64 c.o,.int .u64 c.m,.int .u64 c.v] 68));have af7:=aT (I.trans (Yb.alloc (a:=wr) (.cells #[.int .i64 c.a,.int .i64 c.o,.int .u64 c.m,.int .u64 c.v] 68) af6));have af8:=aT (hq9.alloc (.cells #[.int .i64 c.a,.int .i64 c.o,.int .u64 c.m,.int .u64 c.v] 68));have hcM:wr.heap.size≠M:=λe=>by have:=HQ.blk.lt;omega
     have hcB:wr.heap.size≠Bm:=λe=>by have:=HQ.map.lt;omega
     have h9M:B9≠M:=λe=>by subst e;exact absurd (HQ.blk.symm.trans hq9) (by intro h;injection h with h;injection h with _ h2;exact absurd h2 jD)
     have h9B:B9≠Bm:=λe=>by subst e;obtain⟨es,cl,hb,_⟩:=HQ.map;have:=hb.symm.trans hq9;injection this with this;cases this
     clear hcell c0 c1 c2 c3 hc D hcb b1 l1 l2 l3 hq9 HQ I HQR HQB z1;go_upto_region 7 with fail;generalize wr.alloc (.cells #[.int .i64 c.a,.int .i64 c.o,.int .u64 c.m,.int .u64 c.v] 68)=wq1 at*;generalize wr.heap.size=Bc at*;go_wp2_with fail;refine(Vc wq1 HQ1 jO).mono ?_;rintro e wq2 ⟨rfl,h2,f2⟩;have HQ2:=aT h2;have dG:=aT (af7.trans f2);have af9:=aT (f2.blk af8 h9M h9B jD);have ag0:=f2.blk HBc hcM hcB jD;obtain⟨x0,x1,x2,x3⟩:=ag0.q4;have OZ:LO<=wq2.heap.size:=aO J dG.2.1;clear h2 f2 ag0 HBc HQ1 af7 af8 y0 y1 y2 y3;go_wp2_with fail;refine(sT c wide ((C.n:Int)+1) ((g'.n:Int)+1) HCN wq2 HQ2 (by show C.l.length+6<=_;omega) OZ).mono ?_;rintro e wq3 ⟨rfl,v3,h3,f3⟩;have HQ3:=aT h3;have dF:=aT (dG.trans f3);have ag1:=aT (f3.blk af9 h9M h9B jD);have xy:LO<=wq3.heap.size:=aO J dF.2.1;have l6:(C.mark.put (XC c wide ((C.n:Int)+1) ((g'.n:Int)+1))).l.length+1<=1000000:=by have:=Nk (c:=c) (wide:=wide) (yes:=(C.n:Int)+1) (no:=(g'.n:Int)+1);show(C.l++_).length+1<=_;rw[ay];omega
     clear h3 f3 HQ2 dG af9 x0 x1 x2 x3;go_wp2_with fail;refine(TT (m:=C.n) wq3 HQ3 l6 xy).mono ?_;rintro e wq4 ⟨rfl,v4,h4,f4⟩;have HQ4:=aT h4;have as3:=aT (dF.trans f4);have as4:=aT (f4.blk ag1 h9M h9B jD);have as5:Hid (V9 ((C.mark.put (XC c wide ((C.n:Int)+1) ((g'.n:Int)+1))).here (C.n+1))):=(HQO.mark.put _).here _;clear h4 f4 HQ3 dF ag1;have kw:=jW k;go_wp2_with fail;go_roundg (Y-k);case measure=>omega
     case rel=>exact⟨k+1,v4,_,jO,jO,by go_num,HQ4,as3,as5,dH,as4⟩
    ·obtain rfl:Y=k:=by omega
     have dI:¬(Y:Int)<(Y:Int):=jO;have hcr:C=CR:=by have h:=HQR.out;rw[amg (by rw[HKC.out];exact aR _)] at h;exact h
     subst hcr;clear hq9;go_wp2_with fail;refine(TW wr HQ HQO T af5 af6).mono ?_;rintro e w5 ⟨rfl,h5,f5⟩;have HQ5:=aT h5;have dE:=aT (I.trans f5);have ag2:=aT (HQO.goes T);have Ou:LO<=w5.heap.size:=aO J dE.2.1;clear h5 f5 HQ I HQO z1;obtain⟨g5,hg5⟩:=jX (C.goes code);have hs5:=HST.out;rw[HCR.out] at hs5;rw[hg5] at HQ5 ag2 l4 hs5;obtain⟨LK,hLK⟩:=jX (look g5.b code);rw[hLK] at hs5;have HS5:=aT hs5;rw[hg5,hLK];clear hs5 hg5 hLK HST
     go_wp2_with (refine Great.wpList_buildSliceTo rfl 79 Wc 1 _ rfl _ rfl _ rfl underlying79 #[.int .i64 0,.int .u16 5,.int .u32 0,.int .i64 LK,.int .i64 0] jK ?_)
     refine(YW (xs:=[ins 0x05 0 LK 0]) w5 HQ5 rfl rfl (by show g5.l.length+1<=_;omega) Ou).mono ?_;rintro e w6 ⟨rfl,v6,h6,f6⟩;have HQ6:=aT h6;have dD:=aT (dE.trans f6);have Ek:LO<=w6.heap.size:=aO J dD.2.1;have l7:(g5.put [ins 0x05 0 LK 0]).l.length+1<=1000000:=by show(g5.l++_).length+1<=_;rw[ay];show g5.l.length+1+1<=_;omega
     clear h6 f6 HQ5 dE;go_wp2_with fail;refine(TT (m:=g'.n) w6 HQ6 l7 Ek).mono ?_;rintro e w7 ⟨rfl,v7,h7,f7⟩;have HQ7:=aT h7;have as6:=aT (dD.trans f7);have as7:Hid (V9 ((g5.put [ins 0x05 0 LK 0]).here (g'.n+1))):=(ag2.put _).here _;clear h7 f7 HQ6 dD;have iw:=jW i;go_wp2_with fail;go_roundg (L-i);case measure=>omega
     case rel=>exact⟨i+1,v7,_,jO,jO,by go_num,HQ7,as6,as7,HS5⟩
  ·obtain rfl:L=i:=by omega
   have Zd:¬(L:Int)<(L:Int):=jO;have Ji:g'.put [ins 0x05 0 ow 0]=RG:=by have h:=dK.out;rw[amg (by rw[HL.out];exact aR _)] at h;exact h
   have hlen:g'.l.length+1<=1000000:=by
    have h1:=HG.1;rw[<-Ji] at h1;have e:(g'.put [ins 0x05 0 ow 0]).l.length=g'.l.length+1:=by show(g'.l++_).length=_;rw[ay];rfl
    omega
   have RZ:=aT Ji;clear Ji
   go_wp2_with (refine Great.wpList_buildSliceTo rfl 79 Wc 1 _ rfl _ rfl _ rfl underlying79 #[.int .i64 0,.int .u16 5,.int .u32 0,.int .i64 ow,.int .i64 0] jK ?_)
   refine(YW (xs:=[ins 0x05 0 ow 0]) wr HH' rfl rfl hlen (aO J U.2.1)).mono ?_;rintro e w' ⟨rfl,v'',h1,h2⟩;rw[RZ.out] at h1;have HK:=aT h1;have HF:=aT (U.trans h2);have Jh:Hid (V9 RG):=by rw[<-RZ.out];exact dL.put _
   clear h1 h2;go_wp2_with fail;go_end0;exact⟨rfl,_,HK,HF,Jh⟩
end Go.Proofs.YtclgigmgbebhgaaGreatDoor
namespace Go.Proofs.YtclgigmgbebhgaaGreatDoor
open Tryz
open Go Go.Proofs
structure Vx where
 leaf:Bool
 num:Nat
 place:Int
 (low high:Nat)
inductive Ul (t:List Vx):Nat->List Nat->Nat->Prop
 |leaf {i n a:Nat}:t[i]? =some ⟨true,n,(a:Int),0,0⟩->Ul t i [n] a
 |node {i:Nat} {l:List Nat} {a lo hi:Nat}:2<=l.length->t[i]? =some ⟨false,l.getD (l.length/2) 0,0,lo,hi⟩->Ul t lo (l.take (l.length/2)) a->Ul t hi (l.drop (l.length/2)) (a+l.length/2)->Ul t i l a
theorem sP{α:Type}{t s:List α}{i:Nat}{x:α}(h:t[i]? =some x):(t++s)[i]? =some x:=by
 rw[abc (ak.1 h).1];exact h
theorem Ul.app{t:List Vx}(s:List Vx){i:Nat}{l:List Nat}{a:Nat}(h:Ul t i l a):Ul (t++s) i l a:=by
 induction h with
 |leaf h=>exact .leaf (sP h)
 |node I C _ _ J D=>exact .node I (sP C) J D
def U9(l:List Nat)(ms:List Nat)(a:Nat):List (Nat×Nat):=l.zip (ms.drop a)
theorem xx(l ms:List Nat)(a h:Nat):(U9 l ms a).take h=U9 (l.take h) ms a:=by
 unfold U9;apply agb;intro j;rw[aja];split;·rename_i C;simp[List.getElem?_zip_eq_some,List.zip,List.getElem?_zipWith,aja,C]
 ·rename_i C;simp[List.zip,List.getElem?_zipWith,aja,C]
theorem xw(l ms:List Nat)(a h:Nat):(U9 l ms a).drop h=U9 (l.drop h) ms (a+h):=by
 unfold U9;apply agb;intro j;simp[List.zip,List.getElem?_zipWith,avg,aAb]
end Go.Proofs.YtclgigmgbebhgaaGreatDoor
