/- TopOther: part 14: TopCalls TopX64 TopAsmQ TopInst. -/
import Derived.Test.YtclgigmgbebhgaaGreatDoorO06
set_option linter.unusedVariables false
set_option linter.unusedSimpArgs false
set_option maxRecDepth 100000
set_option maxHeartbeats 16000000
namespace Go.Proofs.YtclgigmgbebhgaaGreatDoor
open Tryz
open Go Go.Proofs Go.RowKit Go.Maps Go.WideMaps Go.ChangeMaps
theorem Y7{a b:List (Nat×ZM)}(h:a.Perm b):ZX a=ZX b:=by
 induction h with
 |nil=>rfl
 |cons x _ A=>show 6+Xz x.2+_=6+Xz x.2+_;rw[A]
 |swap x y l=>show 6+Xz y.2+(6+Xz x.2+ZX l)=6+Xz x.2+(6+Xz y.2+ZX l);omega
 |trans _ _ C D=>exact C.trans D
theorem vP{src ps:List (Nat×ZM)}(hp:ps.Perm src)(hs:ps.Pairwise (λx y=>x.1<=y.1))(hn:(src.map (·.1)).Nodup):ps.Pairwise (λx y=>x.1<y.1):=by
 have A:(ps.map (·.1)).Nodup:=(hp.map (·.1)).nodup_iff.2 hn;have C:ps.Pairwise (λx y=>x.1≠y.1):=aeg.1 A;exact(hs.and C).imp (λ{x y} h=>Nat.lt_of_le_of_ne h.1 h.2)
structure Vd(LO M Bm N a ow mB pB aB oB:Nat)(q:Ya)(w0:World)(LB:Nat)(ds:List VU)(src:List (Nat×ZM))(vl:Value)(n RB:Nat)(W:World)(v:Value)(g:G)(i:Nat)(va:Value)(xs:List Value)(k:Nat)(vb:Value)(ys:List Value):Prop where
 Xg:Zl LO M Bm W v g
 fr:Yh LO M Bm w0 W
 rn:W.ownsRow RB 53 1 va i xs
 rm:W.ownsRow RB 3 1 vb k ys
 bx:TY W M ow a mB pB aB oB (ZA q)
 pt:WB N LB a mB pB aB oB (ZA q) W vl n ds src
 lo:N<=LO/\LO<=w0.heap.size
 rb:w0.heap.size<=RB/\aB<RB/\oB<RB/\RB<=W.heap.size
section
variable {LO M Bm N a ow mB pB aB oB:Nat} {q:Ya} {w0:World} {LB:Nat} {ds:List VU} {src:List (Nat×ZM)} {vl:Value} {n RB:Nat} {W:World} {v:Value} {g:G} {i:Nat} {va:Value} {xs:List Value} {k:Nat} {vb:Value} {ys:List Value}
theorem Vd.alloc(h:Vd LO M Bm N a ow mB pB aB oB q w0 LB ds src vl n RB W v g i va xs k vb ys)(o:Obj):Vd LO M Bm N a ow mB pB aB oB q w0 LB ds src vl n RB (W.alloc o) v g i va xs k vb ys:=
 ⟨h.Xg.al o,h.fr.Gq h.lo.2 o,h.rn.alloc o,h.rm.alloc o,h.bx.mono (λB t cs _ A=>A.alloc o),⟨h.pt.own.alloc o,h.pt.len,λx hx=>(h.pt.does x hx).mono (λB cs A=>A.alloc o) ((aH N W).alloc (aO h.lo.1 (aO h.lo.2 h.fr.2.1)) o) (aR _),h.pt.src⟩,h.lo,h.rb.1,h.rb.2.1,h.rb.2.2.1,by rw[ah];have:=h.rb.2.2.2;omega⟩
theorem Vd.AZ{W':World}{v':Value}{g':G}(h:Vd LO M Bm N a ow mB pB aB oB q w0 LB ds src vl n RB W v g i va xs k vb ys)(f:Yh LO M Bm W W')(hm:Zl LO M Bm W' v' g'):Vd LO M Bm N a ow mB pB aB oB q w0 LB ds src vl n RB W' v' g' i va xs k vb ys:=
 ⟨hm,h.fr.trans f,f.T3 h.Xg h.rn jD jD,f.T3 h.Xg h.rm jD jD,⟨f.YC h.Xg h.bx.hm jD jD,f.YC h.Xg h.bx.hp jD jD,f.YC h.Xg h.bx.ha jD jD,f.YC h.Xg h.bx.ho jD jD⟩,
   ⟨f.T3 h.Xg h.pt.own jD jD,h.pt.len,λx hx=>(h.pt.does x hx).mono (λB cs A=>f.YC h.Xg A jD jD) f.1 h.lo.1,h.pt.src⟩,h.lo,h.rb.1,h.rb.2.1,h.rb.2.2.1,aO h.rb.2.2.2 f.2.1⟩
theorem Vd.grN{W':World}{cg:Value}{i':Nat}{xs':List Value}(h:Vd LO M Bm N a ow mB pB aB oB q w0 LB ds src vl n RB W v g i va xs k vb ys)(A:W.grownBy W' va.ownBlock)(ho:W'.ownsRow RB 53 1 cg i' xs'):Vd LO M Bm N a ow mB pB aB oB q w0 LB ds src vl n RB W' v g i' cg xs' k vb ys:=by
 have C:N<=w0.heap.size:=aO h.lo.1 h.lo.2;have hb:Below N W W':=(aH N W).grown A (aO C h.fr.2.1) (λr e=>aO (aO C h.rb.1) (h.rn.lt r e).1)
 exact⟨OC h.Xg h.rn A jD jD,OB h.fr h.rn A h.rb.1 h.lo.2,ho,Xs h.rn A h.rm jD,⟨Zf h.rn A h.bx.hm jD,Zf h.rn A h.bx.hp jD,Zf h.rn A h.bx.ha jD,Zf h.rn A h.bx.ho jD⟩,
  ⟨Xs h.rn A h.pt.own jD,h.pt.len,λx hx=>(h.pt.does x hx).mono (λB cs D=>Zf h.rn A D jD) hb (aR _),h.pt.src⟩,h.lo,h.rb.1,h.rb.2.1,h.rb.2.2.1,aO h.rb.2.2.2 A.size⟩
theorem Vd.grM{W':World}{vb':Value}{k':Nat}{ys':List Value}(h:Vd LO M Bm N a ow mB pB aB oB q w0 LB ds src vl n RB W v g i va xs k vb ys)(A:W.grownBy W' vb.ownBlock)(ho:W'.ownsRow RB 3 1 vb' k' ys'):Vd LO M Bm N a ow mB pB aB oB q w0 LB ds src vl n RB W' v g i va xs k' vb' ys':=by
 have C:N<=w0.heap.size:=aO h.lo.1 h.lo.2;have hb:Below N W W':=(aH N W).grown A (aO C h.fr.2.1) (λr e=>aO (aO C h.rb.1) (h.rm.lt r e).1)
 exact⟨OC h.Xg h.rm A jD jD,OB h.fr h.rm A h.rb.1 h.lo.2,Xs h.rm A h.rn jD,ho,⟨Zf h.rm A h.bx.hm jD,Zf h.rm A h.bx.hp jD,h.bx.ha.kept A (λe=>by have:=(h.rm.lt _ e.symm).1;have:=h.rb.2.1;omega),h.bx.ho.kept A (λe=>by have:=(h.rm.lt _ e.symm).1;have:=h.rb.2.2.1;omega)⟩,
  ⟨Xs h.rm A h.pt.own jD,h.pt.len,λx hx=>(h.pt.does x hx).mono (λB cs D=>Zf h.rm A D jD) hb (aR _),h.pt.src⟩,h.lo,h.rb.1,h.rb.2.1,h.rb.2.2.1,aO h.rb.2.2.2 A.size⟩
end
theorem vO:∀(ps:List (Nat×ZM)) (m:Nat),Vl (ps.map (·.1)) ((List.range ps.length).map (λj=>m+j)) 0=Vt ps m:=by
 intro ps;unfold Vl
 induction ps with
 |nil=>intro m;rfl
 |cons p r A=>
  intro m;rw[aug,aj,List.range_succ_eq_map,aec,aec,List.zip_cons_cons,akb];show(p.1,m+0)::_=(p.1,m)::Vt r (m+1);rw[<-A (m+1),aug,aeb]
  congr 2
  apply asf;intro j _;show m+(j+1)=m+1+j;omega
theorem vN{LO M Bm N a:Nat}{v:Value}{g:G}(q:Ya)(es:List (Nat×List Z3))(s0 s1:List (Nat×Nat))(ha:a<5)(w:World)(h:Zl LO M Bm w v g)(hg:Wj g)(hd:q.d<4294967296)(he:WE N w (VO (q.e a)) es)(hec:∀e∈es,cM e)(tV:es.length<=4000)(hs0:VK N w (VO q.s0) s0)(hs1:VK N w (VO q.s1) s1)(hc0:wW s0)(hc1:wW s1)
 (hnd:((ZZ a es s0 s1).map (·.1)).Nodup) (hsz:g.sz+ZX (ZZ a es s0 s1)<=900000) (hN:N<=LO) (RX:LO<=w.heap.size):
 Calls prog 55 #[.pointer (some ⟨M,0,none⟩),.agg (ZA q),.int .i64 a] w λe w'=>e=.returned (.tuple #[])/\∃v' ps,ps.Perm (ZZ a es s0 s1)/\ps.Pairwise (λx y=>x.1<y.1)/\Zl LO M Bm w' v' (Za q.d ps g)/\Yh LO M Bm w w'/\Wj (Za q.d ps g):=by
 have I:=Z7.new w Xy (ZA q);have c0:=I.cell 0;have c1:=I.cell 1;have c2:=I.cell 2;have c3:=I.cell 3;have c4:=I.cell 4;have c5:=I.cell 5;have c6:=I.cell 6;have c7:=I.cell 7;have c8:=I.cell 8;unfold ZA VO at c0 c1 c2 c3 c4 c5 c6 c7 c8;simp only[ak,aL,aF] at c0 c1 c2 c3 c4 c5 c6 c7 c8;have hlw:w.heap.size<(w.alloc (.cells (ZA q) Xy)).heap.size:=I.lt;have Ch:=aT I;have HH:=aT (h.al (.cells (ZA q) Xy));have HF:=aT (Yh.alloc (LO:=LO) (M:=M) (Bm:=Bm) (a:=w) (.cells (ZA q) Xy) RX);have hb0:Below N w (w.alloc (.cells (ZA q) Xy)):=(aH N w).alloc (aO hN RX) _;have HE:=aT (he.below hb0 (aR _));have Uj:=aT (hs0.below hb0 (aR _));have Nt:=aT (hs1.below hb0 (aR _));have HEC:=aT hec;have HC:=aT (And.intro hc0 hc1);have HND:=aT hnd;have fS:=aT hsz;have HG:=aT hg;have Nb:LO<=(w.alloc (.cells (ZA q) Xy)).heap.size:=jO;clear I h he hs0 hs1 hec hc0 hc1 hnd hsz hg hb0;unfold ZA VO at*;go_enter func55,ntmps55;go_upto_region 1 with fail;generalize w.alloc (.cells #[.int .u32 q.d,.bool q.x,.slice q.e0.1 q.e0.2.1 q.e0.2.2,.slice q.e1.1 q.e1.2.1 q.e1.2.2,.slice q.e2.1 q.e2.2.1 q.e2.2.2,.slice q.e3.1 q.e3.2.1 q.e3.2.2,.slice q.e4.1 q.e4.2.1 q.e4.2.2,.slice q.s0.1 q.s0.2.1 q.s0.2.2,.slice q.s1.1 q.s1.2.1 q.s1.2.2] Xy)=w1 at*;have bE:(g.goes q.d).n<=1000000:=by have h1:=W8 g q.d;have h2:=fS.out;unfold G.sz at h1 h2;omega
 go_wp2_with fail;refine(Uc w1 HH HG hd bE Nb).mono ?_;rintro e w2 ⟨rfl,h2,f2⟩;have sM:=f2.YC HH Ch jD jD;have LR:=aT h2;have OH:=aT (HF.trans f2);have cK:=aT (HE.below f2.1 hN);have ai5:=aT (Uj.below f2.1 hN);have ai6:=aT (Nt.below f2.1 hN);have Pa:LO<=w2.heap.size:=aO Nb f2.2.1;clear h2 f2 Ch HH HF HE Uj Nt c0 c1 c2 c3 c4 c5 c6 c7 c8 hlw Nb;obtain⟨c0,c1,c2,c3,c4,c5,c6,c7,c8⟩:=sM.q9;clear sM;obtain⟨A,hgd⟩:=jX (g.goes q.d);have Jv:Hid (Wj A):=by rw[<-hgd];exact HG.goes hd
 have HGD:=aT hgd;rw[hgd] at LR bE ⊢;clear hgd;obtain⟨ow,how⟩:=jX (look A.b q.d);have HOW:=aT how;rw[how];clear how;have HPA:=aT (wV (M:=M) (ow:=ow) (N:=N) q es s0 s1 ha w2 cK HEC tV ai5 ai6 HC.1 HC.2 (aO hN Pa));unfold ZA VO at HPA;go_wp2_with fail;refine HPA.mono ?_;rintro e w3 ⟨vl,mB,pB,aB,oB,ds,src,rfl,Ku,mL,hpt,Fs,hle⟩;clear HPA c0 c1 c2 c3 c4 c5 c6 c7 c8;obtain⟨n,hn⟩:=jX ds.length;rw[hn] at hpt;have yE:src.length=n:=by rw[<-hpt.src,aad,hn]
 have hnb:n<=4002:=by
  rw[<-yE,Fs.length_eq];unfold ZZ;rw[ay,aad];split;·show es.length+2<=_;omega
  ·show es.length+0<=_;omega
 have U:=vP Fs hle HND;obtain⟨RG,gz⟩:=jX (Za q.d src g);have bD:GB RG:=by rw[<-gz];refine GB.ag5 (aO (WC q.d src g) ?_);rw[Y7 Fs];exact fS
 have bC:Yb ow (src.map (·.2)) (A.n+1) (ZH ow (Vt src (A.n+1)) ⟨A.l,A.n+n,A.b⟩)=RG:=by rw[<-gz];unfold Za;rw[HGD.out,HOW.out,yE]
 have aI6:A.n+n<=900000:=by have h1:=bD;rw[<-bC] at h1;exact(h1.back ((WX ow _ _ _ (aR _)).trans (TE ow _ _ _))).2
 have kv:Hid (Vd LO M Bm N a ow mB pB aB oB q w w2.heap.size ds src vl n w3.heap.size w3 v A 0 (.slice none 0 0) [] 0 (.slice none 0 0) []):=
  ⟨LR.Zs Ku,OH.trans (Yh.below Ku Pa),Yg _ _ _ _,Yg _ _ _ _,mL,hpt,⟨hN,RX⟩,aO OH.2.1 Ku.size,mL.ha.lt,mL.ho.lt,aR _⟩
 have HN:=aT hn;have HSL:=aT yE;have HST:=aT U;have HPM:=aT Fs;have LQ:=aT gz;have aw7:=aT bC;have ai7:=aT bD;obtain⟨la,lc,rfl⟩:=ZI hpt.own;generalize w3.heap.size=RB at*;generalize w2.heap.size=LB at*;clear Ku mL hpt Fs hle hn yE U gz bC bD cK ai5 ai6 LR OH HND fS;go_upto_region 6 with fail;go_loopg [8,9,25] (n+1) (λgg vn vm iv wr=>∃(i:Nat) (g':G),i<=n/\n-i<gg/\iv=.int .i64 (i:Int)/\Hid (g'=⟨A.l,A.n+i,A.b⟩)/\Hid (Vd LO M Bm N a ow mB pB aB oB q w LB ds src (.slice la n lc) n RB wr v g' i vn (VI ((src.take i).map (·.1))) i vm (UN ((List.range i).map (λj=>A.n+1+j)))));case atStart=>exact⟨0,A,abc _,jO,rfl,rfl,kv⟩
 case round=>
  obtain⟨i,g',zm,VP,rfl,HG',D⟩:=hrel;clear kv;have i0:=jZ i;by_cases hlt:i<n
  ·have Y8:(i:Int)<(n:Int):=by omega
   obtain⟨x,hx⟩:∃x,ds[i]? =some x:=⟨_,aM (by rw[HN.out];exact hlt)⟩;obtain⟨gB,rfl,AY,IG⟩:=Ye RS 2 (λ_=>rfl) HN D.pt.own hx;have y0:=IG 0 jD;have y1:=IG 1 jD;have mK:src[i]? =some (ghost x):=by rw[<-D.out.pt.src,ada,hx];rfl
   have HSX:=aT mK;obtain⟨⟨num,ai8⟩,⟨f,cs⟩,tp⟩:=x;simp only[RS,aL,aF,aeb] at y0 y1;obtain⟨na,nc,rfl⟩:=ZI D.rn;obtain⟨ma,mc,rfl⟩:=ZI D.rm;have Y:=aT (D.alloc (.cells #[.int .u32 num,.func (.func f) #[] cs] BI));have Uy:=aT (Z7.new wr BI #[.int .u32 num,.func (.func f) #[] cs]);clear IG hx mK D;go_upto_region 8 with fail;clear y0 y1;generalize wr.alloc (.cells #[.int .u32 num,.func (.func f) #[] cs] BI)=wa at*;generalize wr.heap.size=B1 at*;have z0:wa.cell? ⟨B1,0,none⟩=some (.int .u32 num):=by simpa using Uy.out.cell 0
   obtain⟨iU,hiU,hU0,hU1,hU2⟩:=ZP zh;obtain⟨iI,hiI,hI0,hI1,bP⟩:=ZP zg;have hRa:=Y.rb.2.2.2
   go_wp2_with (first|(refine Great.wpList_buildSliceTo rfl 100 53 1 _ rfl _ rfl _ rfl underlying100 #[.int .u32 num] jK ?_)|(at_builtin;refine adg _ rfl _ _ 100 rfl RB 53 iU (.int .u32 0) 1 4 underlying100 hiU hU0 hU1 hU2 rfl jD _ i _ rfl (Y.rn.alloc _) ⟨wa.heap.size,0,none⟩ 1 1 [.int .u32 num] rfl ?c1 ?c2 ?c3 ?c4 ?c5 ?c6 ?_;(case c1=>rfl);(case c2=>exact Y1 rfl);(case c3=>intro u hu;rw[aac.1 hu];rfl);(case c4=>unfold maxLen;omega);(case c5=>omega);(case c6=>rw[ah];omega);intro v' w6 C T _;obtain⟨sa,sc,rfl⟩:=ZI C;have yX:=aT (Y.grN (Zj (aea wa _ _) T) C);clear C T))
   clear z0 Uy Y hRa;have aw8:g'.n+1<=1000000:=by rw[HG'.out];show A.n+i+1<=_;omega
   refine(Vp w6 yX.Xg aw8).mono ?_;rintro e w7 ⟨rfl,h7,f7⟩;have J:=aT (yX.AZ f7 h7);clear yX h7 f7;have hRa:=J.rb.2.2.2
   go_wp2_with (first|(refine Great.wpList_buildSliceTo rfl 94 3 1 _ rfl _ rfl _ rfl underlying94 #[.int .i64 ((g'.n:Int)+1)] jK ?_)|(at_builtin;refine adg _ rfl _ _ 94 rfl RB 3 iI (.int .i64 0) 1 8 underlying94 hiI hI0 hI1 bP rfl jD _ i _ rfl (J.rm.alloc _) ⟨w7.heap.size,0,none⟩ 1 1 [.int .i64 ((g'.n:Int)+1)] rfl ?c1 ?c2 ?c3 ?c4 ?c5 ?c6 ?_;(case c1=>rfl);(case c2=>exact Y1 rfl);(case c3=>intro u hu;rw[aac.1 hu];rfl);(case c4=>unfold maxLen;omega);(case c5=>omega);(case c6=>rw[ah];omega);intro v' w8 C T _;obtain⟨ta,tc,rfl⟩:=ZI C;have HP8:=aT (J.grM (Zj (aea w7 _ _) T) C);clear C T))
   have iw:=jW i;have HX1:Hid (VI ((src.take (i+1)).map (·.1))=VI ((src.take i).map (·.1))++[.int .u32 num]):=by show _=_;rw[afb,HSX.out,acf,IU];rfl
   have xd:Hid (UN ((List.range (i+1)).map (λj=>A.n+1+j))=UN ((List.range i).map (λj=>A.n+1+j))++[.int .i64 ((g'.n:Int)+1)]):=by show _=_;rw[ame,acf,IQ,HG'.out];show _++[Value.int .i64 ((A.n+1+i:Nat):Int)]=_++[Value.int .i64 (((A.n+i:Nat):Int)+1)];rw[show((A.n+1+i:Nat):Int)=((A.n+i:Nat):Int)+1 from jO]
   have KH:Hid (g'.mark=⟨A.l,A.n+(i+1),A.b⟩):=by rw[HG'.out];rfl
   clear hRa J;go_wp2_with fail;go_roundg (n-i);case measure=>omega
   case rel=>exact⟨i+1,g'.mark,jO,jO,by go_num,KH,by rw[HX1.out,xd.out];exact HP8⟩
  ·obtain rfl:n=i:=by omega
   have Y8:¬(n:Int)<(n:Int):=jO;rw[abd (by rw[HSL.out];exact aR _)] at D;have hgm:((List.range n).map (λj=>A.n+1+j)).length=n:=by rw[aad,afc]
   have gi:=vO src (A.n+1);rw[HSL.out] at gi;obtain⟨na,nc,rfl⟩:=ZI D.rn;obtain⟨ma,mc,rfl⟩:=ZI D.rm;have lH:(src.map (·.1)).length=n:=by rw[aad,HSL.out]
   have AY:=Lt D.rn;have BS:LO<=wr.heap.size:=aO RX D.fr.2.1;obtain⟨gS,hgS⟩:=jX (ZH ow (Vt src (A.n+1)) g');have hR2:=aw7.out;rw[<-HG'.out,hgS] at hR2;have hGS:GB gS:=by have h1:=ai7.out;rw[<-hR2] at h1;exact h1.back (TE ow _ _ _)
   have ai9:Wj g':=by rw[HG'.out];exact⟨Jv.keys,Jv.Fw,aO Jv.len (Nat.le_add_right _ _)⟩
   have sL:Wj gS:=by rw[<-hgS];exact UO ow _ _ _ (aR _) ai9
   have fE:=aT (KS (ow:=ow) (ms:=(List.range n).map (λj=>A.n+1+j)) (l:=src.map (·.1)) lH jO (aeg.2 HST.out) hgm wr D.Xg (IP lH D.rn) AY.1 AY.2 (aR _) (Zd (by rw[hgm];exact D.rm) (aO RX D.rb.1)) (by rw[gi,hgS];exact hGS) BS);have HZ:=aT gi;have HGS:=aT hgS;have KJ:=aT hR2;have cQ:=aT sL;clear gi hgm AY lH hgS hR2 hGS ai9 sL BS;go_wp2_with fail;refine fE.mono ?_;rintro e w5 ⟨rfl,v5,h5,f5⟩;rw[HZ.out,HGS.out] at h5;have Cf:=aT (D.AZ f5 h5);clear h5 f5 fE D HZ;go_upto_region 12 with fail;go_loopg [47] (n+1) (λgg iv wr=>∃(i:Nat) (v':Value) (g':G),i<=n/\n-i<gg/\iv=.int .i64 (i:Int)/\Hid (Vd LO M Bm N a ow mB pB aB oB q w LB ds src (.slice la n lc) n RB wr v' g' n (.slice na n nc) (VI (src.map (·.1))) n (.slice ma n mc) (UN ((List.range n).map (λj=>A.n+1+j))))/\Hid (Wj g')/\Hid (Yb ow ((src.drop i).map (·.2)) (A.n+1+i) g'=RG));case atStart=>exact⟨0,v5,gS,abc _,jO,rfl,Cf,cQ,KJ⟩
   case round=>
    obtain⟨i,v',g9,zm,VP,rfl,D,HO9,HD9⟩:=hrel;clear Cf;have i0:=jZ i;by_cases hlt:i<n
    ·have Y8:(i:Int)<(n:Int):=by omega
     obtain⟨x,hx⟩:∃x,ds[i]? =some x:=⟨_,aM (by rw[HN.out];exact hlt)⟩;obtain⟨gB,rfl,AY,IG⟩:=Ye RS 2 (λ_=>rfl) HN D.pt.own hx;obtain⟨sg,rfl,aF0,hcm⟩:=Ye (λm:Nat=>[Value.int .i64 m]) 1 (λ_=>rfl) (by rw[aad,afc]) D.rm (i:=i) (x:=A.n+1+i) (by rw[ada,aoa hlt];rfl);have y0:=IG 0 jD;have y1:=IG 1 jD;have y2:=hcm 0 jD;have mK:src[i]? =some (ghost x):=by rw[<-D.out.pt.src,ada,hx];rfl
     have hdx:=D.pt.does x (af hx);obtain⟨csx,Z⟩:=hdx.fn;have U:=HD9.out;rw[drop_cons mK,aec] at U;obtain⟨mk,zj⟩:=jX (A.n+1+i);rw[zj] at y2 U;have HMK:=aT zj;obtain⟨⟨num,ai8⟩,⟨f,cs⟩,tp⟩:=x;simp only[RS,aL,aF,aeb,aqd] at y0 y1 y2;have U:Yb ow ((src.drop (i+1)).map (·.2)) (mk+1) (VV ow tp (g9.here mk))=RG:=U;have hgp:GB (VV ow tp (g9.here mk)):=by have h1:=ai7.out;rw[<-U] at h1;exact h1.back (TE ow _ _ _)
     have hgh:=hgp.back (Eg ow tp (g9.here mk));have JB:g9.l.length+1<=1000000:=by have h1:=hgh.1;simp[G.here] at h1;omega
     have HGP:=aT hgp;have dr:=aT U;have HFX:=aT Z;have HX:=aT hx;have Y:=aT (D.alloc (.cells #[.int .u32 num,.func (.func f) #[] cs] BI));have Uy:=aT (Z7.new wr BI #[.int .u32 num,.func (.func f) #[] cs]);clear IG hcm hx mK hdx Z U hgp hgh zj D;go_upto_region 14 with fail;clear y0 y1;have y2:(wr.alloc (.cells #[.int .u32 num,.func (.func f) #[] cs] BI)).cell? ⟨sg,i,none⟩=some (.int .i64 mk):=((aH wr.heap.size wr).alloc (aR _) _).cell (p:=⟨sg,i,none⟩) (afe _ _ y2) |>.trans y2;generalize wr.alloc (.cells #[.int .u32 num,.func (.func f) #[] cs] BI)=wa at*;generalize wr.heap.size=B1 at*;have aw9:LO<=wa.heap.size:=aO RX Y.fr.2.1;go_wp2_with fail;refine(K0 (m:=mk) wa Y.Xg JB aw9).mono ?_;rintro e w7 ⟨rfl,v7,h7,f7⟩;have J:=aT (Y.AZ f7 h7);have Sm:=f7.YC Y.Xg Uy jD jD;have z1:w7.cell? ⟨B1,1,none⟩=some (.func (.func f) #[] cs):=by simpa using Sm.cell 1
     have HCx:=aT (sI (ow:=ow) (⟨num,ai8⟩,(f,cs),tp) w7 (J.pt.does _ (af HX)) J.bx J.Xg (HO9.here mk) HGP hN (aO RX J.fr.2.1));have iw:=jW i;clear Y Uy Sm h7 f7 y2;have Z:=HFX.out;clear HFX;unfold UM at HCx;dsimp only at Z HCx;rcases Z with Z|Z|Z
     all_goals
      injection Z with vM hf2;clear hf2;subst vM;go_wp2_with fail;refine HCx.mono ?_;rintro e w8 ⟨rfl,v8,h8,f8,o8⟩;have HP8:=aT (J.AZ f8 h8);have Im:=aT o8;have bB:Hid (Yb ow ((src.drop (i+1)).map (·.2)) (A.n+1+(i+1)) (VV ow tp (g9.here mk))=RG):=by have h1:=dr.out;rw[<-HMK.out] at h1 ⊢;exact h1
      clear h8 f8 o8 HCx J z1;go_wp2_with fail;go_roundg (n-i);case measure=>omega
      case rel=>exact⟨i+1,v8,_,jO,jO,by go_num,HP8,Im,bB⟩
    ·obtain rfl:n=i:=by omega
     have Y8:¬(n:Int)<(n:Int):=jO;have En:g9=RG:=by have h1:=HD9.out;rw[anc (by rw[HSL.out];exact aR _)] at h1;exact h1
     subst En;go_wp2_with fail;go_end0;exact⟨rfl,v',src,HPM,HST,by rw[LQ.out];exact D.Xg,D.fr,by rw[LQ.out];exact HO9⟩
structure Uq(N:Nat)(W:World)(q:Ya)(es:Nat->List (Nat×List Z3))(s0 s1:List (Nat×Nat)):Prop where
 d:q.d<4294967296
 kq:∀a,a<5->WE N W (VO (q.e a)) (es a)
 aj0:∀a,a<5->∀e∈es a,cM e
 len:∀a,a<5->(es a).length<=4000
 m0:VK N W (VO q.s0) s0
 m1:VK N W (VO q.s1) s1
 c0:wW s0
 c1:wW s1
 nd:∀a,a<5->((ZZ a (es a) s0 s1).map (·.1)).Nodup
theorem Uq.below{N K:Nat}{W W':World}{q:Ya}{es:Nat->List (Nat×List Z3)}{s0 s1:List (Nat×Nat)}(h:Uq N W q es s0 s1)(hb:Below K W W')(hN:N<=K):Uq N W' q es s0 s1:=
 ⟨h.d,λa ha=>(h.kq a ha).below hb hN,h.aj0,h.len,h.m0.below hb hN,h.m1.below hb hN,h.c0,h.c1,h.nd⟩
def Od(LO M Bm a:Nat)(q:Ya)(es:Nat->List (Nat×List Z3))(s0 s1:List (Nat×Nat))(g:G)(w:World):Ending->World->Prop:=λe w'=>e=.returned (.tuple #[])/\∃v' ps,ps.Perm (ZZ a (es a) s0 s1)/\ps.Pairwise (λx y=>x.1<y.1)/\Zl LO M Bm w' v' (Za q.d ps g)/\Yh LO M Bm w w'/\Wj (Za q.d ps g)
theorem Oc{LO M Bm N a:Nat}{v:Value}{g:G}{q:Ya}{es:Nat->List (Nat×List Z3)}{s0 s1:List (Nat×Nat)}(w:World)(hp:Uq N w q es s0 s1)(ha:a<5)(h:Zl LO M Bm w v g)(D:Wj g)(A:g.sz+ZX (ZZ a (es a) s0 s1)<=900000)(hN:N<=LO)(C:LO<=w.heap.size):
 Calls prog 55 #[.pointer (some ⟨M,0,none⟩),.agg (ZA q),.int .i64 a] w (Od LO M Bm a q es s0 s1 g w):=
 vN q (es a) s0 s1 ha w h D hp.d (hp.kq a ha) (hp.aj0 a ha) (hp.len a ha) hp.m0 hp.m1 hp.c0 hp.c1 (hp.nd a ha) A hN C
theorem Km{W:World}{B:Nat}{q:Ya}(h:Z7 W B Xy (ZA q)):W.cell? ⟨B,0,none⟩=some (.int .u32 q.d)/\W.cell? ⟨B,1,none⟩=some (.bool q.x)/\W.cell? ⟨B,2,none⟩=some (.slice q.e0.1 q.e0.2.1 q.e0.2.2)/\W.cell? ⟨B,3,none⟩=some (.slice q.e1.1 q.e1.2.1 q.e1.2.2)/\W.cell? ⟨B,4,none⟩=some (.slice q.e2.1 q.e2.2.1 q.e2.2.2)/\W.cell? ⟨B,5,none⟩=some (.slice q.e3.1 q.e3.2.1 q.e3.2.2)/\W.cell? ⟨B,6,none⟩=some (.slice q.e4.1 q.e4.2.1 q.e4.2.2)/\W.cell? ⟨B,7,none⟩=some (.slice q.s0.1 q.s0.2.1 q.s0.2.2)/\W.cell? ⟨B,8,none⟩=some (.slice q.s1.1 q.s1.2.1 q.s1.2.2):=
 ⟨h.cell 0,h.cell 1,h.cell 2,h.cell 3,h.cell 4,h.cell 5,h.cell 6,h.cell 7,h.cell 8⟩
theorem ko{LO M Bm N:Nat}{v:Value}{g:G}{q:Ya}{es:Nat->List (Nat×List Z3)}{s0 s1:List (Nat×Nat)}(w:World)(hp:Uq N w q es s0 s1)(h:Zl LO M Bm w v g)(hg:Wj g)(hsz:g.sz+6+ZX (ZZ 0 (es 0) s0 s1)+ZX (ZZ 1 (es 1) s0 s1)<=900000)(hN:N<=LO)(RX:LO<=w.heap.size):
 Calls prog 54 #[.pointer (some ⟨M,0,none⟩),.agg (ZA q)] w λe w'=>e=.returned (.tuple #[])/\∃v' p0 p1,p0.Perm (ZZ 0 (es 0) s0 s1)/\p0.Pairwise (λx y=>x.1<y.1)/\(q.x=true->p1.Perm (ZZ 1 (es 1) s0 s1))/\(q.x=false->p1=[])/\p1.Pairwise (λx y=>x.1<y.1)/\Zl LO M Bm w' v' (Uz q.x q.d p0 p1 g)/\Yh LO M Bm w w'/\Wj (Uz q.x q.d p0 p1 g):=by
 have Ck:=Z7.new w Xy (ZA q);obtain⟨c0,c1,c2,c3,c4,c5,c6,c7,c8⟩:=Km Ck;have Ch:=aT Ck;have HH:=aT (h.al (.cells (ZA q) Xy));have HF:=aT (Yh.alloc (LO:=LO) (M:=M) (Bm:=Bm) (a:=w) (.cells (ZA q) Xy) RX);have HP:=aT (hp.below ((aH N w).alloc (aO hN RX) (.cells (ZA q) Xy)) (aR _));have Nb:LO<=(w.alloc (.cells (ZA q) Xy)).heap.size:=by rw[ah];omega
 have HG:=aT hg;have T:=aT hsz;have hd:=hp.d;have bE:(g.goes q.d).n<=1000000:=by have h1:=W8 g q.d;unfold G.sz at h1 hsz;omega
 have JB:(g.goes q.d).l.length+1<=1000000:=by have h1:=W8 g q.d;unfold G.sz at h1 hsz;omega
 clear Ck h hp hg hsz;unfold ZA VO at*;go_enter func54,ntmps54;go_upto_region 1 with fail;generalize w.alloc (.cells #[.int .u32 q.d,.bool q.x,.slice q.e0.1 q.e0.2.1 q.e0.2.2,.slice q.e1.1 q.e1.2.1 q.e1.2.2,.slice q.e2.1 q.e2.2.1 q.e2.2.2,.slice q.e3.1 q.e3.2.1 q.e3.2.2,.slice q.e4.1 q.e4.2.1 q.e4.2.2,.slice q.s0.1 q.s0.2.1 q.s0.2.2,.slice q.s1.1 q.s1.2.1 q.s1.2.2] Xy)=w1 at*;go_wp2_with fail;refine(Uc w1 HH HG hd bE Nb).mono ?_;rintro e w2 ⟨rfl,h2,f2⟩;have Ut:=aT (f2.YC HH Ch jD jD);have LR:=aT h2;have OH:=aT (HF.trans f2);have Gt:=aT (HP.below f2.1 hN);have Pa:LO<=w2.heap.size:=aO Nb f2.2.1;have Jv:=aT (HG.goes hd);clear h2 f2 Ch HH HF HP c0 c1 c2 c3 c4 c5 c6 c7 c8 Nb;obtain⟨ow,how⟩:=jX (look (g.goes q.d).b q.d);have HOW:=aT how;rw[how];clear how
 go_wp2_with (refine Great.wpList_buildSliceTo rfl 79 Wk 1 _ rfl _ rfl _ rfl underlying79 #[.int .i64 0,.int .u16 21,.int .u32 4294967295,.int .i64 ow,.int .i64 0] jK ?_)
 refine(Y0 (xs:=[ins 0x15 NONE ow 0]) w2 LR rfl rfl JB Pa).mono ?_;rintro e w3 ⟨rfl,v3,h3,f3⟩;obtain⟨C,hg1⟩:=jX ((g.goes q.d).put [ins 0x15 NONE ow 0]);rw[hg1] at h3;have Gk:=aT (f3.YC LR Ut jD jD);have HH3:=aT h3;have zk:=aT (OH.trans f3);have Gs:=aT (Gt.below f3.1 hN);have U:LO<=w3.heap.size:=aO Pa f3.2.1;have Z:Hid (Wj C):=by rw[<-hg1];exact Jv.put _
 have hs1:C.sz<=g.sz+2:=by rw[<-hg1,WD];have:=W8 g q.d;simp only[aj,acg];omega
 have lM:Hid (C=(g.goes q.d).put [ins 0x15 NONE (look (g.goes q.d).b q.d) 0]):=by rw[HOW.out];exact hg1.symm
 clear h3 f3 Ut LR OH Gt Pa Jv HOW hg1 bE JB;obtain⟨c0,c1,c2,c3,c4,c5,c6,c7,c8⟩:=Km Gk;cases hx:q.x with
 |false=>
  rw[hx] at c1;have bE:(C.goes Zo).n<=1000000:=by have h1:=W8 C Zo;have h2:=T.out;unfold G.sz at h1 h2 hs1;omega
  have JB:(C.goes Zo).l.length+1<=1000000:=by have h1:=W8 C Zo;have h2:=T.out;unfold G.sz at h1 h2 hs1;omega
  go_wp2_with fail;refine(Uc (c:=Zo) w3 HH3 Z jD bE U).mono ?_;rintro e w4 ⟨rfl,h4,f4⟩;have bA:=aT (f4.YC HH3 Gk jD jD);have lR:=aT h4;have Es:=aT (zk.trans f4);have fD:=aT (Gs.below f4.1 hN);have D:LO<=w4.heap.size:=aO U f4.2.1;have Y:Hid (Wj (C.goes Zo)):=Z.goes jD;clear h4 f4 Gk HH3 zk Gs U Z c0 c1 c2 c3 c4 c5 c6 c7 c8;obtain⟨kw,hkw⟩:=jX (look (C.goes Zo).b Zo);have HKW:=aT hkw;rw[hkw];clear hkw
  go_wp2_with (refine Great.wpList_buildSliceTo rfl 79 Wk 1 _ rfl _ rfl _ rfl underlying79 #[.int .i64 0,.int .u16 69,.int .u32 1073741824,.int .i64 kw,.int .i64 0] jK ?_)
  refine(Y0 (xs:=[ins 0x45 V1 kw 0]) w4 lR rfl rfl JB D).mono ?_;rintro e w5 ⟨rfl,v5,h5,f5⟩;have mR:=f5.YC lR bA jD jD;have tX:=aT (Es.trans f5);have OE:LO<=w5.heap.size:=aO D f5.2.1;have hs5:((C.goes Zo).put [ins 0x45 V1 kw 0]).sz<=g.sz+4:=by rw[WD];have:=W8 C Zo;simp only[aj,acg];omega
  have A:Hid (Calls prog 55 #[.pointer (some ⟨M,0,none⟩),.agg (ZA q),.int .i64 0] w5 (Od LO M Bm 0 q es s0 s1 ((C.goes Zo).put [ins 0x45 V1 kw 0]) w5)):=
   Oc (a:=0) w5 (fD.below f5.1 hN) jD h5 (Y.put _) (by have:=T.out;omega) hN OE
  clear h5 f5 bA lR Es fD D Y;obtain⟨c0,c1,c2,c3,c4,c5,c6,c7,c8⟩:=Km mR;clear mR;unfold ZA VO at A;rw[hx] at A c1;go_wp2_with fail;refine A.mono ?_;rintro e w6 ⟨rfl,v6,p0,I,J,h6,f6,o6⟩;have fC:=aT h6;have lL:=aT (tX.trans f6);have HR:=aT (And.intro I (And.intro J o6));have HE:Hid (Uz false q.d p0 [] g=Za q.d p0 ((C.goes Zo).put [ins 0x45 V1 kw 0])):=by show Uz false q.d p0 [] g=_;unfold Uz;rw[<-lM.out];dsimp only;rw[HKW.out];rfl
  clear h6 f6 I J o6 A tX c0 c1 c2 c3 c4 c5 c6 c7 c8;go_wp2_with fail
  first
   |(go_end0;exact⟨rfl,v6,p0,[],HR.1,HR.2.1,λh=>(by rw[hx] at h;cases h),λ_=>rfl,List.Pairwise.nil,by rw[hx,HE.out];exact fC,lL,by rw[hx,HE.out];exact HR.2.2⟩)
   |(refine aag (aog rfl _ _ _) rfl ?_;exact⟨rfl,v6,p0,[],HR.1,HR.2.1,λh=>(by rw[hx] at h;cases h),λ_=>rfl,List.Pairwise.nil,by rw[hx,HE.out];exact fC,lL,by rw[hx,HE.out];exact HR.2.2⟩)
 |true=>
  rw[hx] at c1;have zi:C.n+1<=1000000:=by have h2:=T.out;unfold G.sz at h2 hs1;omega
  have JB:C.mark.l.length+1<=1000000:=by have h2:=T.out;unfold G.sz at h2 hs1;show C.l.length+1<=_;omega
  go_wp2_with fail;refine(Vp w3 HH3 zi).mono ?_;rintro e w4 ⟨rfl,h4,f4⟩;have bA:=aT (f4.YC HH3 Gk jD jD);have lR:=aT h4;have Es:=aT (zk.trans f4);have fD:=aT (Gs.below f4.1 hN);have D:LO<=w4.heap.size:=aO U f4.2.1;have Y:Hid (Wj C.mark):=Z.mark;clear h4 f4 Gk HH3 zk Gs U Z c0 c1 c2 c3 c4 c5 c6 c7 c8
  go_wp2_with (refine Great.wpList_buildSliceTo rfl 79 Wk 1 _ rfl _ rfl _ rfl underlying79 #[.int .i64 0,.int .u16 69,.int .u32 1073741824,.int .i64 ((C.n:Int)+1),.int .i64 0] jK ?_)
  refine(Y0 (xs:=[ins 0x45 V1 ((C.n+1:Nat):Int) 0]) w4 lR rfl rfl JB D).mono ?_;rintro e w5 ⟨rfl,v5,h5,f5⟩;have mR:=f5.YC lR bA jD jD;have tX:=aT (Es.trans f5);have OE:LO<=w5.heap.size:=aO D f5.2.1;have hs5:(C.mark.put [ins 0x45 V1 ((C.n+1:Nat):Int) 0]).sz<=g.sz+4:=by rw[WD,OD];simp only[aj,acg];omega
  have Cf:=aT (fD.below f5.1 hN)
  have A:Hid (Calls prog 55 #[.pointer (some ⟨M,0,none⟩),.agg (ZA q),.int .i64 0] w5 (Od LO M Bm 0 q es s0 s1 (C.mark.put [ins 0x45 V1 ((C.n+1:Nat):Int) 0]) w5)):=
   Oc (a:=0) w5 Cf jD h5 (Y.put _) (by have:=T.out;omega) hN OE
  have HH5:=aT h5;have sG:=aT mR;clear h5 f5 bA lR Es fD D Y;obtain⟨c0,c1,c2,c3,c4,c5,c6,c7,c8⟩:=Km mR;clear mR;unfold ZA VO at A;rw[hx] at A c1;go_wp2_with fail;refine A.mono ?_;rintro e w6 ⟨rfl,v6,p0,I,J,h6,f6,o6⟩;clear c0 c1 c2 c3 c4 c5 c6 c7 c8;obtain⟨g6,km⟩:=jX (Za q.d p0 (C.mark.put [ins 0x45 V1 ((C.n+1:Nat):Int) 0]));have hs6:g6.sz<=g.sz+4+ZX (ZZ 0 (es 0) s0 s1):=by rw[<-km,<-Y7 I];exact aO (WC q.d p0 _) jO
  have HG6:=aT km;rw[km] at h6 o6;have Gg:=aT (f6.YC HH5 sG jD jD);have fC:=aT h6;have lL:=aT (tX.trans f6);have yX:=aT (Cf.below f6.1 hN);have HR:=aT (And.intro I (And.intro J o6));have Eo:LO<=w6.heap.size:=aO OE f6.2.1;have hl6:g6.l.length+1<=1000000:=by have h2:=T.out;unfold G.sz at h2 hs6;omega
  clear h6 f6 I J o6 A tX HH5 sG Cf km;go_wp2_with fail;refine(T7 (m:=C.n) w6 fC hl6 Eo).mono ?_;rintro e w7 ⟨rfl,v7,h7,f7⟩;have hA7:=f7.YC fC Gg jD jD;have HF7:=aT (lL.trans f7);have ax0:LO<=w7.heap.size:=aO Eo f7.2.1
  have A:Hid (Calls prog 55 #[.pointer (some ⟨M,0,none⟩),.agg (ZA q),.int .i64 1] w7 (Od LO M Bm 1 q es s0 s1 (g6.here (C.n+1)) w7)):=
   Oc (a:=1) w7 (yX.below f7.1 hN) jD h7 (HR.2.2.here _) (by rw[UQ];have:=T.out;omega) hN ax0
  clear h7 f7 Gg fC lL yX Eo;obtain⟨c0,c1,c2,c3,c4,c5,c6,c7,c8⟩:=Km hA7;clear hA7;unfold ZA VO at A;rw[hx] at A c1;go_wp2_with fail;refine A.mono ?_;rintro e w8 ⟨rfl,v8,p1,I,J,h8,f8,o8⟩;have HH8:=aT h8;have HF8:=aT (HF7.trans f8);have fB:=aT (And.intro I (And.intro J o8));have HE:Hid (Uz true q.d p0 p1 g=Za q.d p1 (g6.here (C.n+1))):=by show Uz true q.d p0 p1 g=_;unfold Uz;rw[<-lM.out,<-HG6.out];rfl
  clear h8 f8 I J o8 A HF7 c0 c1 c2 c3 c4 c5 c6 c7 c8;go_wp2_with fail;go_end0;exact⟨rfl,v8,p0,p1,HR.1,HR.2.1,λ_=>fB.1,λh=>(by rw[hx] at h;cases h),fB.2.1,by rw[hx,HE.out];exact HH8,HF8,by rw[hx,HE.out];exact fB.2.2⟩
end Go.Proofs.YtclgigmgbebhgaaGreatDoor
namespace Go.Proofs.YtclgigmgbebhgaaGreatDoor
open Tryz
open Go Go.Proofs
def VC(l:List Z9)(at_:Nat->Nat)(ZU far:Nat->Bool)(n:Nat):List ZN:=
 match (Z6 l)[n]? with
 |some x=>encI x (ZU n) (far n) (at_ n) (at_ (target l n x.t)) (at_ (target l n x.f))
 |none=>[]
theorem VY{l:List Z9}{at_:Nat->Nat}{ZU far:Nat->Bool}{n:Nat}{x:Z9}(h:(Z6 l)[n]? =some x):VC l at_ ZU far n=encI x (ZU n) (far n) (at_ n) (at_ (target l n x.t)) (at_ (target l n x.f)):=by
 unfold VC;rw[h]
theorem O0(E:Nat->List ZN)(at_:Nat->Nat)(N:Nat)(A:at_ 0=0)(hs:∀n,n<N->at_ (n+1)=at_ n+(E n).length):∀n,n<=N->at_ n=((List.range n).flatMap E).length
 |0,_=>by simp[A]
 |n+1,h=>by rw[hs n jO,O0 E at_ N A hs n jO,ame,acb,ay];simp
theorem range_split(E:Nat->List ZN):∀(d n:Nat),(List.range (n+d)).flatMap E=(List.range n).flatMap E++(List.range d).flatMap (λj=>E (n+j))
 |0,n=>jS
 |d+1,n=>by rw[<-amd,ame,acb,range_split E d n,ame,acb,aba];simp
theorem bz{l:List Z9}{out:List ZN}{at_:Nat->Nat}{ZU far:Nat->Bool}
 (code:∀x∈Z6 l,x.code=0x20\/x.code=0x54\/x.code=0x05\/x.code=0x06\/YV x.code=true)
 (D:at_ 0=0) (hs:∀n,n<(Z6 l).length->at_ (n+1)=at_ n+(VC l at_ ZU far n).length)
 (ho:out=(List.range (Z6 l).length).flatMap (VC l at_ ZU far))
 (branch:∀(n:Nat) (x:Z9),(Z6 l)[n]? =some x->far n=true->YV x.code=true)
 (plain:∀(n:Nat) (x:Z9),(Z6 l)[n]? =some x->x.code=0x20\/x.code=0x54->x.t=0)
 (yes:∀(n:Nat) (x:Z9),(Z6 l)[n]? =some x->ZU n=false->x.code≠0x06->ZU (target l n x.t)=false)
 (no:∀(n:Nat) (x:Z9),(Z6 l)[n]? =some x->ZU n=false->YV x.code=true->ZU (target l n x.f)=false):UY l out at_ ZU far:=by
 have C:=O0 (VC l at_ ZU far) at_ (Z6 l).length D hs;have A:∀n,n<=(Z6 l).length->out.drop (at_ n)=(List.range ((Z6 l).length-n)).flatMap (λj=>VC l at_ ZU far (n+j)):=by intro n hn;have e:=range_split (VC l at_ ZU far) ((Z6 l).length-n) n;rw[show n+((Z6 l).length-n)=(Z6 l).length from jO,<-ho] at e;rw[e,C n hn,List.drop_left]
 refine⟨code,λn x hx=> ?_,λn x hx=> ?_,?_,branch,plain,yes,no⟩;·have hn:=(au.1 hx).1;rw[hs n hn,VY hx]
 ·have hn:=(au.1 hx).1;rw[A n jO,A (n+1) jO,<-VY hx,show(Z6 l).length-n=((Z6 l).length-(n+1))+1 from jO,List.range_succ_eq_map,acd,aeb]
  congr 1
  rw[List.flatMap_map]
  congr 1
  funext j
  show VC l at_ ZU far (n+(j+1))=VC l at_ ZU far (n+1+j);rw[show n+(j+1)=n+1+j from jO]
 ·rw[A _ (aR _),alb];rfl
def qW(i:ZN)(rest:Nat):Prop:=
 (i.code=0x20\/i.code=0x54\/i.code=0x05\/i.code=0x06\/YV i.code=true)/\(i.code=0x20->i.k%4=0/\i.k<64)/\(i.code=0x05->i.k<rest)/\(YV i.code=true->i.jt<rest/\i.jf<rest)
theorem Ik{l:List Z9}(hf:ZR l){p r:List Z9}{x:Z9}(e:l=p++x::r)(hx:x.mark=0){m:Int}(hm:m≠0->m∈marks r)(hr:Z6 r≠[])(A:∀q y,l=q++[y]->y.mark=0):target l (Z6 p).length m<(Z6 l).length:=by
 subst e;obtain⟨q,hq,ht,_,hle⟩:=Vv hf hx hm;rw[ht];have:Z6 (goto m r)≠[]:=by
  unfold goto at hq ⊢;by_cases J:m=0;·rw[aG J];exact hr
  ·rw[aN J] at hq ⊢;intro C;obtain⟨q2,U⟩:=R3 r m J (hm J);cases D:U5 m r with
   |nil=>
    rw[D,ade] at U;have I:∀(r:List Z9),m∈marks r->U5 m r=[]->∃q y,r=q++[y]/\y.mark=m:=by
     intro r
     induction r with
     |nil=>intro h _;simp[marks] at h
     |cons y ys ih=>
      intro h Y;unfold U5 at Y;by_cases e:y.mark=m;·rw[aG e] at Y;subst Y;exact⟨[],y,rfl,e⟩
      ·rw[aN e] at Y
       have h3:m∈marks ys:=by
        by_cases hz:y.mark=0;·rwa [Y2 hz] at h
        ·rw[Zq hz] at h;rcases abf.1 h with rfl|h;·exact absurd rfl e
         ·exact h
       obtain⟨q,z,T,Z⟩:=ih h3 Y;exact⟨y::q,z,by rw[T];rfl,Z⟩
    obtain⟨q3,y,T,Z⟩:=I r (hm J) D;have:=A (p++x::q3) y (by rw[T];simp);exact J (Z.symm.trans this)
   |cons z zs=>
    have hl:∃q y,U5 m r=q++[y]:=by rw[D];exact⟨(z::zs).dropLast,(z::zs).getLast jS,(ape jS).symm⟩
    obtain⟨q3,y,T⟩:=hl;have hy:=A (p++x::(q2++q3)) y (by rw[U,T];simp);rw[T,Yn,YD hy] at C;simp at C
 have ax1:0<(Z6 (goto m r)).length:=ayc.2 this;omega
end Go.Proofs.YtclgigmgbebhgaaGreatDoor
namespace Go.Proofs.YtclgigmgbebhgaaGreatDoor
open Tryz
open Go Go.Proofs Go.RowKit Go.Maps Go.WideMaps Go.ChangeMaps
variable {W:World}
def Up:List (Value×Value):=[(.int .u16 32,.int .i64 1),(.int .u16 0,.int .i64 2),(.int .u16 96,.int .i64 3),(.int .u16 128,.int .i64 4),(.int .u16 1,.int .i64 5),(.int .u16 97,.int .i64 6),(.int .u16 129,.int .i64 7),(.int .u16 2,.int .i64 8),(.int .u16 3,.int .i64 9),(.int .u16 7,.int .i64 10),(.int .u16 135,.int .i64 11),(.int .u16 132,.int .i64 12),(.int .u16 5,.int .i64 13),(.int .u16 6,.int .i64 14),(.int .u16 22,.int .i64 15)]
def PE:List (Value×Value):=[(.int .u16 4,.int .i64 16),(.int .u16 20,.int .i64 17),(.int .u16 36,.int .i64 18),(.int .u16 52,.int .i64 19),(.int .u16 68,.int .i64 20),(.int .u16 84,.int .i64 21),(.int .u16 100,.int .i64 22),(.int .u16 116,.int .i64 23),(.int .u16 164,.int .i64 24),(.int .u16 21,.int .i64 25),(.int .u16 37,.int .i64 26),(.int .u16 53,.int .i64 27),(.int .u16 69,.int .i64 28)]
theorem Kl:Keyed prog 137:=int_keyed underlying137
theorem qV(n:Int)(h:0<=n/\n<=65535):∃l,keyOf prog 137 (.int .u16 n)=some l:=⟨_,keyOf_int_mk underlying137 (by
 show(decide (IntKind.u16.min<=n)&&decide (n<=IntKind.u16.max))=true;rw[show IntKind.u16.min=0 from jD,show IntKind.u16.max=65535 from jD];simp only[agc,aed];exact h)⟩
theorem WO(w:World):Calls prog 178 #[] w λe w'=>e=.returned (.map (some w.heap.size))/\ZB w' w.heap.size Up/\Below w.heap.size w w':=by
 have D:= @apc prog;have A:=aT (Nz.made w);go_enter func178,ntmps178
 go_wp2_with (refine YU rfl rfl 298 _ _ _ rfl 137 162 Kl underlying298 w w.heap.size _ A rfl _ _ rfl rfl ?hS ?hk ?hn ?_;(case hk=>exact qV _ jO);(case hS=>exact RV underlying137 jR);(case hn=>exact KZ jR);clear A;intro I C;have A:=aT C;clear C)
 go_ret;exact⟨rfl,A.map,(aH _ w).grown A.grown (aR _) (λk e=>by have:=ax e;omega)⟩
theorem Rw(w:World):Calls prog 179 #[] w λe w'=>e=.returned (.map (some w.heap.size))/\ZB w' w.heap.size PE/\Below w.heap.size w w':=by
 have D:= @apc prog;have A:=aT (Nz.made w);go_enter func179,ntmps179
 go_wp2_with (refine YU rfl rfl 298 _ _ _ rfl 137 162 Kl underlying298 w w.heap.size _ A rfl _ _ rfl rfl ?hS ?hk ?hn ?_;(case hk=>exact qV _ jO);(case hS=>exact RV underlying137 jR);(case hn=>exact KZ jR);clear A;intro I C;have A:=aT C;clear C)
 go_ret;exact⟨rfl,A.map,(aH _ w).grown A.grown (aR _) (λk e=>by have:=ax e;omega)⟩
theorem DA:Up.Pairwise (λp q=>p.1≠q.1):=by simp[Up]
theorem AX:PE.Pairwise (λp q=>p.1≠q.1):=by simp[PE]
theorem aj1:∀W,(zeroValue 162).run prog W=.ok (.int .i64 0) W:=λ_=>jK
theorem M9 {B:Nat}(h:ZB W B Up){c k:Int}(hc:0<=c/\c<=65535)(hm:(.int .u16 c,.int .i64 k)∈Up):(Instr.lookup 298 (.map (some B)) (.int .u16 c) true).run prog W=.ok (.tuple #[.int .i64 k,.bool true]) W:=
 Ld underlying298 Kl h (RV underlying137 jR) (qV c hc) hm DA
theorem TU {B:Nat}(h:ZB W B Up){c:Int}(hc:0<=c/\c<=65535)(hm:Up.all (lV c)=true):(Instr.lookup 298 (.map (some B)) (.int .u16 c) true).run prog W=.ok (.tuple #[.int .i64 0,.bool false]) W:=
 B7 underlying298 Kl aj1 h (RV underlying137 jR) (qV c hc) (KZ hm)
theorem Rv {B:Nat}(h:ZB W B PE){c k:Int}(hc:0<=c/\c<=65535)(hm:(.int .u16 c,.int .i64 k)∈PE):(Instr.lookup 298 (.map (some B)) (.int .u16 c) true).run prog W=.ok (.tuple #[.int .i64 k,.bool true]) W:=
 Ld underlying298 Kl h (RV underlying137 jR) (qV c hc) hm AX
def Zz(c:Nat):Nat:=if c=0x20 then 1 else if c=0x54 then 21 else if c=0x05 then 13 else if c=0x06 then 14 else if c=0x15 then 25 else if c=0x25 then 26 else if c=0x35 then 27 else 28
def codeOk(c:Nat):Prop:=c=0x20\/c=0x54\/c=0x05\/c=0x06\/c=0x15\/c=0x25\/c=0x35\/c=0x45
theorem Ij{c:Nat}(h:c=0x20\/c=0x54\/c=0x05\/c=0x06\/YV c=true):codeOk c:=by
 unfold codeOk;unfold YV at h;simp only[atb,ahd] at h;omega
def SA(c:Nat)(w:World):Ending->World->Prop:=λe w'=>e=.returned (.tuple #[.int .i64 (Zz c:Int),.bool false,.bool true])/\Below w.heap.size w w'
theorem aj2(w:World):Calls prog 109 #[.int .u16 32] w (SA 32 w):=by
 go_enter func109,ntmps109;go_wp2_with fail;refine(WO w).mono ?_;rintro e C ⟨rfl,hm,hb⟩;have D:=M9 (c:=32) (k:=1) hm jD (by simp[Up]);have A:=aT hb;clear hm hb;go_wp2_with fail;go_ret3;exact⟨rfl,A⟩
theorem bN(w:World):Calls prog 109 #[.int .u16 5] w (SA 5 w):=by
 go_enter func109,ntmps109;go_wp2_with fail;refine(WO w).mono ?_;rintro e C ⟨rfl,hm,hb⟩;have D:=M9 (c:=5) (k:=13) hm jD (by simp[Up]);have A:=aT hb;clear hm hb;go_wp2_with fail;go_ret3;exact⟨rfl,A⟩
theorem ry(w:World):Calls prog 109 #[.int .u16 6] w (SA 6 w):=by
 go_enter func109,ntmps109;go_wp2_with fail;refine(WO w).mono ?_;rintro e C ⟨rfl,hm,hb⟩;have D:=M9 (c:=6) (k:=14) hm jD (by simp[Up]);have A:=aT hb;clear hm hb;go_wp2_with fail;go_ret3;exact⟨rfl,A⟩
theorem aj3(w:World):Calls prog 109 #[.int .u16 84] w (SA 84 w):=by
 have Y:bits .andNot .u16 84 8=84:=jD;have T:bits .and .u16 84 8=0:=jD;go_enter func109,ntmps109;go_wp2_with fail;refine(WO w).mono ?_;rintro e I ⟨rfl,hm,hb⟩;have J:=TU (c:=84) hm jD jR;have C:=aT hb;clear hm hb;go_wp2_with fail;refine(Rw I).mono ?_;rintro e U ⟨rfl,hm,hb⟩;have D:=Rv (c:=84) (k:=21) hm jD (by simp[PE]);have A:=aT (C.trans (hb.mono C.size));clear hm hb J;go_wp2_with fail;go_ret3;exact⟨rfl,A⟩
theorem aj4(w:World):Calls prog 109 #[.int .u16 21] w (SA 21 w):=by
 have Y:bits .andNot .u16 21 8=21:=jD;have T:bits .and .u16 21 8=0:=jD;go_enter func109,ntmps109;go_wp2_with fail;refine(WO w).mono ?_;rintro e I ⟨rfl,hm,hb⟩;have J:=TU (c:=21) hm jD jR;have C:=aT hb;clear hm hb;go_wp2_with fail;refine(Rw I).mono ?_;rintro e U ⟨rfl,hm,hb⟩;have D:=Rv (c:=21) (k:=25) hm jD (by simp[PE]);have A:=aT (C.trans (hb.mono C.size));clear hm hb J;go_wp2_with fail;go_ret3;exact⟨rfl,A⟩
theorem aj5(w:World):Calls prog 109 #[.int .u16 37] w (SA 37 w):=by
 have Y:bits .andNot .u16 37 8=37:=jD;have T:bits .and .u16 37 8=0:=jD;go_enter func109,ntmps109;go_wp2_with fail;refine(WO w).mono ?_;rintro e I ⟨rfl,hm,hb⟩;have J:=TU (c:=37) hm jD jR;have C:=aT hb;clear hm hb;go_wp2_with fail;refine(Rw I).mono ?_;rintro e U ⟨rfl,hm,hb⟩;have D:=Rv (c:=37) (k:=26) hm jD (by simp[PE]);have A:=aT (C.trans (hb.mono C.size));clear hm hb J;go_wp2_with fail;go_ret3;exact⟨rfl,A⟩
theorem aj6(w:World):Calls prog 109 #[.int .u16 53] w (SA 53 w):=by
 have Y:bits .andNot .u16 53 8=53:=jD;have T:bits .and .u16 53 8=0:=jD;go_enter func109,ntmps109;go_wp2_with fail;refine(WO w).mono ?_;rintro e I ⟨rfl,hm,hb⟩;have J:=TU (c:=53) hm jD jR;have C:=aT hb;clear hm hb;go_wp2_with fail;refine(Rw I).mono ?_;rintro e U ⟨rfl,hm,hb⟩;have D:=Rv (c:=53) (k:=27) hm jD (by simp[PE]);have A:=aT (C.trans (hb.mono C.size));clear hm hb J;go_wp2_with fail;go_ret3;exact⟨rfl,A⟩
theorem aj7(w:World):Calls prog 109 #[.int .u16 69] w (SA 69 w):=by
 have Y:bits .andNot .u16 69 8=69:=jD;have T:bits .and .u16 69 8=0:=jD;go_enter func109,ntmps109;go_wp2_with fail;refine(WO w).mono ?_;rintro e I ⟨rfl,hm,hb⟩;have J:=TU (c:=69) hm jD jR;have C:=aT hb;clear hm hb;go_wp2_with fail;refine(Rw I).mono ?_;rintro e U ⟨rfl,hm,hb⟩;have D:=Rv (c:=69) (k:=28) hm jD (by simp[PE]);have A:=aT (C.trans (hb.mono C.size));clear hm hb J;go_wp2_with fail;go_ret3;exact⟨rfl,A⟩
theorem V7{c:Nat}(hc:codeOk c)(w:World):Calls prog 109 #[.int .u16 c] w (SA c w):=by
 rcases hc with rfl|rfl|rfl|rfl|rfl|rfl|rfl|rfl;·exact aj2 w
 ·exact aj3 w
 ·exact bN w
 ·exact ry w
 ·exact aj4 w
 ·exact aj5 w
 ·exact aj6 w
 ·exact aj7 w
end Go.Proofs.YtclgigmgbebhgaaGreatDoor
