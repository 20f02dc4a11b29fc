/- TopFirst: part 14: TopCalls TopX64 TopAsmQ TopInst. -/
import Derived.Test.YtclgigmgbebhgaaGreatDoorF06
set_option linter.unusedVariables false
set_option linter.unusedSimpArgs false
set_option maxRecDepth 100000
set_option maxHeartbeats 16000000
namespace Go.Proofs.YtclgigmgbebhgaaGreatDoor
open Tryz
open Go Go.Proofs Go.RowKit Go.Maps Go.WideMaps Go.ChangeMaps
theorem Y2{a b:List (Nat×ZM)}(h:a.Perm b):ZW a=ZW b:=by
 induction h with
 |nil=>rfl
 |cons x _ C=>show 6+Xx x.2+_=6+Xx x.2+_;rw[C]
 |swap x y l=>show 6+Xx y.2+(6+Xx x.2+ZW l)=6+Xx x.2+(6+Xx y.2+ZW l);omega
 |trans _ _ I D=>exact I.trans D
theorem vH{src ps:List (Nat×ZM)}(hp:ps.Perm src)(hs:ps.Pairwise (λx y=>x.1<=y.1))(hn:(src.map (·.1)).Nodup):ps.Pairwise (λx y=>x.1<y.1):=by
 have C:(ps.map (·.1)).Nodup:=(hp.map (·.1)).nodup_iff.2 hn;have D:ps.Pairwise (λx y=>x.1≠y.1):=afa.1 C;exact(hs.and D).imp (λ{x y} h=>Nat.lt_of_le_of_ne h.1 h.2)
structure U3(LO M Bm N a ow mB pB aB oB:Nat)(q:X5)(w0:World)(LB:Nat)(ds:List VL)(src:List (Nat×ZM))(vl:Value)(n RB:Nat)(W:World)(v:Value)(g:G)(i:Nat)(va:Value)(xs:List Value)(k:Nat)(vb:Value)(ys:List Value):Prop where
 Xc:Zj LO M Bm W v g
 fr:Yb LO M Bm w0 W
 rn:W.ownsRow RB 53 1 va i xs
 rm:W.ownsRow RB 3 1 vb k ys
 bx:TM W M ow a mB pB aB oB (Zy q)
 pt:Wx N LB a mB pB aB oB (Zy q) W vl n ds src
 lo:N<=LO/\LO<=w0.heap.size
 rb:w0.heap.size<=RB/\aB<RB/\oB<RB/\RB<=W.heap.size
section
variable {LO M Bm N a ow mB pB aB oB:Nat} {q:X5} {w0:World} {LB:Nat} {ds:List VL} {src:List (Nat×ZM)} {vl:Value} {n RB:Nat} {W:World} {v:Value} {g:G} {i:Nat} {va:Value} {xs:List Value} {k:Nat} {vb:Value} {ys:List Value}
theorem U3.alloc(h:U3 LO M Bm N a ow mB pB aB oB q w0 LB ds src vl n RB W v g i va xs k vb ys)(o:Obj):U3 LO M Bm N a ow mB pB aB oB q w0 LB ds src vl n RB (W.alloc o) v g i va xs k vb ys:=
 ⟨h.Xc.al o,h.fr.Gk h.lo.2 o,h.rn.alloc o,h.rm.alloc o,h.bx.mono (λB t cs _ C=>C.alloc o),⟨h.pt.own.alloc o,h.pt.len,λx hx=>(h.pt.does x hx).mono (λB cs C=>C.alloc o) ((aG N W).alloc (aO h.lo.1 (aO h.lo.2 h.fr.2.1)) o) (aR _),h.pt.src⟩,h.lo,h.rb.1,h.rb.2.1,h.rb.2.2.1,by rw[aj];have:=h.rb.2.2.2;omega⟩
theorem U3.A0{W':World}{v':Value}{g':G}(h:U3 LO M Bm N a ow mB pB aB oB q w0 LB ds src vl n RB W v g i va xs k vb ys)(f:Yb LO M Bm W W')(hm:Zj LO M Bm W' v' g'):U3 LO M Bm N a ow mB pB aB oB q w0 LB ds src vl n RB W' v' g' i va xs k vb ys:=
 ⟨hm,h.fr.trans f,f.TN h.Xc h.rn jD jD,f.TN h.Xc h.rm jD jD,⟨f.Yu h.Xc h.bx.hm jD jD,f.Yu h.Xc h.bx.hp jD jD,f.Yu h.Xc h.bx.ha jD jD,f.Yu h.Xc h.bx.ho jD jD⟩,
   ⟨f.TN h.Xc h.pt.own jD jD,h.pt.len,λx hx=>(h.pt.does x hx).mono (λB cs C=>f.Yu h.Xc C jD jD) f.1 h.lo.1,h.pt.src⟩,h.lo,h.rb.1,h.rb.2.1,h.rb.2.2.1,aO h.rb.2.2.2 f.2.1⟩
theorem U3.grN{W':World}{cI:Value}{i':Nat}{xs':List Value}(h:U3 LO M Bm N a ow mB pB aB oB q w0 LB ds src vl n RB W v g i va xs k vb ys)(C:W.grownBy W' va.ownBlock)(ho:W'.ownsRow RB 53 1 cI i' xs'):U3 LO M Bm N a ow mB pB aB oB q w0 LB ds src vl n RB W' v g i' cI xs' k vb ys:=by
 have D:N<=w0.heap.size:=aO h.lo.1 h.lo.2;have hb:Below N W W':=(aG N W).grown C (aO D h.fr.2.1) (λr e=>aO (aO D h.rb.1) (h.rn.lt r e).1)
 exact⟨Oq h.Xc h.rn C jD jD,Oo h.fr h.rn C h.rb.1 h.lo.2,ho,Xn h.rn C h.rm jD,⟨Zc h.rn C h.bx.hm jD,Zc h.rn C h.bx.hp jD,Zc h.rn C h.bx.ha jD,Zc h.rn C h.bx.ho jD⟩,
  ⟨Xn h.rn C h.pt.own jD,h.pt.len,λx hx=>(h.pt.does x hx).mono (λB cs I=>Zc h.rn C I jD) hb (aR _),h.pt.src⟩,h.lo,h.rb.1,h.rb.2.1,h.rb.2.2.1,aO h.rb.2.2.2 C.size⟩
theorem U3.grM{W':World}{vb':Value}{k':Nat}{ys':List Value}(h:U3 LO M Bm N a ow mB pB aB oB q w0 LB ds src vl n RB W v g i va xs k vb ys)(C:W.grownBy W' vb.ownBlock)(ho:W'.ownsRow RB 3 1 vb' k' ys'):U3 LO M Bm N a ow mB pB aB oB q w0 LB ds src vl n RB W' v g i va xs k' vb' ys':=by
 have D:N<=w0.heap.size:=aO h.lo.1 h.lo.2;have hb:Below N W W':=(aG N W).grown C (aO D h.fr.2.1) (λr e=>aO (aO D h.rb.1) (h.rm.lt r e).1)
 exact⟨Oq h.Xc h.rm C jD jD,Oo h.fr h.rm C h.rb.1 h.lo.2,Xn h.rm C h.rn jD,ho,⟨Zc h.rm C h.bx.hm jD,Zc h.rm C h.bx.hp jD,h.bx.ha.kept C (λe=>by have:=(h.rm.lt _ e.symm).1;have:=h.rb.2.1;omega),h.bx.ho.kept C (λe=>by have:=(h.rm.lt _ e.symm).1;have:=h.rb.2.2.1;omega)⟩,
  ⟨Xn h.rm C h.pt.own jD,h.pt.len,λx hx=>(h.pt.does x hx).mono (λB cs I=>Zc h.rm C I jD) hb (aR _),h.pt.src⟩,h.lo,h.rb.1,h.rb.2.1,h.rb.2.2.1,aO h.rb.2.2.2 C.size⟩
end
theorem vG:∀(ps:List (Nat×ZM)) (m:Nat),U9 (ps.map (·.1)) ((List.range ps.length).map (λj=>m+j)) 0=Vg ps m:=by
 intro ps;unfold U9
 induction ps with
 |nil=>intro m;rfl
 |cons p r C=>
  intro m;rw[auf,ai,List.range_succ_eq_map,aed,aed,List.zip_cons_cons,akd];show(p.1,m+0)::_=(p.1,m)::Vg r (m+1);rw[<-C (m+1),auf,aec]
  congr 2
  apply asb;intro j _;show m+(j+1)=m+1+j;omega
theorem vF{LO M Bm N a:Nat}{v:Value}{g:G}(q:X5)(es:List (Nat×List Z3))(s0 s1:List (Nat×Nat))(ha:a<5)(w:World)(h:Zj LO M Bm w v g)(hg:V9 g)(hd:q.d<4294967296)(he:WA N w (VD (q.e a)) es)(hec:∀e∈es,dc e)(tO:es.length<=4000)(hs0:Vy N w (VD q.s0) s0)(hs1:Vy N w (VD q.s1) s1)(hc0:wZ s0)(hc1:wZ s1)
 (hnd:((ZZ a es s0 s1).map (·.1)).Nodup) (hsz:g.sz+ZW (ZZ a es s0 s1)<=900000) (hN:N<=LO) (VS:LO<=w.heap.size):
 Calls prog 55 #[.pointer (some ⟨M,0,none⟩),.agg (Zy q),.int .i64 a] w λe w'=>e=.returned (.tuple #[])/\∃v' ps,ps.Perm (ZZ a es s0 s1)/\ps.Pairwise (λx y=>x.1<y.1)/\Zj LO M Bm w' v' (Y3 q.d ps g)/\Yb LO M Bm w w'/\V9 (Y3 q.d ps g):=by
 have J:=Z7.new w Xw (Zy q);have c0:=J.cell 0;have c1:=J.cell 1;have c2:=J.cell 2;have c3:=J.cell 3;have c4:=J.cell 4;have c5:=J.cell 5;have c6:=J.cell 6;have c7:=J.cell 7;have c8:=J.cell 8;unfold Zy VD at c0 c1 c2 c3 c4 c5 c6 c7 c8;simp only[au,aM,aH] at c0 c1 c2 c3 c4 c5 c6 c7 c8;have hlw:w.heap.size<(w.alloc (.cells (Zy q) Xw)).heap.size:=J.lt;have Ge:=aT J;have HH:=aT (h.al (.cells (Zy q) Xw));have HF:=aT (Yb.alloc (LO:=LO) (M:=M) (Bm:=Bm) (a:=w) (.cells (Zy q) Xw) VS);have hb0:Below N w (w.alloc (.cells (Zy q) Xw)):=(aG N w).alloc (aO hN VS) _;have HE:=aT (he.below hb0 (aR _));have UB:=aT (hs0.below hb0 (aR _));have Jn:=aT (hs1.below hb0 (aR _));have HEC:=aT hec;have HC:=aT (And.intro hc0 hc1);have HND:=aT hnd;have gz:=aT hsz;have HG:=aT hg;have MZ:LO<=(w.alloc (.cells (Zy q) Xw)).heap.size:=jO;clear J h he hs0 hs1 hec hc0 hc1 hnd hsz hg hb0;unfold Zy VD at*;go_enter func55,ntmps55;go_upto_region 1 with fail;generalize w.alloc (.cells #[.int .u32 q.d,.bool q.x,.slice q.e0.1 q.e0.2.1 q.e0.2.2,.slice q.e1.1 q.e1.2.1 q.e1.2.2,.slice q.e2.1 q.e2.2.1 q.e2.2.2,.slice q.e3.1 q.e3.2.1 q.e3.2.2,.slice q.e4.1 q.e4.2.1 q.e4.2.2,.slice q.s0.1 q.s0.2.1 q.s0.2.2,.slice q.s1.1 q.s1.2.1 q.s1.2.2] Xw)=w1 at*;have bS:(g.goes q.d).n<=1000000:=by have h1:=W4 g q.d;have h2:=gz.out;unfold G.sz at h1 h2;omega
 go_wp2_with fail;refine(TW w1 HH HG hd bS MZ).mono ?_;rintro e w2 ⟨rfl,h2,f2⟩;have sx:=f2.Yu HH Ge jD jD;have LD:=aT h2;have LF:=aT (HF.trans f2);have HE2:=aT (HE.below f2.1 hN);have ai3:=aT (UB.below f2.1 hN);have ai4:=aT (Jn.below f2.1 hN);have OZ:LO<=w2.heap.size:=aO MZ f2.2.1;clear h2 f2 Ge HH HF HE UB Jn c0 c1 c2 c3 c4 c5 c6 c7 c8 hlw MZ;obtain⟨c0,c1,c2,c3,c4,c5,c6,c7,c8⟩:=sx.q9;clear sx;obtain⟨C,hgd⟩:=jX (g.goes q.d);have Jh:Hid (V9 C):=by rw[<-hgd];exact HG.goes hd
 have HGD:=aT hgd;rw[hgd] at LD bS ⊢;clear hgd;obtain⟨ow,how⟩:=jX (look C.b q.d);have HOW:=aT how;rw[how];clear how;have HPA:=aT (wY (M:=M) (ow:=ow) (N:=N) q es s0 s1 ha w2 HE2 HEC tO ai3 ai4 HC.1 HC.2 (aO hN OZ));unfold Zy VD at HPA;go_wp2_with fail;refine HPA.mono ?_;rintro e w3 ⟨vl,mB,pB,aB,oB,ds,src,rfl,Kl,bR,hpt,Jl,hle⟩;clear HPA c0 c1 c2 c3 c4 c5 c6 c7 c8;obtain⟨n,hn⟩:=jX ds.length;rw[hn] at hpt;have yE:src.length=n:=by rw[<-hpt.src,aab,hn]
 have hnb:n<=4002:=by
  rw[<-yE,Jl.length_eq];unfold ZZ;rw[ay,aab];split;·show es.length+2<=_;omega
  ·show es.length+0<=_;omega
 have Y:=vH Jl hle HND;obtain⟨RG,gY⟩:=jX (Y3 q.d src g);have bQ:GB RG:=by rw[<-gY];refine GB.ag3 (aO (Wy q.d src g) ?_);rw[Y2 Jl];exact gz
 have bP:X7 ow (src.map (·.2)) (C.n+1) (ZH ow (Vg src (C.n+1)) ⟨C.l,C.n+n,C.b⟩)=RG:=by rw[<-gY];unfold Y3;rw[HGD.out,HOW.out,yE]
 have aI9:C.n+n<=900000:=by have h1:=bQ;rw[<-bP] at h1;exact(h1.back ((WV ow _ _ _ (aR _)).trans (Tm ow _ _ _))).2
 have kJ:Hid (U3 LO M Bm N a ow mB pB aB oB q w w2.heap.size ds src vl n w3.heap.size w3 v C 0 (.slice none 0 0) [] 0 (.slice none 0 0) []):=
  ⟨LD.Zr Kl,LF.trans (Yb.below Kl OZ),Ya _ _ _ _,Ya _ _ _ _,bR,hpt,⟨hN,VS⟩,aO LF.2.1 Kl.size,bR.ha.lt,bR.ho.lt,aR _⟩
 have HN:=aT hn;have HSL:=aT yE;have HST:=aT Y;have qL:=aT Jl;have LC:=aT gY;have aw7:=aT bP;have ai5:=aT bQ;obtain⟨la,lc,rfl⟩:=ZI hpt.own;generalize w3.heap.size=RB at*;generalize w2.heap.size=LB at*;clear Kl bR hpt Jl hle hn yE Y gY bP bQ HE2 ai3 ai4 LD LF HND gz;go_upto_region 6 with fail;go_loopg [8,9,25] (n+1) (λgg vn vm iv wr=>∃(i:Nat) (g':G),i<=n/\n-i<gg/\iv=.int .i64 (i:Int)/\Hid (g'=⟨C.l,C.n+i,C.b⟩)/\Hid (U3 LO M Bm N a ow mB pB aB oB q w LB ds src (.slice la n lc) n RB wr v g' i vn (Vw ((src.take i).map (·.1))) i vm (UC ((List.range i).map (λj=>C.n+1+j)))));case atStart=>exact⟨0,C,abd _,jO,rfl,rfl,kJ⟩
 case round=>
  obtain⟨i,g',sR,Vs,rfl,HG',I⟩:=hrel;clear kJ;have i0:=jZ i;by_cases hlt:i<n
  ·have Zd:(i:Int)<(n:Int):=by omega
   obtain⟨x,hx⟩:∃x,ds[i]? =some x:=⟨_,aL (by rw[HN.out];exact hlt)⟩;obtain⟨gB,rfl,Jd,Ny⟩:=X9 Rq 2 (λ_=>rfl) HN I.pt.own hx;have y0:=Ny 0 jD;have y1:=Ny 1 jD;have mU:src[i]? =some (ghost x):=by rw[<-I.out.pt.src,acd,hx];rfl
   have HSX:=aT mU;obtain⟨⟨num,ai6⟩,⟨f,cs⟩,tp⟩:=x;simp only[Rq,aM,aH,aec] at y0 y1;obtain⟨na,nc,rfl⟩:=ZI I.rn;obtain⟨ma,mc,rfl⟩:=ZI I.rm;have Z:=aT (I.alloc (.cells #[.int .u32 num,.func (.func f) #[] cs] BJ));have VE:=aT (Z7.new wr BJ #[.int .u32 num,.func (.func f) #[] cs]);clear Ny hx mU I;go_upto_region 8 with fail;clear y0 y1;generalize wr.alloc (.cells #[.int .u32 num,.func (.func f) #[] cs] BJ)=wa at*;generalize wr.heap.size=B1 at*;have z0:wa.cell? ⟨B1,0,none⟩=some (.int .u32 num):=by simpa using VE.out.cell 0
   obtain⟨iU,hiU,hU0,hU1,hU2⟩:=ZP zi;obtain⟨iI,hiI,hI0,hI1,cr⟩:=ZP zh;have hRa:=Z.rb.2.2.2
   go_wp2_with (first|(refine Great.wpList_buildSliceTo rfl 100 53 1 _ rfl _ rfl _ rfl underlying100 #[.int .u32 num] jK ?_)|(at_builtin;refine aea _ rfl _ _ 100 rfl RB 53 iU (.int .u32 0) 1 4 underlying100 hiU hU0 hU1 hU2 rfl jD _ i _ rfl (Z.rn.alloc _) ⟨wa.heap.size,0,none⟩ 1 1 [.int .u32 num] rfl ?c1 ?c2 ?c3 ?c4 ?c5 ?c6 ?_;(case c1=>rfl);(case c2=>exact YX rfl);(case c3=>intro u hu;rw[aaa.1 hu];rfl);(case c4=>unfold maxLen;omega);(case c5=>omega);(case c6=>rw[aj];omega);intro v' w6 D U _;obtain⟨sa,sc,rfl⟩:=ZI D;have yZ:=aT (Z.grN (Zf (aeb wa _ _) U) D);clear D U))
   clear z0 VE Z hRa;have aw8:g'.n+1<=1000000:=by rw[HG'.out];show C.n+i+1<=_;omega
   refine(Vc w6 yZ.Xc aw8).mono ?_;rintro e w7 ⟨rfl,h7,f7⟩;have T:=aT (yZ.A0 f7 h7);clear yZ h7 f7;have hRa:=T.rb.2.2.2
   go_wp2_with (first|(refine Great.wpList_buildSliceTo rfl 94 3 1 _ rfl _ rfl _ rfl underlying94 #[.int .i64 ((g'.n:Int)+1)] jK ?_)|(at_builtin;refine aea _ rfl _ _ 94 rfl RB 3 iI (.int .i64 0) 1 8 underlying94 hiI hI0 hI1 cr rfl jD _ i _ rfl (T.rm.alloc _) ⟨w7.heap.size,0,none⟩ 1 1 [.int .i64 ((g'.n:Int)+1)] rfl ?c1 ?c2 ?c3 ?c4 ?c5 ?c6 ?_;(case c1=>rfl);(case c2=>exact YX rfl);(case c3=>intro u hu;rw[aaa.1 hu];rfl);(case c4=>unfold maxLen;omega);(case c5=>omega);(case c6=>rw[aj];omega);intro v' w8 D U _;obtain⟨ta,tc,rfl⟩:=ZI D;have HP8:=aT (T.grM (Zf (aeb w7 _ _) U) D);clear D U))
   have iw:=jW i;have HX1:Hid (Vw ((src.take (i+1)).map (·.1))=Vw ((src.take i).map (·.1))++[.int .u32 num]):=by show _=_;rw[afd,HSX.out,ada,ID];rfl
   have xh:Hid (UC ((List.range (i+1)).map (λj=>C.n+1+j))=UC ((List.range i).map (λj=>C.n+1+j))++[.int .i64 ((g'.n:Int)+1)]):=by show _=_;rw[amc,ada,IC,HG'.out];show _++[Value.int .i64 ((C.n+1+i:Nat):Int)]=_++[Value.int .i64 (((C.n+i:Nat):Int)+1)];rw[show((C.n+1+i:Nat):Int)=((C.n+i:Nat):Int)+1 from jO]
   have DZ:Hid (g'.mark=⟨C.l,C.n+(i+1),C.b⟩):=by rw[HG'.out];rfl
   clear hRa T;go_wp2_with fail;go_roundg (n-i);case measure=>omega
   case rel=>exact⟨i+1,g'.mark,jO,jO,by go_num,DZ,by rw[HX1.out,xh.out];exact HP8⟩
  ·obtain rfl:n=i:=by omega
   have Zd:¬(n:Int)<(n:Int):=jO;rw[abe (by rw[HSL.out];exact aR _)] at I;have hgm:((List.range n).map (λj=>C.n+1+j)).length=n:=by rw[aab,afe]
   have gR:=vG src (C.n+1);rw[HSL.out] at gR;obtain⟨na,nc,rfl⟩:=ZI I.rn;obtain⟨ma,mc,rfl⟩:=ZI I.rm;have hlm:(src.map (·.1)).length=n:=by rw[aab,HSL.out]
   have Jd:=Lh I.rn;have BW:LO<=wr.heap.size:=aO VS I.fr.2.1;obtain⟨gS,hgS⟩:=jX (ZH ow (Vg src (C.n+1)) g');have hR2:=aw7.out;rw[<-HG'.out,hgS] at hR2;have hGS:GB gS:=by have h1:=ai5.out;rw[<-hR2] at h1;exact h1.back (Tm ow _ _ _)
   have ai7:V9 g':=by rw[HG'.out];exact⟨Jh.keys,Jh.Fp,aO Jh.len (Nat.le_add_right _ _)⟩
   have su:V9 gS:=by rw[<-hgS];exact UD ow _ _ _ (aR _) ai7
   have fV:=aT (KD (ow:=ow) (ms:=(List.range n).map (λj=>C.n+1+j)) (l:=src.map (·.1)) hlm jO (afa.2 HST.out) hgm wr I.Xc (IA hlm I.rn) Jd.1 Jd.2 (aR _) (Y7 (by rw[hgm];exact I.rm) (aO VS I.rb.1)) (by rw[gR,hgS];exact hGS) BW);have HZ:=aT gR;have HGS:=aT hgS;have Iu:=aT hR2;have dm:=aT su;clear gR hgm Jd hlm hgS hR2 hGS ai7 su BW;go_wp2_with fail;refine fV.mono ?_;rintro e w5 ⟨rfl,v5,h5,f5⟩;rw[HZ.out,HGS.out] at h5;have Ci:=aT (I.A0 f5 h5);clear h5 f5 fV I HZ;go_upto_region 12 with fail;go_loopg [47] (n+1) (λgg iv wr=>∃(i:Nat) (v':Value) (g':G),i<=n/\n-i<gg/\iv=.int .i64 (i:Int)/\Hid (U3 LO M Bm N a ow mB pB aB oB q w LB ds src (.slice la n lc) n RB wr v' g' n (.slice na n nc) (Vw (src.map (·.1))) n (.slice ma n mc) (UC ((List.range n).map (λj=>C.n+1+j))))/\Hid (V9 g')/\Hid (X7 ow ((src.drop i).map (·.2)) (C.n+1+i) g'=RG));case atStart=>exact⟨0,v5,gS,abd _,jO,rfl,Ci,dm,Iu⟩
   case round=>
    obtain⟨i,v',g9,sR,Vs,rfl,I,HO9,HD9⟩:=hrel;clear Ci;have i0:=jZ i;by_cases hlt:i<n
    ·have Zd:(i:Int)<(n:Int):=by omega
     obtain⟨x,hx⟩:∃x,ds[i]? =some x:=⟨_,aL (by rw[HN.out];exact hlt)⟩;obtain⟨gB,rfl,Jd,Ny⟩:=X9 Rq 2 (λ_=>rfl) HN I.pt.own hx;obtain⟨sg,rfl,aF4,hcm⟩:=X9 (λm:Nat=>[Value.int .i64 m]) 1 (λ_=>rfl) (by rw[aab,afe]) I.rm (i:=i) (x:=C.n+1+i) (by rw[acd,anf hlt];rfl);have y0:=Ny 0 jD;have y1:=Ny 1 jD;have y2:=hcm 0 jD;have mU:src[i]? =some (ghost x):=by rw[<-I.out.pt.src,acd,hx];rfl
     have hdx:=I.pt.does x (ag hx);obtain⟨csx,kF⟩:=hdx.fn;have Y:=HD9.out;rw[drop_cons mU,aed] at Y;obtain⟨mk,zk⟩:=jX (C.n+1+i);rw[zk] at y2 Y;have HMK:=aT zk;obtain⟨⟨num,ai6⟩,⟨f,cs⟩,tp⟩:=x;simp only[Rq,aM,aH,aec,aqa] at y0 y1 y2;have Y:X7 ow ((src.drop (i+1)).map (·.2)) (mk+1) (VM ow tp (g9.here mk))=RG:=Y;have hgp:GB (VM ow tp (g9.here mk)):=by have h1:=ai5.out;rw[<-Y] at h1;exact h1.back (Tm ow _ _ _)
     have hgh:=hgp.back (Ee ow tp (g9.here mk));have Li:g9.l.length+1<=1000000:=by have h1:=hgh.1;simp[G.here] at h1;omega
     have HGP:=aT hgp;have dH:=aT Y;have HFX:=aT kF;have HX:=aT hx;have Z:=aT (I.alloc (.cells #[.int .u32 num,.func (.func f) #[] cs] BJ));have VE:=aT (Z7.new wr BJ #[.int .u32 num,.func (.func f) #[] cs]);clear Ny hcm hx mU hdx kF Y hgp hgh zk I;go_upto_region 14 with fail;clear y0 y1;have y2:(wr.alloc (.cells #[.int .u32 num,.func (.func f) #[] cs] BJ)).cell? ⟨sg,i,none⟩=some (.int .i64 mk):=((aG wr.heap.size wr).alloc (aR _) _).cell (p:=⟨sg,i,none⟩) (afg _ _ y2) |>.trans y2;generalize wr.alloc (.cells #[.int .u32 num,.func (.func f) #[] cs] BJ)=wa at*;generalize wr.heap.size=B1 at*;have aw9:LO<=wa.heap.size:=aO VS Z.fr.2.1;go_wp2_with fail;refine(KP (m:=mk) wa Z.Xc Li aw9).mono ?_;rintro e w7 ⟨rfl,v7,h7,f7⟩;have T:=aT (Z.A0 f7 h7);have TH:=f7.Yu Z.Xc VE jD jD;have z1:w7.cell? ⟨B1,1,none⟩=some (.func (.func f) #[] cs):=by simpa using TH.cell 1
     have HCx:=aT (sk (ow:=ow) (⟨num,ai6⟩,(f,cs),tp) w7 (T.pt.does _ (ag HX)) T.bx T.Xc (HO9.here mk) HGP hN (aO VS T.fr.2.1));have iw:=jW i;clear Z VE TH h7 f7 y2;have kF:=HFX.out;clear HFX;unfold UA at HCx;dsimp only at kF HCx;rcases kF with kF|kF|kF
     all_goals
      injection kF with vE hf2;clear hf2;subst vE;go_wp2_with fail;refine HCx.mono ?_;rintro e w8 ⟨rfl,v8,h8,f8,o8⟩;have HP8:=aT (T.A0 f8 h8);have Ic:=aT o8;have bO:Hid (X7 ow ((src.drop (i+1)).map (·.2)) (C.n+1+(i+1)) (VM ow tp (g9.here mk))=RG):=by have h1:=dH.out;rw[<-HMK.out] at h1 ⊢;exact h1
      clear h8 f8 o8 HCx T z1;go_wp2_with fail;go_roundg (n-i);case measure=>omega
      case rel=>exact⟨i+1,v8,_,jO,jO,by go_num,HP8,Ic,bO⟩
    ·obtain rfl:n=i:=by omega
     have Zd:¬(n:Int)<(n:Int):=jO;have Ji:g9=RG:=by have h1:=HD9.out;rw[amg (by rw[HSL.out];exact aR _)] at h1;exact h1
     subst Ji;go_wp2_with fail;go_end0;exact⟨rfl,v',src,qL,HST,by rw[LC.out];exact I.Xc,I.fr,by rw[LC.out];exact HO9⟩
structure Ug(N:Nat)(W:World)(q:X5)(es:Nat->List (Nat×List Z3))(s0 s1:List (Nat×Nat)):Prop where
 d:q.d<4294967296
 kE:∀a,a<5->WA N W (VD (q.e a)) (es a)
 ai8:∀a,a<5->∀e∈es a,dc e
 len:∀a,a<5->(es a).length<=4000
 m0:Vy N W (VD q.s0) s0
 m1:Vy N W (VD q.s1) s1
 c0:wZ s0
 c1:wZ s1
 nd:∀a,a<5->((ZZ a (es a) s0 s1).map (·.1)).Nodup
theorem Ug.below{N K:Nat}{W W':World}{q:X5}{es:Nat->List (Nat×List Z3)}{s0 s1:List (Nat×Nat)}(h:Ug N W q es s0 s1)(hb:Below K W W')(hN:N<=K):Ug N W' q es s0 s1:=
 ⟨h.d,λa ha=>(h.kE a ha).below hb hN,h.ai8,h.len,h.m0.below hb hN,h.m1.below hb hN,h.c0,h.c1,h.nd⟩
def NZ(LO M Bm a:Nat)(q:X5)(es:Nat->List (Nat×List Z3))(s0 s1:List (Nat×Nat))(g:G)(w:World):Ending->World->Prop:=λe w'=>e=.returned (.tuple #[])/\∃v' ps,ps.Perm (ZZ a (es a) s0 s1)/\ps.Pairwise (λx y=>x.1<y.1)/\Zj LO M Bm w' v' (Y3 q.d ps g)/\Yb LO M Bm w w'/\V9 (Y3 q.d ps g)
theorem NY{LO M Bm N a:Nat}{v:Value}{g:G}{q:X5}{es:Nat->List (Nat×List Z3)}{s0 s1:List (Nat×Nat)}(w:World)(hp:Ug N w q es s0 s1)(ha:a<5)(h:Zj LO M Bm w v g)(I:V9 g)(D:g.sz+ZW (ZZ a (es a) s0 s1)<=900000)(hN:N<=LO)(C:LO<=w.heap.size):
 Calls prog 55 #[.pointer (some ⟨M,0,none⟩),.agg (Zy q),.int .i64 a] w (NZ LO M Bm a q es s0 s1 g w):=
 vF q (es a) s0 s1 ha w h I hp.d (hp.kE a ha) (hp.ai8 a ha) (hp.len a ha) hp.m0 hp.m1 hp.c0 hp.c1 (hp.nd a ha) D hN C
theorem Kc{W:World}{B:Nat}{q:X5}(h:Z7 W B Xw (Zy q)):W.cell? ⟨B,0,none⟩=some (.int .u32 q.d)/\W.cell? ⟨B,1,none⟩=some (.bool q.x)/\W.cell? ⟨B,2,none⟩=some (.slice q.e0.1 q.e0.2.1 q.e0.2.2)/\W.cell? ⟨B,3,none⟩=some (.slice q.e1.1 q.e1.2.1 q.e1.2.2)/\W.cell? ⟨B,4,none⟩=some (.slice q.e2.1 q.e2.2.1 q.e2.2.2)/\W.cell? ⟨B,5,none⟩=some (.slice q.e3.1 q.e3.2.1 q.e3.2.2)/\W.cell? ⟨B,6,none⟩=some (.slice q.e4.1 q.e4.2.1 q.e4.2.2)/\W.cell? ⟨B,7,none⟩=some (.slice q.s0.1 q.s0.2.1 q.s0.2.2)/\W.cell? ⟨B,8,none⟩=some (.slice q.s1.1 q.s1.2.1 q.s1.2.2):=
 ⟨h.cell 0,h.cell 1,h.cell 2,h.cell 3,h.cell 4,h.cell 5,h.cell 6,h.cell 7,h.cell 8⟩
theorem kD{LO M Bm N:Nat}{v:Value}{g:G}{q:X5}{es:Nat->List (Nat×List Z3)}{s0 s1:List (Nat×Nat)}(w:World)(hp:Ug N w q es s0 s1)(h:Zj LO M Bm w v g)(hg:V9 g)(hsz:g.sz+6+ZW (ZZ 0 (es 0) s0 s1)+ZW (ZZ 1 (es 1) s0 s1)<=900000)(hN:N<=LO)(VS:LO<=w.heap.size):
 Calls prog 54 #[.pointer (some ⟨M,0,none⟩),.agg (Zy q)] w λe w'=>e=.returned (.tuple #[])/\∃v' p0 p1,p0.Perm (ZZ 0 (es 0) s0 s1)/\p0.Pairwise (λx y=>x.1<y.1)/\(q.x=true->p1.Perm (ZZ 1 (es 1) s0 s1))/\(q.x=false->p1=[])/\p1.Pairwise (λx y=>x.1<y.1)/\Zj LO M Bm w' v' (Un q.x q.d p0 p1 g)/\Yb LO M Bm w w'/\V9 (Un q.x q.d p0 p1 g):=by
 have Cl:=Z7.new w Xw (Zy q);obtain⟨c0,c1,c2,c3,c4,c5,c6,c7,c8⟩:=Kc Cl;have Ge:=aT Cl;have HH:=aT (h.al (.cells (Zy q) Xw));have HF:=aT (Yb.alloc (LO:=LO) (M:=M) (Bm:=Bm) (a:=w) (.cells (Zy q) Xw) VS);have HP:=aT (hp.below ((aG N w).alloc (aO hN VS) (.cells (Zy q) Xw)) (aR _));have MZ:LO<=(w.alloc (.cells (Zy q) Xw)).heap.size:=by rw[aj];omega
 have HG:=aT hg;have U:=aT hsz;have hd:=hp.d;have bS:(g.goes q.d).n<=1000000:=by have h1:=W4 g q.d;unfold G.sz at h1 hsz;omega
 have Li:(g.goes q.d).l.length+1<=1000000:=by have h1:=W4 g q.d;unfold G.sz at h1 hsz;omega
 clear Cl h hp hg hsz;unfold Zy VD at*;go_enter func54,ntmps54;go_upto_region 1 with fail;generalize w.alloc (.cells #[.int .u32 q.d,.bool q.x,.slice q.e0.1 q.e0.2.1 q.e0.2.2,.slice q.e1.1 q.e1.2.1 q.e1.2.2,.slice q.e2.1 q.e2.2.1 q.e2.2.2,.slice q.e3.1 q.e3.2.1 q.e3.2.2,.slice q.e4.1 q.e4.2.1 q.e4.2.2,.slice q.s0.1 q.s0.2.1 q.s0.2.2,.slice q.s1.1 q.s1.2.1 q.s1.2.2] Xw)=w1 at*;go_wp2_with fail;refine(TW w1 HH HG hd bS MZ).mono ?_;rintro e w2 ⟨rfl,h2,f2⟩;have Uj:=aT (f2.Yu HH Ge jD jD);have LD:=aT h2;have LF:=aT (HF.trans f2);have Gn:=aT (HP.below f2.1 hN);have OZ:LO<=w2.heap.size:=aO MZ f2.2.1;have Jh:=aT (HG.goes hd);clear h2 f2 Ge HH HF HP c0 c1 c2 c3 c4 c5 c6 c7 c8 MZ;obtain⟨ow,how⟩:=jX (look (g.goes q.d).b q.d);have HOW:=aT how;rw[how];clear how
 go_wp2_with (refine Great.wpList_buildSliceTo rfl 79 Wc 1 _ rfl _ rfl _ rfl underlying79 #[.int .i64 0,.int .u16 21,.int .u32 4294967295,.int .i64 ow,.int .i64 0] jK ?_)
 refine(YW (xs:=[ins 0x15 NONE ow 0]) w2 LD rfl rfl Li OZ).mono ?_;rintro e w3 ⟨rfl,v3,h3,f3⟩;obtain⟨D,hg1⟩:=jX ((g.goes q.d).put [ins 0x15 NONE ow 0]);rw[hg1] at h3;have Gg:=aT (f3.Yu LD Uj jD jD);have zt:=aT h3;have zl:=aT (LF.trans f3);have Gm:=aT (Gn.below f3.1 hN);have Z:LO<=w3.heap.size:=aO OZ f3.2.1;have T:Hid (V9 D):=by rw[<-hg1];exact Jh.put _
 have hs1:D.sz<=g.sz+2:=by rw[<-hg1,Wz];have:=W4 g q.d;simp only[ai,acg];omega
 have HG1:Hid (D=(g.goes q.d).put [ins 0x15 NONE (look (g.goes q.d).b q.d) 0]):=by rw[HOW.out];exact hg1.symm
 clear h3 f3 Uj LD LF Gn OZ Jh HOW hg1 bS Li;obtain⟨c0,c1,c2,c3,c4,c5,c6,c7,c8⟩:=Kc Gg;cases hx:q.x with
 |false=>
  rw[hx] at c1;have bS:(D.goes Zm).n<=1000000:=by have h1:=W4 D Zm;have h2:=U.out;unfold G.sz at h1 h2 hs1;omega
  have Li:(D.goes Zm).l.length+1<=1000000:=by have h1:=W4 D Zm;have h2:=U.out;unfold G.sz at h1 h2 hs1;omega
  go_wp2_with fail;refine(TW (c:=Zm) w3 zt T jD bS Z).mono ?_;rintro e w4 ⟨rfl,h4,f4⟩;have Ch:=aT (f4.Yu zt Gg jD jD);have xE:=aT h4;have xr:=aT (zl.trans f4);have fU:=aT (Gm.below f4.1 hN);have I:LO<=w4.heap.size:=aO Z f4.2.1;have qK:Hid (V9 (D.goes Zm)):=T.goes jD;clear h4 f4 Gg zt zl Gm Z T c0 c1 c2 c3 c4 c5 c6 c7 c8;obtain⟨kw,hkw⟩:=jX (look (D.goes Zm).b Zm);have HKW:=aT hkw;rw[hkw];clear hkw
  go_wp2_with (refine Great.wpList_buildSliceTo rfl 79 Wc 1 _ rfl _ rfl _ rfl underlying79 #[.int .i64 0,.int .u16 69,.int .u32 1073741824,.int .i64 kw,.int .i64 0] jK ?_)
  refine(YW (xs:=[ins 0x45 VT kw 0]) w4 xE rfl rfl Li I).mono ?_;rintro e w5 ⟨rfl,v5,h5,f5⟩;have xH:=f5.Yu xE Ch jD jD;have tQ:=aT (xr.trans f5);have Ou:LO<=w5.heap.size:=aO I f5.2.1;have hs5:((D.goes Zm).put [ins 0x45 VT kw 0]).sz<=g.sz+4:=by rw[Wz];have:=W4 D Zm;simp only[ai,acg];omega
  have C:Hid (Calls prog 55 #[.pointer (some ⟨M,0,none⟩),.agg (Zy q),.int .i64 0] w5 (NZ LO M Bm 0 q es s0 s1 ((D.goes Zm).put [ins 0x45 VT kw 0]) w5)):=
   NY (a:=0) w5 (fU.below f5.1 hN) jD h5 (qK.put _) (by have:=U.out;omega) hN Ou
  clear h5 f5 Ch xE xr fU I qK;obtain⟨c0,c1,c2,c3,c4,c5,c6,c7,c8⟩:=Kc xH;clear xH;unfold Zy VD at C;rw[hx] at C c1;go_wp2_with fail;refine C.mono ?_;rintro e w6 ⟨rfl,v6,p0,J,Y,h6,f6,o6⟩;have fT:=aT h6;have lZ:=aT (tQ.trans f6);have HR:=aT (And.intro J (And.intro Y o6));have HE:Hid (Un false q.d p0 [] g=Y3 q.d p0 ((D.goes Zm).put [ins 0x45 VT kw 0])):=by show Un false q.d p0 [] g=_;unfold Un;rw[<-HG1.out];dsimp only;rw[HKW.out];rfl
  clear h6 f6 J Y o6 C tQ c0 c1 c2 c3 c4 c5 c6 c7 c8;go_wp2_with fail
  first
   |(go_end0;exact⟨rfl,v6,p0,[],HR.1,HR.2.1,λh=>(by rw[hx] at h;cases h),λ_=>rfl,List.Pairwise.nil,by rw[hx,HE.out];exact fT,lZ,by rw[hx,HE.out];exact HR.2.2⟩)
   |(refine aaf (aof rfl _ _ _) rfl ?_;exact⟨rfl,v6,p0,[],HR.1,HR.2.1,λh=>(by rw[hx] at h;cases h),λ_=>rfl,List.Pairwise.nil,by rw[hx,HE.out];exact fT,lZ,by rw[hx,HE.out];exact HR.2.2⟩)
 |true=>
  rw[hx] at c1;have zj:D.n+1<=1000000:=by have h2:=U.out;unfold G.sz at h2 hs1;omega
  have Li:D.mark.l.length+1<=1000000:=by have h2:=U.out;unfold G.sz at h2 hs1;show D.l.length+1<=_;omega
  go_wp2_with fail;refine(Vc w3 zt zj).mono ?_;rintro e w4 ⟨rfl,h4,f4⟩;have Ch:=aT (f4.Yu zt Gg jD jD);have xE:=aT h4;have xr:=aT (zl.trans f4);have fU:=aT (Gm.below f4.1 hN);have I:LO<=w4.heap.size:=aO Z f4.2.1;have qK:Hid (V9 D.mark):=T.mark;clear h4 f4 Gg zt zl Gm Z T c0 c1 c2 c3 c4 c5 c6 c7 c8
  go_wp2_with (refine Great.wpList_buildSliceTo rfl 79 Wc 1 _ rfl _ rfl _ rfl underlying79 #[.int .i64 0,.int .u16 69,.int .u32 1073741824,.int .i64 ((D.n:Int)+1),.int .i64 0] jK ?_)
  refine(YW (xs:=[ins 0x45 VT ((D.n+1:Nat):Int) 0]) w4 xE rfl rfl Li I).mono ?_;rintro e w5 ⟨rfl,v5,h5,f5⟩;have xH:=f5.Yu xE Ch jD jD;have tQ:=aT (xr.trans f5);have Ou:LO<=w5.heap.size:=aO I f5.2.1;have hs5:(D.mark.put [ins 0x45 VT ((D.n+1:Nat):Int) 0]).sz<=g.sz+4:=by rw[Wz,Ot];simp only[ai,acg];omega
  have Ci:=aT (fU.below f5.1 hN)
  have C:Hid (Calls prog 55 #[.pointer (some ⟨M,0,none⟩),.agg (Zy q),.int .i64 0] w5 (NZ LO M Bm 0 q es s0 s1 (D.mark.put [ins 0x45 VT ((D.n+1:Nat):Int) 0]) w5)):=
   NY (a:=0) w5 Ci jD h5 (qK.put _) (by have:=U.out;omega) hN Ou
  have HH5:=aT h5;have sj:=aT xH;clear h5 f5 Ch xE xr fU I qK;obtain⟨c0,c1,c2,c3,c4,c5,c6,c7,c8⟩:=Kc xH;clear xH;unfold Zy VD at C;rw[hx] at C c1;go_wp2_with fail;refine C.mono ?_;rintro e w6 ⟨rfl,v6,p0,J,Y,h6,f6,o6⟩;clear c0 c1 c2 c3 c4 c5 c6 c7 c8;obtain⟨g6,kC⟩:=jX (Y3 q.d p0 (D.mark.put [ins 0x45 VT ((D.n+1:Nat):Int) 0]));have hs6:g6.sz<=g.sz+4+ZW (ZZ 0 (es 0) s0 s1):=by rw[<-kC,<-Y2 J];exact aO (Wy q.d p0 _) jO
  have HG6:=aT kC;rw[kC] at h6 o6;have Gc:=aT (f6.Yu HH5 sj jD jD);have fT:=aT h6;have lZ:=aT (tQ.trans f6);have yZ:=aT (Ci.below f6.1 hN);have HR:=aT (And.intro J (And.intro Y o6));have Ek:LO<=w6.heap.size:=aO Ou f6.2.1;have hl6:g6.l.length+1<=1000000:=by have h2:=U.out;unfold G.sz at h2 hs6;omega
  clear h6 f6 J Y o6 C tQ HH5 sj Ci kC;go_wp2_with fail;refine(TT (m:=D.n) w6 fT hl6 Ek).mono ?_;rintro e w7 ⟨rfl,v7,h7,f7⟩;have hA7:=f7.Yu fT Gc jD jD;have HF7:=aT (lZ.trans f7);have ax0:LO<=w7.heap.size:=aO Ek f7.2.1
  have C:Hid (Calls prog 55 #[.pointer (some ⟨M,0,none⟩),.agg (Zy q),.int .i64 1] w7 (NZ LO M Bm 1 q es s0 s1 (g6.here (D.n+1)) w7)):=
   NY (a:=1) w7 (yZ.below f7.1 hN) jD h7 (HR.2.2.here _) (by rw[UE];have:=U.out;omega) hN ax0
  clear h7 f7 Gc fT lZ yZ Ek;obtain⟨c0,c1,c2,c3,c4,c5,c6,c7,c8⟩:=Kc hA7;clear hA7;unfold Zy VD at C;rw[hx] at C c1;go_wp2_with fail;refine C.mono ?_;rintro e w8 ⟨rfl,v8,p1,J,Y,h8,f8,o8⟩;have HH8:=aT h8;have HF8:=aT (HF7.trans f8);have fS:=aT (And.intro J (And.intro Y o8));have HE:Hid (Un true q.d p0 p1 g=Y3 q.d p1 (g6.here (D.n+1))):=by show Un true q.d p0 p1 g=_;unfold Un;rw[<-HG1.out,<-HG6.out];rfl
  clear h8 f8 J Y o8 C HF7 c0 c1 c2 c3 c4 c5 c6 c7 c8;go_wp2_with fail;go_end0;exact⟨rfl,v8,p0,p1,HR.1,HR.2.1,λ_=>fS.1,λh=>(by rw[hx] at h;cases h),fS.2.1,by rw[hx,HE.out];exact HH8,HF8,by rw[hx,HE.out];exact fS.2.2⟩
end Go.Proofs.YtclgigmgbebhgaaGreatDoor
namespace Go.Proofs.YtclgigmgbebhgaaGreatDoor
open Tryz
open Go Go.Proofs
def Vq(l:List Z9)(at_:Nat->Nat)(ZU far:Nat->Bool)(n:Nat):List ZN:=
 match (Z6 l)[n]? with
 |some x=>encI x (ZU n) (far n) (at_ n) (at_ (target l n x.t)) (at_ (target l n x.f))
 |none=>[]
theorem VP{l:List Z9}{at_:Nat->Nat}{ZU far:Nat->Bool}{n:Nat}{x:Z9}(h:(Z6 l)[n]? =some x):Vq l at_ ZU far n=encI x (ZU n) (far n) (at_ n) (at_ (target l n x.t)) (at_ (target l n x.f)):=by
 unfold Vq;rw[h]
theorem OP(E:Nat->List ZN)(at_:Nat->Nat)(N:Nat)(C:at_ 0=0)(hs:∀n,n<N->at_ (n+1)=at_ n+(E n).length):∀n,n<=N->at_ n=((List.range n).flatMap E).length
 |0,_=>by simp[C]
 |n+1,h=>by rw[hs n jO,OP E at_ N C hs n jO,amc,aca,ay];simp
theorem range_split(E:Nat->List ZN):∀(d n:Nat),(List.range (n+d)).flatMap E=(List.range n).flatMap E++(List.range d).flatMap (λj=>E (n+j))
 |0,n=>jS
 |d+1,n=>by rw[<-aAb,amc,aca,range_split E d n,amc,aca,aag];simp
theorem bN{l:List Z9}{out:List ZN}{at_:Nat->Nat}{ZU far:Nat->Bool}
 (code:∀x∈Z6 l,x.code=0x20\/x.code=0x54\/x.code=0x05\/x.code=0x06\/YS x.code=true)
 (I:at_ 0=0) (hs:∀n,n<(Z6 l).length->at_ (n+1)=at_ n+(Vq l at_ ZU far n).length)
 (ho:out=(List.range (Z6 l).length).flatMap (Vq l at_ ZU far))
 (branch:∀(n:Nat) (x:Z9),(Z6 l)[n]? =some x->far n=true->YS x.code=true)
 (plain:∀(n:Nat) (x:Z9),(Z6 l)[n]? =some x->x.code=0x20\/x.code=0x54->x.t=0)
 (yes:∀(n:Nat) (x:Z9),(Z6 l)[n]? =some x->ZU n=false->x.code≠0x06->ZU (target l n x.t)=false)
 (no:∀(n:Nat) (x:Z9),(Z6 l)[n]? =some x->ZU n=false->YS x.code=true->ZU (target l n x.f)=false):UK l out at_ ZU far:=by
 have D:=OP (Vq l at_ ZU far) at_ (Z6 l).length I hs;have C:∀n,n<=(Z6 l).length->out.drop (at_ n)=(List.range ((Z6 l).length-n)).flatMap (λj=>Vq l at_ ZU far (n+j)):=by intro n hn;have e:=range_split (Vq l at_ ZU far) ((Z6 l).length-n) n;rw[show n+((Z6 l).length-n)=(Z6 l).length from jO,<-ho] at e;rw[e,D n hn,List.drop_left]
 refine⟨code,λn x hx=> ?_,λn x hx=> ?_,?_,branch,plain,yes,no⟩;·have hn:=(ak.1 hx).1;rw[hs n hn,VP hx]
 ·have hn:=(ak.1 hx).1;rw[C n jO,C (n+1) jO,<-VP hx,show(Z6 l).length-n=((Z6 l).length-(n+1))+1 from jO,List.range_succ_eq_map,ace,aec]
  congr 1
  rw[List.flatMap_map]
  congr 1
  funext j
  show Vq l at_ ZU far (n+(j+1))=Vq l at_ ZU far (n+1+j);rw[show n+(j+1)=n+1+j from jO]
 ·rw[C _ (aR _),alc];rfl
def qJ(i:ZN)(rest:Nat):Prop:=
 (i.code=0x20\/i.code=0x54\/i.code=0x05\/i.code=0x06\/YS i.code=true)/\(i.code=0x20->i.k%4=0/\i.k<64)/\(i.code=0x05->i.k<rest)/\(YS i.code=true->i.jt<rest/\i.jf<rest)
theorem Ia{l:List Z9}(hf:ZR l){p r:List Z9}{x:Z9}(e:l=p++x::r)(hx:x.mark=0){m:Int}(hm:m≠0->m∈marks r)(hr:Z6 r≠[])(C:∀q y,l=q++[y]->y.mark=0):target l (Z6 p).length m<(Z6 l).length:=by
 subst e;obtain⟨q,hq,ht,_,hle⟩:=Vi hf hx hm;rw[ht];have:Z6 (goto m r)≠[]:=by
  unfold goto at hq ⊢;by_cases T:m=0;·rw[aF T];exact hr
  ·rw[aN T] at hq ⊢;intro D;obtain⟨q2,Z⟩:=Rz r m T (hm T);cases I:UU m r with
   |nil=>
    rw[I,adb] at Z;have J:∀(r:List Z9),m∈marks r->UU m r=[]->∃q y,r=q++[y]/\y.mark=m:=by
     intro r
     induction r with
     |nil=>intro h _;simp[marks] at h
     |cons y ys ih=>
      intro h Y;unfold UU at Y;by_cases e:y.mark=m;·rw[aF e] at Y;subst Y;exact⟨[],y,rfl,e⟩
      ·rw[aN e] at Y
       have h3:m∈marks ys:=by
        by_cases hz:y.mark=0;·rwa [YY hz] at h
        ·rw[Zp hz] at h;rcases abb.1 h with rfl|h;·exact absurd rfl e
         ·exact h
       obtain⟨q,z,U,h5⟩:=ih h3 Y;exact⟨y::q,z,by rw[U];rfl,h5⟩
    obtain⟨q3,y,U,h5⟩:=J r (hm T) I;have:=C (p++x::q3) y (by rw[U];simp);exact T (h5.symm.trans this)
   |cons z zs=>
    have hl:∃q y,UU m r=q++[y]:=by rw[I];exact⟨(z::zs).dropLast,(z::zs).getLast jS,(apb jS).symm⟩
    obtain⟨q3,y,U⟩:=hl;have hy:=C (p++x::(q2++q3)) y (by rw[Z,U];simp);rw[U,Yg,Yw hy] at D;simp at D
 have ax1:0<(Z6 (goto m r)).length:=aya.2 this;omega
end Go.Proofs.YtclgigmgbebhgaaGreatDoor
namespace Go.Proofs.YtclgigmgbebhgaaGreatDoor
open Tryz
open Go Go.Proofs Go.RowKit Go.Maps Go.WideMaps Go.ChangeMaps
variable {W:World}
def Uf:List (Value×Value):=[(.int .u16 32,.int .i64 1),(.int .u16 0,.int .i64 2),(.int .u16 96,.int .i64 3),(.int .u16 128,.int .i64 4),(.int .u16 1,.int .i64 5),(.int .u16 97,.int .i64 6),(.int .u16 129,.int .i64 7),(.int .u16 2,.int .i64 8),(.int .u16 3,.int .i64 9),(.int .u16 7,.int .i64 10),(.int .u16 135,.int .i64 11),(.int .u16 132,.int .i64 12),(.int .u16 5,.int .i64 13),(.int .u16 6,.int .i64 14),(.int .u16 22,.int .i64 15)]
def Pl:List (Value×Value):=[(.int .u16 4,.int .i64 16),(.int .u16 20,.int .i64 17),(.int .u16 36,.int .i64 18),(.int .u16 52,.int .i64 19),(.int .u16 68,.int .i64 20),(.int .u16 84,.int .i64 21),(.int .u16 100,.int .i64 22),(.int .u16 116,.int .i64 23),(.int .u16 164,.int .i64 24),(.int .u16 21,.int .i64 25),(.int .u16 37,.int .i64 26),(.int .u16 53,.int .i64 27),(.int .u16 69,.int .i64 28)]
theorem Kb:Keyed prog 137:=int_keyed underlying137
theorem qI(n:Int)(h:0<=n/\n<=65535):∃l,keyOf prog 137 (.int .u16 n)=some l:=⟨_,keyOf_int_mk underlying137 (by
 show(decide (IntKind.u16.min<=n)&&decide (n<=IntKind.u16.max))=true;rw[show IntKind.u16.min=0 from jD,show IntKind.u16.max=65535 from jD];simp only[aef,adf];exact h)⟩
theorem WM(w:World):Calls prog 178 #[] w λe w'=>e=.returned (.map (some w.heap.size))/\Zz w' w.heap.size Uf/\Below w.heap.size w w':=by
 have I:= @aog prog;have C:=aT (Nq.made w);go_enter func178,ntmps178
 go_wp2_with (refine YR rfl rfl 298 _ _ _ rfl 137 162 Kb underlying298 w w.heap.size _ C rfl _ _ rfl rfl ?hS ?hk ?hn ?_;(case hk=>exact qI _ jO);(case hS=>exact Ru underlying137 jR);(case hn=>exact KO jR);clear C;intro J D;have C:=aT D;clear D)
 go_ret;exact⟨rfl,C.map,(aG _ w).grown C.grown (aR _) (λk e=>by have:=aq e;omega)⟩
theorem Q7(w:World):Calls prog 179 #[] w λe w'=>e=.returned (.map (some w.heap.size))/\Zz w' w.heap.size Pl/\Below w.heap.size w w':=by
 have I:= @aog prog;have C:=aT (Nq.made w);go_enter func179,ntmps179
 go_wp2_with (refine YR rfl rfl 298 _ _ _ rfl 137 162 Kb underlying298 w w.heap.size _ C rfl _ _ rfl rfl ?hS ?hk ?hn ?_;(case hk=>exact qI _ jO);(case hS=>exact Ru underlying137 jR);(case hn=>exact KO jR);clear C;intro J D;have C:=aT D;clear D)
 go_ret;exact⟨rfl,C.map,(aG _ w).grown C.grown (aR _) (λk e=>by have:=aq e;omega)⟩
theorem Dz:Uf.Pairwise (λp q=>p.1≠q.1):=by simp[Uf]
theorem AZ:Pl.Pairwise (λp q=>p.1≠q.1):=by simp[Pl]
theorem ai9:∀W,(zeroValue 162).run prog W=.ok (.int .i64 0) W:=λ_=>jK
theorem MW {B:Nat}(h:Zz W B Uf){c k:Int}(hc:0<=c/\c<=65535)(hm:(.int .u16 c,.int .i64 k)∈Uf):(Instr.lookup 298 (.map (some B)) (.int .u16 c) true).run prog W=.ok (.tuple #[.int .i64 k,.bool true]) W:=
 KX underlying298 Kb h (Ru underlying137 jR) (qI c hc) hm Dz
theorem TG {B:Nat}(h:Zz W B Uf){c:Int}(hc:0<=c/\c<=65535)(hm:Uf.all (mq c)=true):(Instr.lookup 298 (.map (some B)) (.int .u16 c) true).run prog W=.ok (.tuple #[.int .i64 0,.bool false]) W:=
 Ca underlying298 Kb ai9 h (Ru underlying137 jR) (qI c hc) (KO hm)
theorem Q6 {B:Nat}(h:Zz W B Pl){c k:Int}(hc:0<=c/\c<=65535)(hm:(.int .u16 c,.int .i64 k)∈Pl):(Instr.lookup 298 (.map (some B)) (.int .u16 c) true).run prog W=.ok (.tuple #[.int .i64 k,.bool true]) W:=
 KX underlying298 Kb h (Ru underlying137 jR) (qI c hc) hm AZ
def Zx(c:Nat):Nat:=if c=0x20 then 1 else if c=0x54 then 21 else if c=0x05 then 13 else if c=0x06 then 14 else if c=0x15 then 25 else if c=0x25 then 26 else if c=0x35 then 27 else 28
def codeOk(c:Nat):Prop:=c=0x20\/c=0x54\/c=0x05\/c=0x06\/c=0x15\/c=0x25\/c=0x35\/c=0x45
theorem H9{c:Nat}(h:c=0x20\/c=0x54\/c=0x05\/c=0x06\/YS c=true):codeOk c:=by
 unfold codeOk;unfold YS at h;simp only[asg,ahc] at h;omega
def Sa(c:Nat)(w:World):Ending->World->Prop:=λe w'=>e=.returned (.tuple #[.int .i64 (Zx c:Int),.bool false,.bool true])/\Below w.heap.size w w'
theorem aj0(w:World):Calls prog 109 #[.int .u16 32] w (Sa 32 w):=by
 go_enter func109,ntmps109;go_wp2_with fail;refine(WM w).mono ?_;rintro e D ⟨rfl,hm,hb⟩;have I:=MW (c:=32) (k:=1) hm jD (by simp[Uf]);have C:=aT hb;clear hm hb;go_wp2_with fail;go_ret3;exact⟨rfl,C⟩
theorem cj(w:World):Calls prog 109 #[.int .u16 5] w (Sa 5 w):=by
 go_enter func109,ntmps109;go_wp2_with fail;refine(WM w).mono ?_;rintro e D ⟨rfl,hm,hb⟩;have I:=MW (c:=5) (k:=13) hm jD (by simp[Uf]);have C:=aT hb;clear hm hb;go_wp2_with fail;go_ret3;exact⟨rfl,C⟩
theorem qX(w:World):Calls prog 109 #[.int .u16 6] w (Sa 6 w):=by
 go_enter func109,ntmps109;go_wp2_with fail;refine(WM w).mono ?_;rintro e D ⟨rfl,hm,hb⟩;have I:=MW (c:=6) (k:=14) hm jD (by simp[Uf]);have C:=aT hb;clear hm hb;go_wp2_with fail;go_ret3;exact⟨rfl,C⟩
theorem aj1(w:World):Calls prog 109 #[.int .u16 84] w (Sa 84 w):=by
 have Z:bits .andNot .u16 84 8=84:=jD;have Y:bits .and .u16 84 8=0:=jD;go_enter func109,ntmps109;go_wp2_with fail;refine(WM w).mono ?_;rintro e I ⟨rfl,hm,hb⟩;have J:=TG (c:=84) hm jD jR;have D:=aT hb;clear hm hb;go_wp2_with fail;refine(Q7 I).mono ?_;rintro e U ⟨rfl,hm,hb⟩;have T:=Q6 (c:=84) (k:=21) hm jD (by simp[Pl]);have C:=aT (D.trans (hb.mono D.size));clear hm hb J;go_wp2_with fail;go_ret3;exact⟨rfl,C⟩
theorem aj2(w:World):Calls prog 109 #[.int .u16 21] w (Sa 21 w):=by
 have Z:bits .andNot .u16 21 8=21:=jD;have Y:bits .and .u16 21 8=0:=jD;go_enter func109,ntmps109;go_wp2_with fail;refine(WM w).mono ?_;rintro e I ⟨rfl,hm,hb⟩;have J:=TG (c:=21) hm jD jR;have D:=aT hb;clear hm hb;go_wp2_with fail;refine(Q7 I).mono ?_;rintro e U ⟨rfl,hm,hb⟩;have T:=Q6 (c:=21) (k:=25) hm jD (by simp[Pl]);have C:=aT (D.trans (hb.mono D.size));clear hm hb J;go_wp2_with fail;go_ret3;exact⟨rfl,C⟩
theorem aj3(w:World):Calls prog 109 #[.int .u16 37] w (Sa 37 w):=by
 have Z:bits .andNot .u16 37 8=37:=jD;have Y:bits .and .u16 37 8=0:=jD;go_enter func109,ntmps109;go_wp2_with fail;refine(WM w).mono ?_;rintro e I ⟨rfl,hm,hb⟩;have J:=TG (c:=37) hm jD jR;have D:=aT hb;clear hm hb;go_wp2_with fail;refine(Q7 I).mono ?_;rintro e U ⟨rfl,hm,hb⟩;have T:=Q6 (c:=37) (k:=26) hm jD (by simp[Pl]);have C:=aT (D.trans (hb.mono D.size));clear hm hb J;go_wp2_with fail;go_ret3;exact⟨rfl,C⟩
theorem aj4(w:World):Calls prog 109 #[.int .u16 53] w (Sa 53 w):=by
 have Z:bits .andNot .u16 53 8=53:=jD;have Y:bits .and .u16 53 8=0:=jD;go_enter func109,ntmps109;go_wp2_with fail;refine(WM w).mono ?_;rintro e I ⟨rfl,hm,hb⟩;have J:=TG (c:=53) hm jD jR;have D:=aT hb;clear hm hb;go_wp2_with fail;refine(Q7 I).mono ?_;rintro e U ⟨rfl,hm,hb⟩;have T:=Q6 (c:=53) (k:=27) hm jD (by simp[Pl]);have C:=aT (D.trans (hb.mono D.size));clear hm hb J;go_wp2_with fail;go_ret3;exact⟨rfl,C⟩
theorem aj5(w:World):Calls prog 109 #[.int .u16 69] w (Sa 69 w):=by
 have Z:bits .andNot .u16 69 8=69:=jD;have Y:bits .and .u16 69 8=0:=jD;go_enter func109,ntmps109;go_wp2_with fail;refine(WM w).mono ?_;rintro e I ⟨rfl,hm,hb⟩;have J:=TG (c:=69) hm jD jR;have D:=aT hb;clear hm hb;go_wp2_with fail;refine(Q7 I).mono ?_;rintro e U ⟨rfl,hm,hb⟩;have T:=Q6 (c:=69) (k:=28) hm jD (by simp[Pl]);have C:=aT (D.trans (hb.mono D.size));clear hm hb J;go_wp2_with fail;go_ret3;exact⟨rfl,C⟩
theorem V1{c:Nat}(hc:codeOk c)(w:World):Calls prog 109 #[.int .u16 c] w (Sa c w):=by
 rcases hc with rfl|rfl|rfl|rfl|rfl|rfl|rfl|rfl;·exact aj0 w
 ·exact aj1 w
 ·exact cj w
 ·exact qX w
 ·exact aj2 w
 ·exact aj3 w
 ·exact aj4 w
 ·exact aj5 w
end Go.Proofs.YtclgigmgbebhgaaGreatDoor
