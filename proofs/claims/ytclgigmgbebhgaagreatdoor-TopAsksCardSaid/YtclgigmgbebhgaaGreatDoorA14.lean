/- TopAsks: part 14: TopCalls TopX64 TopAsmQ TopInst. -/
import Derived.Test.YtclgigmgbebhgaaGreatDoorA06
set_option linter.unusedVariables false
set_option linter.unusedSimpArgs false
set_option maxRecDepth 100000
set_option maxHeartbeats 16000000
namespace Go.Proofs.YtclgigmgbebhgaaGreatDoor
open Tryz
open Go Go.Proofs Go.RowKit Go.Maps Go.WideMaps Go.ChangeMaps
theorem Y8{a b:List (Nat×ZO)}(h:a.Perm b):ZX a=ZX b:=by
 induction h with
 |nil=>rfl
 |cons x _ C=>show 6+Xz x.2+_=6+Xz x.2+_;rw[C]
 |swap x y l=>show 6+Xz y.2+(6+Xz x.2+ZX l)=6+Xz x.2+(6+Xz y.2+ZX l);omega
 |trans _ _ D A=>exact D.trans A
theorem wC{src ps:List (Nat×ZO)}(hp:ps.Perm src)(hs:ps.Pairwise (λx y=>x.1<=y.1))(hn:(src.map (·.1)).Nodup):ps.Pairwise (λx y=>x.1<y.1):=by
 have C:(ps.map (·.1)).Nodup:=(hp.map (·.1)).nodup_iff.2 hn;have A:ps.Pairwise (λx y=>x.1≠y.1):=afa.1 C;exact(hs.and A).imp (λ{x y} h=>Nat.lt_of_le_of_ne h.1 h.2)
structure Vh(LO M Bm N a ow mB pB aB oB:Nat)(q:Ya)(w0:World)(LB:Nat)(ds:List VV)(src:List (Nat×ZO))(vl:Value)(n RB:Nat)(W:World)(v:Value)(g:G)(i:Nat)(va:Value)(xs:List Value)(k:Nat)(vb:Value)(ys:List Value):Prop where
 Xj:Zl LO M Bm W v g
 fr:Yh LO M Bm w0 W
 rn:W.ownsRow RB 53 1 va i xs
 rm:W.ownsRow RB 3 1 vb k ys
 bx:T3 W M ow a mB pB aB oB (ZA q)
 pt:WH N LB a mB pB aB oB (ZA q) W vl n ds src
 lo:N<=LO/\LO<=w0.heap.size
 rb:w0.heap.size<=RB/\aB<RB/\oB<RB/\RB<=W.heap.size
section
variable {LO M Bm N a ow mB pB aB oB:Nat} {q:Ya} {w0:World} {LB:Nat} {ds:List VV} {src:List (Nat×ZO)} {vl:Value} {n RB:Nat} {W:World} {v:Value} {g:G} {i:Nat} {va:Value} {xs:List Value} {k:Nat} {vb:Value} {ys:List Value}
theorem Vh.alloc(h:Vh LO M Bm N a ow mB pB aB oB q w0 LB ds src vl n RB W v g i va xs k vb ys)(o:Obj):Vh LO M Bm N a ow mB pB aB oB q w0 LB ds src vl n RB (W.alloc o) v g i va xs k vb ys:=
 ⟨h.Xj.al o,h.fr.GV h.lo.2 o,h.rn.alloc o,h.rm.alloc o,h.bx.mono (λB t cs _ A=>A.alloc o),⟨h.pt.own.alloc o,h.pt.len,λx hx=>(h.pt.does x hx).mono (λB cs A=>A.alloc o) ((aG N W).alloc (aO h.lo.1 (aO h.lo.2 h.fr.2.1)) o) (aP _),h.pt.src⟩,h.lo,h.rb.1,h.rb.2.1,h.rb.2.2.1,by rw[ai];have:=h.rb.2.2.2;omega⟩
theorem Vh.BQ{W':World}{v':Value}{g':G}(h:Vh LO M Bm N a ow mB pB aB oB q w0 LB ds src vl n RB W v g i va xs k vb ys)(f:Yh LO M Bm W W')(hm:Zl LO M Bm W' v' g'):Vh LO M Bm N a ow mB pB aB oB q w0 LB ds src vl n RB W' v' g' i va xs k vb ys:=
 ⟨hm,h.fr.trans f,f.T4 h.Xj h.rn jD jD,f.T4 h.Xj h.rm jD jD,⟨f.Yz h.Xj h.bx.hm jD jD,f.Yz h.Xj h.bx.hp jD jD,f.Yz h.Xj h.bx.ha jD jD,f.Yz h.Xj h.bx.ho jD jD⟩,
   ⟨f.T4 h.Xj h.pt.own jD jD,h.pt.len,λx hx=>(h.pt.does x hx).mono (λB cs A=>f.Yz h.Xj A jD jD) f.1 h.lo.1,h.pt.src⟩,h.lo,h.rb.1,h.rb.2.1,h.rb.2.2.1,aO h.rb.2.2.2 f.2.1⟩
theorem Vh.grN{W':World}{dh:Value}{i':Nat}{xs':List Value}(h:Vh LO M Bm N a ow mB pB aB oB q w0 LB ds src vl n RB W v g i va xs k vb ys)(A:W.grownBy W' va.ownBlock)(ho:W'.ownsRow RB 53 1 dh i' xs'):Vh LO M Bm N a ow mB pB aB oB q w0 LB ds src vl n RB W' v g i' dh xs' k vb ys:=by
 have C:N<=w0.heap.size:=aO h.lo.1 h.lo.2;have hb:Below N W W':=(aG N W).grown A (aO C h.fr.2.1) (λr e=>aO (aO C h.rb.1) (h.rn.lt r e).1)
 exact⟨OL h.Xj h.rn A jD jD,OJ h.fr h.rn A h.rb.1 h.lo.2,ho,Xs h.rn A h.rm jD,⟨Zg h.rn A h.bx.hm jD,Zg h.rn A h.bx.hp jD,Zg h.rn A h.bx.ha jD,Zg h.rn A h.bx.ho jD⟩,
  ⟨Xs h.rn A h.pt.own jD,h.pt.len,λx hx=>(h.pt.does x hx).mono (λB cs D=>Zg h.rn A D jD) hb (aP _),h.pt.src⟩,h.lo,h.rb.1,h.rb.2.1,h.rb.2.2.1,aO h.rb.2.2.2 A.size⟩
theorem Vh.grM{W':World}{vb':Value}{k':Nat}{ys':List Value}(h:Vh LO M Bm N a ow mB pB aB oB q w0 LB ds src vl n RB W v g i va xs k vb ys)(A:W.grownBy W' vb.ownBlock)(ho:W'.ownsRow RB 3 1 vb' k' ys'):Vh LO M Bm N a ow mB pB aB oB q w0 LB ds src vl n RB W' v g i va xs k' vb' ys':=by
 have C:N<=w0.heap.size:=aO h.lo.1 h.lo.2;have hb:Below N W W':=(aG N W).grown A (aO C h.fr.2.1) (λr e=>aO (aO C h.rb.1) (h.rm.lt r e).1)
 exact⟨OL h.Xj h.rm A jD jD,OJ h.fr h.rm A h.rb.1 h.lo.2,Xs h.rm A h.rn jD,ho,⟨Zg h.rm A h.bx.hm jD,Zg h.rm A h.bx.hp jD,h.bx.ha.kept A (λe=>by have:=(h.rm.lt _ e.symm).1;have:=h.rb.2.1;omega),h.bx.ho.kept A (λe=>by have:=(h.rm.lt _ e.symm).1;have:=h.rb.2.2.1;omega)⟩,
  ⟨Xs h.rm A h.pt.own jD,h.pt.len,λx hx=>(h.pt.does x hx).mono (λB cs D=>Zg h.rm A D jD) hb (aP _),h.pt.src⟩,h.lo,h.rb.1,h.rb.2.1,h.rb.2.2.1,aO h.rb.2.2.2 A.size⟩
end
theorem wu:∀(ps:List (Nat×ZO)) (m:Nat),Vm (ps.map (·.1)) ((List.range ps.length).map (λj=>m+j)) 0=Vt ps m:=by
 intro ps;unfold Vm
 induction ps with
 |nil=>intro m;rfl
 |cons p r A=>
  intro m;rw[aud,aj,List.range_succ_eq_map,aed,aed,List.zip_cons_cons,akb];show(p.1,m+0)::_=(p.1,m)::Vt r (m+1);rw[<-A (m+1),aud,aec]
  congr 2
  apply asc;intro j _;show m+(j+1)=m+1+j;omega
theorem wm{LO M Bm N a:Nat}{v:Value}{g:G}(q:Ya)(es:List (Nat×List Z3))(s0 s1:List (Nat×Nat))(ha:a<5)(w:World)(h:Zl LO M Bm w v g)(hg:Wl g)(hd:q.d<4294967296)(he:WK N w (VO (q.e a)) es)(hec:∀e∈es,dF e)(uw:es.length<=4000)(hs0:VI N w (VO q.s0) s0)(hs1:VI N w (VO q.s1) s1)(hc0:xy s0)(hc1:xy s1)
 (hnd:((Z1 a es s0 s1).map (·.1)).Nodup) (hsz:g.sz+ZX (Z1 a es s0 s1)<=900000) (hN:N<=LO) (PU:LO<=w.heap.size):
 Calls prog 55 #[.pointer (some ⟨M,0,none⟩),.agg (ZA q),.int .i64 a] w λe w'=>e=.returned (.tuple #[])/\∃v' ps,ps.Perm (Z1 a es s0 s1)/\ps.Pairwise (λx y=>x.1<y.1)/\Zl LO M Bm w' v' (Za q.d ps g)/\Yh LO M Bm w w'/\Wl (Za q.d ps g):=by
 have I:=Z8.new w Xy (ZA q);have c0:=I.cell 0;have c1:=I.cell 1;have c2:=I.cell 2;have c3:=I.cell 3;have c4:=I.cell 4;have c5:=I.cell 5;have c6:=I.cell 6;have c7:=I.cell 7;have c8:=I.cell 8;unfold ZA VO at c0 c1 c2 c3 c4 c5 c6 c7 c8;simp only[ak,aL,aF] at c0 c1 c2 c3 c4 c5 c6 c7 c8;have hlw:w.heap.size<(w.alloc (.cells (ZA q) Xy)).heap.size:=I.lt;have GL:=aT I;have HH:=aT (h.al (.cells (ZA q) Xy));have HF:=aT (Yh.alloc (LO:=LO) (M:=M) (Bm:=Bm) (a:=w) (.cells (ZA q) Xy) PU);have hb0:Below N w (w.alloc (.cells (ZA q) Xy)):=(aG N w).alloc (aO hN PU) _;have HE:=aT (he.below hb0 (aP _));have Um:=aT (hs0.below hb0 (aP _));have GQ:=aT (hs1.below hb0 (aP _));have HEC:=aT hec;have HC:=aT (And.intro hc0 hc1);have HND:=aT hnd;have gR:=aT hsz;have HG:=aT hg;have Nk:LO<=(w.alloc (.cells (ZA q) Xy)).heap.size:=jO;clear I h he hs0 hs1 hec hc0 hc1 hnd hsz hg hb0;unfold ZA VO at*;go_enter func55,ntmps55;go_upto_region 1 with fail;generalize w.alloc (.cells #[.int .u32 q.d,.bool q.x,.slice q.e0.1 q.e0.2.1 q.e0.2.2,.slice q.e1.1 q.e1.2.1 q.e1.2.2,.slice q.e2.1 q.e2.2.1 q.e2.2.2,.slice q.e3.1 q.e3.2.1 q.e3.2.2,.slice q.e4.1 q.e4.2.1 q.e4.2.2,.slice q.s0.1 q.s0.2.1 q.s0.2.2,.slice q.s1.1 q.s1.2.1 q.s1.2.2] Xy)=w1 at*;have cF:(g.goes q.d).n<=1000000:=by have h1:=Xc g q.d;have h2:=gR.out;unfold G.sz at h1 h2;omega
 go_wp2_with fail;refine(Ud w1 HH HG hd cF Nk).mono ?_;rintro e w2 ⟨rfl,h2,f2⟩;have zv:=f2.Yz HH GL jD jD;have L8:=aT h2;have Lj:=aT (HF.trans f2);have HE2:=aT (HE.below f2.1 hN);have ag1:=aT (Um.below f2.1 hN);have ag2:=aT (GQ.below f2.1 hN);have Pe:LO<=w2.heap.size:=aO Nk f2.2.1;clear h2 f2 GL HH HF HE Um GQ c0 c1 c2 c3 c4 c5 c6 c7 c8 hlw Nk;obtain⟨c0,c1,c2,c3,c4,c5,c6,c7,c8⟩:=zv.q9;clear zv;obtain⟨A,hgd⟩:=jX (g.goes q.d);have JN:Hid (Wl A):=by rw[<-hgd];exact HG.goes hd
 have HGD:=aT hgd;rw[hgd] at L8 cF ⊢;clear hgd;obtain⟨ow,how⟩:=jX (look A.b q.d);have HOW:=aT how;rw[how];clear how;have HPA:=aT (xx (M:=M) (ow:=ow) (N:=N) q es s0 s1 ha w2 HE2 HEC uw ag1 ag2 HC.1 HC.2 (aO hN Pe));unfold ZA VO at HPA;go_wp2_with fail;refine HPA.mono ?_;rintro e w3 ⟨vl,mB,pB,aB,oB,ds,src,rfl,GG,cE,hpt,FU,hle⟩;clear HPA c0 c1 c2 c3 c4 c5 c6 c7 c8;obtain⟨n,hn⟩:=jX ds.length;rw[hn] at hpt;have yR:src.length=n:=by rw[<-hpt.src,aac,hn]
 have hnb:n<=4002:=by
  rw[<-yR,FU.length_eq];unfold Z1;rw[ay,aac];split;·show es.length+2<=_;omega
  ·show es.length+0<=_;omega
 have Y:=wC FU hle HND;obtain⟨RG,iq⟩:=jX (Za q.d src g);have cD:GB RG:=by rw[<-iq];refine GB.ae2 (aO (WI q.d src g) ?_);rw[Y8 FU];exact gR
 have cB:Yc ow (src.map (·.2)) (A.n+1) (ZI ow (Vt src (A.n+1)) ⟨A.l,A.n+n,A.b⟩)=RG:=by rw[<-iq];unfold Za;rw[HGD.out,HOW.out,yR]
 have aE0:A.n+n<=900000:=by have h1:=cD;rw[<-cB] at h1;exact(h1.back ((W6 ow _ _ _ (aP _)).trans (TG ow _ _ _))).2
 have kQ:Hid (Vh LO M Bm N a ow mB pB aB oB q w w2.heap.size ds src vl n w3.heap.size w3 v A 0 (.slice none 0 0) [] 0 (.slice none 0 0) []):=
  ⟨L8.Zs GG,Lj.trans (Yh.below GG Pe),Yg _ _ _ _,Yg _ _ _ _,cE,hpt,⟨hN,PU⟩,aO Lj.2.1 GG.size,cE.ha.lt,cE.ho.lt,aP _⟩
 have HN:=aT hn;have HSL:=aT yR;have HST:=aT Y;have mX:=aT FU;have L6:=aT iq;have as1:=aT cB;have ag3:=aT cD;obtain⟨la,lc,rfl⟩:=ZK hpt.own;generalize w3.heap.size=RB at*;generalize w2.heap.size=LB at*;clear GG cE hpt FU hle hn yR Y iq cB cD HE2 ag1 ag2 L8 Lj HND gR;go_upto_region 6 with fail;go_loopg [8,9,25] (n+1) (λgg vn vm iv wr=>∃(i:Nat) (g':G),i<=n/\n-i<gg/\iv=.int .i64 (i:Int)/\Hid (g'=⟨A.l,A.n+i,A.b⟩)/\Hid (Vh LO M Bm N a ow mB pB aB oB q w LB ds src (.slice la n lc) n RB wr v g' i vn (VG ((src.take i).map (·.1))) i vm (UT ((List.range i).map (λj=>A.n+1+j)))));case atStart=>exact⟨0,A,abb _,jO,rfl,rfl,kQ⟩
 case round=>
  obtain⟨i,g',tM,VM,rfl,HG',D⟩:=hrel;clear kQ;have i0:=jZ i;by_cases hlt:i<n
  ·have Zc:(i:Int)<(n:Int):=by omega
   obtain⟨x,hx⟩:∃x,ds[i]? =some x:=⟨_,aM (by rw[HN.out];exact hlt)⟩;obtain⟨gB,rfl,BM,I9⟩:=Ye RR 2 (λ_=>rfl) HN D.pt.own hx;have y0:=I9 0 jD;have y1:=I9 1 jD;have mW:src[i]? =some (ghost x):=by rw[<-D.out.pt.src,ada,hx];rfl
   have HSX:=aT mW;obtain⟨⟨num,ag4⟩,⟨f,cs⟩,tp⟩:=x;simp only[RR,aL,aF,aec] at y0 y1;obtain⟨na,nc,rfl⟩:=ZK D.rn;obtain⟨ma,mc,rfl⟩:=ZK D.rm;have U:=aT (D.alloc (.cells #[.int .u32 num,.func (.func f) #[] cs] Cw));have Ue:=aT (Z8.new wr Cw #[.int .u32 num,.func (.func f) #[] cs]);clear I9 hx mW D;go_upto_region 8 with fail;clear y0 y1;generalize wr.alloc (.cells #[.int .u32 num,.func (.func f) #[] cs] Cw)=wa at*;generalize wr.heap.size=B1 at*;have z0:wa.cell? ⟨B1,0,none⟩=some (.int .u32 num):=by simpa using Ue.out.cell 0
   obtain⟨iU,hiU,hU0,hU1,hU2⟩:=ZQ zu;obtain⟨iI,hiI,hI0,hI1,cQ⟩:=ZQ zt;have hRa:=U.rb.2.2.2
   go_wp2_with (first|(refine Great.wpList_buildSliceTo rfl 100 53 1 _ rfl _ rfl _ rfl underlying100 #[.int .u32 num] jK ?_)|(at_builtin;refine aea _ rfl _ _ 100 rfl RB 53 iU (.int .u32 0) 1 4 underlying100 hiU hU0 hU1 hU2 rfl jD _ i _ rfl (U.rn.alloc _) ⟨wa.heap.size,0,none⟩ 1 1 [.int .u32 num] rfl ?c1 ?c2 ?c3 ?c4 ?c5 ?c6 ?_;(case c1=>rfl);(case c2=>exact Y1 rfl);(case c3=>intro u hu;rw[aaa.1 hu];rfl);(case c4=>unfold maxLen;omega);(case c5=>omega);(case c6=>rw[ai];omega);intro v' w6 C J _;obtain⟨sa,sc,rfl⟩:=ZK C;have zo:=aT (U.grN (Zi (aeb wa _ _) J) C);clear C J))
   clear z0 Ue U hRa;have as2:g'.n+1<=1000000:=by rw[HG'.out];show A.n+i+1<=_;omega
   refine(Vp w6 zo.Xj as2).mono ?_;rintro e w7 ⟨rfl,h7,f7⟩;have T:=aT (zo.BQ f7 h7);clear zo h7 f7;have hRa:=T.rb.2.2.2
   go_wp2_with (first|(refine Great.wpList_buildSliceTo rfl 94 3 1 _ rfl _ rfl _ rfl underlying94 #[.int .i64 ((g'.n:Int)+1)] jK ?_)|(at_builtin;refine aea _ rfl _ _ 94 rfl RB 3 iI (.int .i64 0) 1 8 underlying94 hiI hI0 hI1 cQ rfl jD _ i _ rfl (T.rm.alloc _) ⟨w7.heap.size,0,none⟩ 1 1 [.int .i64 ((g'.n:Int)+1)] rfl ?c1 ?c2 ?c3 ?c4 ?c5 ?c6 ?_;(case c1=>rfl);(case c2=>exact Y1 rfl);(case c3=>intro u hu;rw[aaa.1 hu];rfl);(case c4=>unfold maxLen;omega);(case c5=>omega);(case c6=>rw[ai];omega);intro v' w8 C J _;obtain⟨ta,tc,rfl⟩:=ZK C;have HP8:=aT (T.grM (Zi (aeb w7 _ _) J) C);clear C J))
   have iw:=jW i;have HX1:Hid (VG ((src.take (i+1)).map (·.1))=VG ((src.take i).map (·.1))++[.int .u32 num]):=by show _=_;rw[afb,HSX.out,adb,Jg];rfl
   have xG:Hid (UT ((List.range (i+1)).map (λj=>A.n+1+j))=UT ((List.range i).map (λj=>A.n+1+j))++[.int .i64 ((g'.n:Int)+1)]):=by show _=_;rw[amf,adb,Jf,HG'.out];show _++[Value.int .i64 ((A.n+1+i:Nat):Int)]=_++[Value.int .i64 (((A.n+i:Nat):Int)+1)];rw[show((A.n+1+i:Nat):Int)=((A.n+i:Nat):Int)+1 from jO]
   have Eu:Hid (g'.mark=⟨A.l,A.n+(i+1),A.b⟩):=by rw[HG'.out];rfl
   clear hRa T;go_wp2_with fail;go_roundg (n-i);case measure=>omega
   case rel=>exact⟨i+1,g'.mark,jO,jO,by go_num,Eu,by rw[HX1.out,xG.out];exact HP8⟩
  ·obtain rfl:n=i:=by omega
   have Zc:¬(n:Int)<(n:Int):=jO;rw[abd (by rw[HSL.out];exact aP _)] at D;have hgm:((List.range n).map (λj=>A.n+1+j)).length=n:=by rw[aac,afe]
   have ia:=wu src (A.n+1);rw[HSL.out] at ia;obtain⟨na,nc,rfl⟩:=ZK D.rn;obtain⟨ma,mc,rfl⟩:=ZK D.rm;have dH:(src.map (·.1)).length=n:=by rw[aac,HSL.out]
   have BM:=LP D.rn;have CD:LO<=wr.heap.size:=aO PU D.fr.2.1;obtain⟨gS,hgS⟩:=jX (ZI ow (Vt src (A.n+1)) g');have hR2:=as1.out;rw[<-HG'.out,hgS] at hR2;have hGS:GB gS:=by have h1:=ag3.out;rw[<-hR2] at h1;exact h1.back (TG ow _ _ _)
   have ag5:Wl g':=by rw[HG'.out];exact⟨JN.keys,JN.FY,aO JN.len (Nat.le_add_right _ _)⟩
   have tq:Wl gS:=by rw[<-hgS];exact UU ow _ _ _ (aP _) ag5
   have gw:=aT (La (ow:=ow) (ms:=(List.range n).map (λj=>A.n+1+j)) (l:=src.map (·.1)) dH jO (afa.2 HST.out) hgm wr D.Xj (Je dH D.rn) BM.1 BM.2 (aP _) (Ze (by rw[hgm];exact D.rm) (aO PU D.rb.1)) (by rw[ia,hgS];exact hGS) CD);have HZ:=aT ia;have HGS:=aT hgS;have K0:=aT hR2;have dK:=aT tq;clear ia hgm BM dH hgS hR2 hGS ag5 tq CD;go_wp2_with fail;refine gw.mono ?_;rintro e w5 ⟨rfl,v5,h5,f5⟩;rw[HZ.out,HGS.out] at h5;have CQ:=aT (D.BQ f5 h5);clear h5 f5 gw D HZ;go_upto_region 12 with fail;go_loopg [47] (n+1) (λgg iv wr=>∃(i:Nat) (v':Value) (g':G),i<=n/\n-i<gg/\iv=.int .i64 (i:Int)/\Hid (Vh LO M Bm N a ow mB pB aB oB q w LB ds src (.slice la n lc) n RB wr v' g' n (.slice na n nc) (VG (src.map (·.1))) n (.slice ma n mc) (UT ((List.range n).map (λj=>A.n+1+j))))/\Hid (Wl g')/\Hid (Yc ow ((src.drop i).map (·.2)) (A.n+1+i) g'=RG));case atStart=>exact⟨0,v5,gS,abb _,jO,rfl,CQ,dK,K0⟩
   case round=>
    obtain⟨i,v',g9,tM,VM,rfl,D,HO9,HD9⟩:=hrel;clear CQ;have i0:=jZ i;by_cases hlt:i<n
    ·have Zc:(i:Int)<(n:Int):=by omega
     obtain⟨x,hx⟩:∃x,ds[i]? =some x:=⟨_,aM (by rw[HN.out];exact hlt)⟩;obtain⟨gB,rfl,BM,I9⟩:=Ye RR 2 (λ_=>rfl) HN D.pt.own hx;obtain⟨sg,rfl,aA4,hcm⟩:=Ye (λm:Nat=>[Value.int .i64 m]) 1 (λ_=>rfl) (by rw[aac,afe]) D.rm (i:=i) (x:=A.n+1+i) (by rw[ada,aoa hlt];rfl);have y0:=I9 0 jD;have y1:=I9 1 jD;have y2:=hcm 0 jD;have mW:src[i]? =some (ghost x):=by rw[<-D.out.pt.src,ada,hx];rfl
     have hdx:=D.pt.does x (ag hx);obtain⟨csx,Z⟩:=hdx.fn;have Y:=HD9.out;rw[drop_cons mW,aed] at Y;obtain⟨mk,zx⟩:=jX (A.n+1+i);rw[zx] at y2 Y;have HMK:=aT zx;obtain⟨⟨num,ag4⟩,⟨f,cs⟩,tp⟩:=x;simp only[RR,aL,aF,aec,aqc] at y0 y1 y2;have Y:Yc ow ((src.drop (i+1)).map (·.2)) (mk+1) (VW ow tp (g9.here mk))=RG:=Y;have hgp:GB (VW ow tp (g9.here mk)):=by have h1:=ag3.out;rw[<-Y] at h1;exact h1.back (TG ow _ _ _)
     have hgh:=hgp.back (EF ow tp (g9.here mk));have JU:g9.l.length+1<=1000000:=by have h1:=hgh.1;simp[G.here] at h1;omega
     have HGP:=aT hgp;have ek:=aT Y;have HFX:=aT Z;have HX:=aT hx;have U:=aT (D.alloc (.cells #[.int .u32 num,.func (.func f) #[] cs] Cw));have Ue:=aT (Z8.new wr Cw #[.int .u32 num,.func (.func f) #[] cs]);clear I9 hcm hx mW hdx Z Y hgp hgh zx D;go_upto_region 14 with fail;clear y0 y1;have y2:(wr.alloc (.cells #[.int .u32 num,.func (.func f) #[] cs] Cw)).cell? ⟨sg,i,none⟩=some (.int .i64 mk):=((aG wr.heap.size wr).alloc (aP _) _).cell (p:=⟨sg,i,none⟩) (afg _ _ y2) |>.trans y2;generalize wr.alloc (.cells #[.int .u32 num,.func (.func f) #[] cs] Cw)=wa at*;generalize wr.heap.size=B1 at*;have as3:LO<=wa.heap.size:=aO PU U.fr.2.1;go_wp2_with fail;refine(Lk (m:=mk) wa U.Xj JU as3).mono ?_;rintro e w7 ⟨rfl,v7,h7,f7⟩;have T:=aT (U.BQ f7 h7);have Uw:=f7.Yz U.Xj Ue jD jD;have z1:w7.cell? ⟨B1,1,none⟩=some (.func (.func f) #[] cs):=by simpa using Uw.cell 1
     have HCx:=aT (td (ow:=ow) (⟨num,ag4⟩,(f,cs),tp) w7 (T.pt.does _ (ag HX)) T.bx T.Xj (HO9.here mk) HGP hN (aO PU T.fr.2.1));have iw:=jW i;clear U Ue Uw h7 f7 y2;have Z:=HFX.out;clear HFX;unfold UR at HCx;dsimp only at Z HCx;rcases Z with Z|Z|Z
     all_goals
      injection Z with wj hf2;clear hf2;subst wj;go_wp2_with fail;refine HCx.mono ?_;rintro e w8 ⟨rfl,v8,h8,f8,o8⟩;have HP8:=aT (T.BQ f8 h8);have IW:=aT o8;have cA:Hid (Yc ow ((src.drop (i+1)).map (·.2)) (A.n+1+(i+1)) (VW ow tp (g9.here mk))=RG):=by have h1:=ek.out;rw[<-HMK.out] at h1 ⊢;exact h1
      clear h8 f8 o8 HCx T z1;go_wp2_with fail;go_roundg (n-i);case measure=>omega
      case rel=>exact⟨i+1,v8,_,jO,jO,by go_num,HP8,IW,cA⟩
    ·obtain rfl:n=i:=by omega
     have Zc:¬(n:Int)<(n:Int):=jO;have EL:g9=RG:=by have h1:=HD9.out;rw[anc (by rw[HSL.out];exact aP _)] at h1;exact h1
     subst EL;go_wp2_with fail;go_end0;exact⟨rfl,v',src,mX,HST,by rw[L6.out];exact D.Xj,D.fr,by rw[L6.out];exact HO9⟩
structure Uv(N:Nat)(W:World)(q:Ya)(es:Nat->List (Nat×List Z3))(s0 s1:List (Nat×Nat)):Prop where
 d:q.d<4294967296
 kM:∀a,a<5->WK N W (VO (q.e a)) (es a)
 ag6:∀a,a<5->∀e∈es a,dF e
 len:∀a,a<5->(es a).length<=4000
 m0:VI N W (VO q.s0) s0
 m1:VI N W (VO q.s1) s1
 c0:xy s0
 c1:xy s1
 nd:∀a,a<5->((Z1 a (es a) s0 s1).map (·.1)).Nodup
theorem Uv.below{N K:Nat}{W W':World}{q:Ya}{es:Nat->List (Nat×List Z3)}{s0 s1:List (Nat×Nat)}(h:Uv N W q es s0 s1)(hb:Below K W W')(hN:N<=K):Uv N W' q es s0 s1:=
 ⟨h.d,λa ha=>(h.kM a ha).below hb hN,h.ag6,h.len,h.m0.below hb hN,h.m1.below hb hN,h.c0,h.c1,h.nd⟩
def Om(LO M Bm a:Nat)(q:Ya)(es:Nat->List (Nat×List Z3))(s0 s1:List (Nat×Nat))(g:G)(w:World):Ending->World->Prop:=λe w'=>e=.returned (.tuple #[])/\∃v' ps,ps.Perm (Z1 a (es a) s0 s1)/\ps.Pairwise (λx y=>x.1<y.1)/\Zl LO M Bm w' v' (Za q.d ps g)/\Yh LO M Bm w w'/\Wl (Za q.d ps g)
theorem Ol{LO M Bm N a:Nat}{v:Value}{g:G}{q:Ya}{es:Nat->List (Nat×List Z3)}{s0 s1:List (Nat×Nat)}(w:World)(hp:Uv N w q es s0 s1)(ha:a<5)(h:Zl LO M Bm w v g)(D:Wl g)(C:g.sz+ZX (Z1 a (es a) s0 s1)<=900000)(hN:N<=LO)(A:LO<=w.heap.size):
 Calls prog 55 #[.pointer (some ⟨M,0,none⟩),.agg (ZA q),.int .i64 a] w (Om LO M Bm a q es s0 s1 g w):=
 wm q (es a) s0 s1 ha w h D hp.d (hp.kM a ha) (hp.ag6 a ha) (hp.len a ha) hp.m0 hp.m1 hp.c0 hp.c1 (hp.nd a ha) C hN A
theorem KE{W:World}{B:Nat}{q:Ya}(h:Z8 W B Xy (ZA q)):W.cell? ⟨B,0,none⟩=some (.int .u32 q.d)/\W.cell? ⟨B,1,none⟩=some (.bool q.x)/\W.cell? ⟨B,2,none⟩=some (.slice q.e0.1 q.e0.2.1 q.e0.2.2)/\W.cell? ⟨B,3,none⟩=some (.slice q.e1.1 q.e1.2.1 q.e1.2.2)/\W.cell? ⟨B,4,none⟩=some (.slice q.e2.1 q.e2.2.1 q.e2.2.2)/\W.cell? ⟨B,5,none⟩=some (.slice q.e3.1 q.e3.2.1 q.e3.2.2)/\W.cell? ⟨B,6,none⟩=some (.slice q.e4.1 q.e4.2.1 q.e4.2.2)/\W.cell? ⟨B,7,none⟩=some (.slice q.s0.1 q.s0.2.1 q.s0.2.2)/\W.cell? ⟨B,8,none⟩=some (.slice q.s1.1 q.s1.2.1 q.s1.2.2):=
 ⟨h.cell 0,h.cell 1,h.cell 2,h.cell 3,h.cell 4,h.cell 5,h.cell 6,h.cell 7,h.cell 8⟩
theorem kL{LO M Bm N:Nat}{v:Value}{g:G}{q:Ya}{es:Nat->List (Nat×List Z3)}{s0 s1:List (Nat×Nat)}(w:World)(hp:Uv N w q es s0 s1)(h:Zl LO M Bm w v g)(hg:Wl g)(hsz:g.sz+6+ZX (Z1 0 (es 0) s0 s1)+ZX (Z1 1 (es 1) s0 s1)<=900000)(hN:N<=LO)(PU:LO<=w.heap.size):
 Calls prog 54 #[.pointer (some ⟨M,0,none⟩),.agg (ZA q)] w λe w'=>e=.returned (.tuple #[])/\∃v' p0 p1,p0.Perm (Z1 0 (es 0) s0 s1)/\p0.Pairwise (λx y=>x.1<y.1)/\(q.x=true->p1.Perm (Z1 1 (es 1) s0 s1))/\(q.x=false->p1=[])/\p1.Pairwise (λx y=>x.1<y.1)/\Zl LO M Bm w' v' (UD q.x q.d p0 p1 g)/\Yh LO M Bm w w'/\Wl (UD q.x q.d p0 p1 g):=by
 have EP:=Z8.new w Xy (ZA q);obtain⟨c0,c1,c2,c3,c4,c5,c6,c7,c8⟩:=KE EP;have GL:=aT EP;have HH:=aT (h.al (.cells (ZA q) Xy));have HF:=aT (Yh.alloc (LO:=LO) (M:=M) (Bm:=Bm) (a:=w) (.cells (ZA q) Xy) PU);have HP:=aT (hp.below ((aG N w).alloc (aO hN PU) (.cells (ZA q) Xy)) (aP _));have Nk:LO<=(w.alloc (.cells (ZA q) Xy)).heap.size:=by rw[ai];omega
 have HG:=aT hg;have T:=aT hsz;have hd:=hp.d;have cF:(g.goes q.d).n<=1000000:=by have h1:=Xc g q.d;unfold G.sz at h1 hsz;omega
 have JU:(g.goes q.d).l.length+1<=1000000:=by have h1:=Xc g q.d;unfold G.sz at h1 hsz;omega
 clear EP h hp hg hsz;unfold ZA VO at*;go_enter func54,ntmps54;go_upto_region 1 with fail;generalize w.alloc (.cells #[.int .u32 q.d,.bool q.x,.slice q.e0.1 q.e0.2.1 q.e0.2.2,.slice q.e1.1 q.e1.2.1 q.e1.2.2,.slice q.e2.1 q.e2.2.1 q.e2.2.2,.slice q.e3.1 q.e3.2.1 q.e3.2.2,.slice q.e4.1 q.e4.2.1 q.e4.2.2,.slice q.s0.1 q.s0.2.1 q.s0.2.2,.slice q.s1.1 q.s1.2.1 q.s1.2.2] Xy)=w1 at*;go_wp2_with fail;refine(Ud w1 HH HG hd cF Nk).mono ?_;rintro e w2 ⟨rfl,h2,f2⟩;have QM:=aT (f2.Yz HH GL jD jD);have L8:=aT h2;have Lj:=aT (HF.trans f2);have GY:=aT (HP.below f2.1 hN);have Pe:LO<=w2.heap.size:=aO Nk f2.2.1;have JN:=aT (HG.goes hd);clear h2 f2 GL HH HF HP c0 c1 c2 c3 c4 c5 c6 c7 c8 Nk;obtain⟨ow,how⟩:=jX (look (g.goes q.d).b q.d);have HOW:=aT how;rw[how];clear how
 go_wp2_with (refine Great.wpList_buildSliceTo rfl 79 Wm 1 _ rfl _ rfl _ rfl underlying79 #[.int .i64 0,.int .u16 21,.int .u32 4294967295,.int .i64 ow,.int .i64 0] jK ?_)
 refine(Y0 (xs:=[ins 0x15 NONE ow 0]) w2 L8 rfl rfl JU Pe).mono ?_;rintro e w3 ⟨rfl,v3,h3,f3⟩;obtain⟨C,hg1⟩:=jX ((g.goes q.d).put [ins 0x15 NONE ow 0]);rw[hg1] at h3;have GP:=aT (f3.Yz L8 QM jD jD);have HH3:=aT h3;have zy:=aT (Lj.trans f3);have GX:=aT (GY.below f3.1 hN);have Y:LO<=w3.heap.size:=aO Pe f3.2.1;have J:Hid (Wl C):=by rw[<-hg1];exact JN.put _
 have hs1:C.sz<=g.sz+2:=by rw[<-hg1,WJ];have:=Xc g q.d;simp only[aj,acg];omega
 have HG1:Hid (C=(g.goes q.d).put [ins 0x15 NONE (look (g.goes q.d).b q.d) 0]):=by rw[HOW.out];exact hg1.symm
 clear h3 f3 QM L8 Lj GY Pe JN HOW hg1 cF JU;obtain⟨c0,c1,c2,c3,c4,c5,c6,c7,c8⟩:=KE GP;cases hx:q.x with
 |false=>
  rw[hx] at c1;have cF:(C.goes Zo).n<=1000000:=by have h1:=Xc C Zo;have h2:=T.out;unfold G.sz at h1 h2 hs1;omega
  have JU:(C.goes Zo).l.length+1<=1000000:=by have h1:=Xc C Zo;have h2:=T.out;unfold G.sz at h1 h2 hs1;omega
  go_wp2_with fail;refine(Ud (c:=Zo) w3 HH3 J jD cF Y).mono ?_;rintro e w4 ⟨rfl,h4,f4⟩;have cy:=aT (f4.Yz HH3 GP jD jD);have mj:=aT h4;have xN:=aT (zy.trans f4);have gq:=aT (GX.below f4.1 hN);have D:LO<=w4.heap.size:=aO Y f4.2.1;have Z:Hid (Wl (C.goes Zo)):=J.goes jD;clear h4 f4 GP HH3 zy GX Y J c0 c1 c2 c3 c4 c5 c6 c7 c8;obtain⟨kw,hkw⟩:=jX (look (C.goes Zo).b Zo);have HKW:=aT hkw;rw[hkw];clear hkw
  go_wp2_with (refine Great.wpList_buildSliceTo rfl 79 Wm 1 _ rfl _ rfl _ rfl underlying79 #[.int .i64 0,.int .u16 69,.int .u32 1073741824,.int .i64 kw,.int .i64 0] jK ?_)
  refine(Y0 (xs:=[ins 0x45 Wj kw 0]) w4 mj rfl rfl JU D).mono ?_;rintro e w5 ⟨rfl,v5,h5,f5⟩;have um:=f5.Yz mj cy jD jD;have uy:=aT (xN.trans f5);have OO:LO<=w5.heap.size:=aO D f5.2.1;have hs5:((C.goes Zo).put [ins 0x45 Wj kw 0]).sz<=g.sz+4:=by rw[WJ];have:=Xc C Zo;simp only[aj,acg];omega
  have A:Hid (Calls prog 55 #[.pointer (some ⟨M,0,none⟩),.agg (ZA q),.int .i64 0] w5 (Om LO M Bm 0 q es s0 s1 ((C.goes Zo).put [ins 0x45 Wj kw 0]) w5)):=
   Ol (a:=0) w5 (gq.below f5.1 hN) jD h5 (Z.put _) (by have:=T.out;omega) hN OO
  clear h5 f5 cy mj xN gq D Z;obtain⟨c0,c1,c2,c3,c4,c5,c6,c7,c8⟩:=KE um;clear um;unfold ZA VO at A;rw[hx] at A c1;go_wp2_with fail;refine A.mono ?_;rintro e w6 ⟨rfl,v6,p0,I,U,h6,f6,o6⟩;have gl:=aT h6;have lZ:=aT (uy.trans f6);have HR:=aT (And.intro I (And.intro U o6));have HE:Hid (UD false q.d p0 [] g=Za q.d p0 ((C.goes Zo).put [ins 0x45 Wj kw 0])):=by show UD false q.d p0 [] g=_;unfold UD;rw[<-HG1.out];dsimp only;rw[HKW.out];rfl
  clear h6 f6 I U o6 A uy c0 c1 c2 c3 c4 c5 c6 c7 c8;go_wp2_with fail
  first
   |(go_end0;exact⟨rfl,v6,p0,[],HR.1,HR.2.1,λh=>(by rw[hx] at h;cases h),λ_=>rfl,List.Pairwise.nil,by rw[hx,HE.out];exact gl,lZ,by rw[hx,HE.out];exact HR.2.2⟩)
   |(refine aaf (apa rfl _ _ _) rfl ?_;exact⟨rfl,v6,p0,[],HR.1,HR.2.1,λh=>(by rw[hx] at h;cases h),λ_=>rfl,List.Pairwise.nil,by rw[hx,HE.out];exact gl,lZ,by rw[hx,HE.out];exact HR.2.2⟩)
 |true=>
  rw[hx] at c1;have zw:C.n+1<=1000000:=by have h2:=T.out;unfold G.sz at h2 hs1;omega
  have JU:C.mark.l.length+1<=1000000:=by have h2:=T.out;unfold G.sz at h2 hs1;show C.l.length+1<=_;omega
  go_wp2_with fail;refine(Vp w3 HH3 zw).mono ?_;rintro e w4 ⟨rfl,h4,f4⟩;have cy:=aT (f4.Yz HH3 GP jD jD);have mj:=aT h4;have xN:=aT (zy.trans f4);have gq:=aT (GX.below f4.1 hN);have D:LO<=w4.heap.size:=aO Y f4.2.1;have Z:Hid (Wl C.mark):=J.mark;clear h4 f4 GP HH3 zy GX Y J c0 c1 c2 c3 c4 c5 c6 c7 c8
  go_wp2_with (refine Great.wpList_buildSliceTo rfl 79 Wm 1 _ rfl _ rfl _ rfl underlying79 #[.int .i64 0,.int .u16 69,.int .u32 1073741824,.int .i64 ((C.n:Int)+1),.int .i64 0] jK ?_)
  refine(Y0 (xs:=[ins 0x45 Wj ((C.n+1:Nat):Int) 0]) w4 mj rfl rfl JU D).mono ?_;rintro e w5 ⟨rfl,v5,h5,f5⟩;have um:=f5.Yz mj cy jD jD;have uy:=aT (xN.trans f5);have OO:LO<=w5.heap.size:=aO D f5.2.1;have hs5:(C.mark.put [ins 0x45 Wj ((C.n+1:Nat):Int) 0]).sz<=g.sz+4:=by rw[WJ,OM];simp only[aj,acg];omega
  have CQ:=aT (gq.below f5.1 hN)
  have A:Hid (Calls prog 55 #[.pointer (some ⟨M,0,none⟩),.agg (ZA q),.int .i64 0] w5 (Om LO M Bm 0 q es s0 s1 (C.mark.put [ins 0x45 Wj ((C.n+1:Nat):Int) 0]) w5)):=
   Ol (a:=0) w5 CQ jD h5 (Z.put _) (by have:=T.out;omega) hN OO
  have HH5:=aT h5;have s6:=aT um;clear h5 f5 cy mj xN gq D Z;obtain⟨c0,c1,c2,c3,c4,c5,c6,c7,c8⟩:=KE um;clear um;unfold ZA VO at A;rw[hx] at A c1;go_wp2_with fail;refine A.mono ?_;rintro e w6 ⟨rfl,v6,p0,I,U,h6,f6,o6⟩;clear c0 c1 c2 c3 c4 c5 c6 c7 c8;obtain⟨g6,kK⟩:=jX (Za q.d p0 (C.mark.put [ins 0x45 Wj ((C.n+1:Nat):Int) 0]));have hs6:g6.sz<=g.sz+4+ZX (Z1 0 (es 0) s0 s1):=by rw[<-kK,<-Y8 I];exact aO (WI q.d p0 _) jO
  have HG6:=aT kK;rw[kK] at h6 o6;have GJ:=aT (f6.Yz HH5 s6 jD jD);have gl:=aT h6;have lZ:=aT (uy.trans f6);have zo:=aT (CQ.below f6.1 hN);have HR:=aT (And.intro I (And.intro U o6));have EM:LO<=w6.heap.size:=aO OO f6.2.1;have hl6:g6.l.length+1<=1000000:=by have h2:=T.out;unfold G.sz at h2 hs6;omega
  clear h6 f6 I U o6 A uy HH5 s6 CQ kK;go_wp2_with fail;refine(Ua (m:=C.n) w6 gl hl6 EM).mono ?_;rintro e w7 ⟨rfl,v7,h7,f7⟩;have hA7:=f7.Yz gl GJ jD jD;have HF7:=aT (lZ.trans f7);have as4:LO<=w7.heap.size:=aO EM f7.2.1
  have A:Hid (Calls prog 55 #[.pointer (some ⟨M,0,none⟩),.agg (ZA q),.int .i64 1] w7 (Om LO M Bm 1 q es s0 s1 (g6.here (C.n+1)) w7)):=
   Ol (a:=1) w7 (zo.below f7.1 hN) jD h7 (HR.2.2.here _) (by rw[UW];have:=T.out;omega) hN as4
  clear h7 f7 GJ gl lZ zo EM;obtain⟨c0,c1,c2,c3,c4,c5,c6,c7,c8⟩:=KE hA7;clear hA7;unfold ZA VO at A;rw[hx] at A c1;go_wp2_with fail;refine A.mono ?_;rintro e w8 ⟨rfl,v8,p1,I,U,h8,f8,o8⟩;have HH8:=aT h8;have HF8:=aT (HF7.trans f8);have gj:=aT (And.intro I (And.intro U o8));have HE:Hid (UD true q.d p0 p1 g=Za q.d p1 (g6.here (C.n+1))):=by show UD true q.d p0 p1 g=_;unfold UD;rw[<-HG1.out,<-HG6.out];rfl
  clear h8 f8 I U o8 A HF7 c0 c1 c2 c3 c4 c5 c6 c7 c8;go_wp2_with fail;go_end0;exact⟨rfl,v8,p0,p1,HR.1,HR.2.1,λ_=>gj.1,λh=>(by rw[hx] at h;cases h),gj.2.1,by rw[hx,HE.out];exact HH8,HF8,by rw[hx,HE.out];exact gj.2.2⟩
end Go.Proofs.YtclgigmgbebhgaaGreatDoor
namespace Go.Proofs.YtclgigmgbebhgaaGreatDoor
open Tryz
open Go Go.Proofs
def VC(l:List Z9)(at_:Nat->Nat)(ZV far:Nat->Bool)(n:Nat):List ZL:=
 match (Z6 l)[n]? with
 |some x=>encI x (ZV n) (far n) (at_ n) (at_ (target l n x.t)) (at_ (target l n x.f))
 |none=>[]
theorem V0{l:List Z9}{at_:Nat->Nat}{ZV far:Nat->Bool}{n:Nat}{x:Z9}(h:(Z6 l)[n]? =some x):VC l at_ ZV far n=encI x (ZV n) (far n) (at_ n) (at_ (target l n x.t)) (at_ (target l n x.f)):=by
 unfold VC;rw[h]
theorem O5(E:Nat->List ZL)(at_:Nat->Nat)(N:Nat)(A:at_ 0=0)(hs:∀n,n<N->at_ (n+1)=at_ n+(E n).length):∀n,n<=N->at_ n=((List.range n).flatMap E).length
 |0,_=>by simp[A]
 |n+1,h=>by rw[hs n jO,O5 E at_ N A hs n jO,amf,aca,ay];simp
theorem range_split(E:Nat->List ZL):∀(d n:Nat),(List.range (n+d)).flatMap E=(List.range n).flatMap E++(List.range d).flatMap (λj=>E (n+j))
 |0,n=>jS
 |d+1,n=>by rw[<-aya,amf,aca,range_split E d n,amf,aca,aba];simp
theorem cx{l:List Z9}{out:List ZL}{at_:Nat->Nat}{ZV far:Nat->Bool}
 (code:∀x∈Z6 l,x.code=0x20\/x.code=0x54\/x.code=0x05\/x.code=0x06\/YW x.code=true)
 (D:at_ 0=0) (hs:∀n,n<(Z6 l).length->at_ (n+1)=at_ n+(VC l at_ ZV far n).length)
 (ho:out=(List.range (Z6 l).length).flatMap (VC l at_ ZV far))
 (branch:∀(n:Nat) (x:Z9),(Z6 l)[n]? =some x->far n=true->YW x.code=true)
 (plain:∀(n:Nat) (x:Z9),(Z6 l)[n]? =some x->x.code=0x20\/x.code=0x54->x.t=0)
 (yes:∀(n:Nat) (x:Z9),(Z6 l)[n]? =some x->ZV n=false->x.code≠0x06->ZV (target l n x.t)=false)
 (no:∀(n:Nat) (x:Z9),(Z6 l)[n]? =some x->ZV n=false->YW x.code=true->ZV (target l n x.f)=false):U2 l out at_ ZV far:=by
 have C:=O5 (VC l at_ ZV far) at_ (Z6 l).length D hs;have A:∀n,n<=(Z6 l).length->out.drop (at_ n)=(List.range ((Z6 l).length-n)).flatMap (λj=>VC l at_ ZV far (n+j)):=by intro n hn;have e:=range_split (VC l at_ ZV far) ((Z6 l).length-n) n;rw[show n+((Z6 l).length-n)=(Z6 l).length from jO,<-ho] at e;rw[e,C n hn,List.drop_left]
 refine⟨code,λn x hx=> ?_,λn x hx=> ?_,?_,branch,plain,yes,no⟩;·have hn:=(aq.1 hx).1;rw[hs n hn,V0 hx]
 ·have hn:=(aq.1 hx).1;rw[A n jO,A (n+1) jO,<-V0 hx,show(Z6 l).length-n=((Z6 l).length-(n+1))+1 from jO,List.range_succ_eq_map,acb,aec]
  congr 1
  rw[List.flatMap_map]
  congr 1
  funext j
  show VC l at_ ZV far (n+(j+1))=VC l at_ ZV far (n+1+j);rw[show n+(j+1)=n+1+j from jO]
 ·rw[A _ (aP _),alc];rfl
def rG(i:ZL)(rest:Nat):Prop:=
 (i.code=0x20\/i.code=0x54\/i.code=0x05\/i.code=0x06\/YW i.code=true)/\(i.code=0x20->i.k%4=0/\i.k<64)/\(i.code=0x05->i.k<rest)/\(YW i.code=true->i.jt<rest/\i.jf<rest)
theorem IU{l:List Z9}(hf:ZT l){p r:List Z9}{x:Z9}(e:l=p++x::r)(hx:x.mark=0){m:Int}(hm:m≠0->m∈marks r)(hr:Z6 r≠[])(A:∀q y,l=q++[y]->y.mark=0):target l (Z6 p).length m<(Z6 l).length:=by
 subst e;obtain⟨q,hq,ht,_,hle⟩:=Vv hf hx hm;rw[ht];have:Z6 (goto m r)≠[]:=by
  unfold goto at hq ⊢;by_cases J:m=0;·rw[aH J];exact hr
  ·rw[aN J] at hq ⊢;intro C;obtain⟨q2,Y⟩:=R2 r m J (hm J);cases D:U9 m r with
   |nil=>
    rw[D,ade] at Y;have I:∀(r:List Z9),m∈marks r->U9 m r=[]->∃q y,r=q++[y]/\y.mark=m:=by
     intro r
     induction r with
     |nil=>intro h _;simp[marks] at h
     |cons y ys ih=>
      intro h U;unfold U9 at U;by_cases e:y.mark=m;·rw[aH e] at U;subst U;exact⟨[],y,rfl,e⟩
      ·rw[aN e] at U
       have h3:m∈marks ys:=by
        by_cases hz:y.mark=0;·rwa [Y2 hz] at h
        ·rw[Zq hz] at h;rcases abf.1 h with rfl|h;·exact absurd rfl e
         ·exact h
       obtain⟨q,z,T,Z⟩:=ih h3 U;exact⟨y::q,z,by rw[T];rfl,Z⟩
    obtain⟨q3,y,T,Z⟩:=I r (hm J) D;have:=A (p++x::q3) y (by rw[T];simp);exact J (Z.symm.trans this)
   |cons z zs=>
    have hl:∃q y,U9 m r=q++[y]:=by rw[D];exact⟨(z::zs).dropLast,(z::zs).getLast jS,(apd jS).symm⟩
    obtain⟨q3,y,T⟩:=hl;have hy:=A (p++x::(q2++q3)) y (by rw[Y,T];simp);rw[T,Yl,YC hy] at C;simp at C
 have as5:0<(Z6 (goto m r)).length:=ayb.2 this;omega
end Go.Proofs.YtclgigmgbebhgaaGreatDoor
namespace Go.Proofs.YtclgigmgbebhgaaGreatDoor
open Tryz
open Go Go.Proofs Go.RowKit Go.Maps Go.WideMaps Go.ChangeMaps
variable {W:World}
def Uu:List (Value×Value):=[(.int .u16 32,.int .i64 1),(.int .u16 0,.int .i64 2),(.int .u16 96,.int .i64 3),(.int .u16 128,.int .i64 4),(.int .u16 1,.int .i64 5),(.int .u16 97,.int .i64 6),(.int .u16 129,.int .i64 7),(.int .u16 2,.int .i64 8),(.int .u16 3,.int .i64 9),(.int .u16 7,.int .i64 10),(.int .u16 135,.int .i64 11),(.int .u16 132,.int .i64 12),(.int .u16 5,.int .i64 13),(.int .u16 6,.int .i64 14),(.int .u16 22,.int .i64 15)]
def PB:List (Value×Value):=[(.int .u16 4,.int .i64 16),(.int .u16 20,.int .i64 17),(.int .u16 36,.int .i64 18),(.int .u16 52,.int .i64 19),(.int .u16 68,.int .i64 20),(.int .u16 84,.int .i64 21),(.int .u16 100,.int .i64 22),(.int .u16 116,.int .i64 23),(.int .u16 164,.int .i64 24),(.int .u16 21,.int .i64 25),(.int .u16 37,.int .i64 26),(.int .u16 53,.int .i64 27),(.int .u16 69,.int .i64 28)]
theorem KD:Keyed prog 137:=int_keyed underlying137
theorem rF(n:Int)(h:0<=n/\n<=65535):∃l,keyOf prog 137 (.int .u16 n)=some l:=⟨_,keyOf_int_mk underlying137 (by
 show(decide (IntKind.u16.min<=n)&&decide (n<=IntKind.u16.max))=true;rw[show IntKind.u16.min=0 from jD,show IntKind.u16.max=65535 from jD];simp only[aeg,adg];exact h)⟩
theorem WW(w:World):Calls prog 178 #[] w λe w'=>e=.returned (.map (some w.heap.size))/\ZB w' w.heap.size Uu/\Below w.heap.size w w':=by
 have D:= @apb prog;have A:=aT (NJ.made w);go_enter func178,ntmps178
 go_wp2_with (refine YV rfl rfl 298 _ _ _ rfl 137 162 KD underlying298 w w.heap.size _ A rfl _ _ rfl rfl ?hS ?hk ?hn ?_;(case hk=>exact rF _ jO);(case hS=>exact RU underlying137 jR);(case hn=>exact Li jR);clear A;intro I C;have A:=aT C;clear C)
 go_ret;exact⟨rfl,A.map,(aG _ w).grown A.grown (aP _) (λk e=>by have:=au e;omega)⟩
theorem Rw(w:World):Calls prog 179 #[] w λe w'=>e=.returned (.map (some w.heap.size))/\ZB w' w.heap.size PB/\Below w.heap.size w w':=by
 have D:= @apb prog;have A:=aT (NJ.made w);go_enter func179,ntmps179
 go_wp2_with (refine YV rfl rfl 298 _ _ _ rfl 137 162 KD underlying298 w w.heap.size _ A rfl _ _ rfl rfl ?hS ?hk ?hn ?_;(case hk=>exact rF _ jO);(case hS=>exact RU underlying137 jR);(case hn=>exact Li jR);clear A;intro I C;have A:=aT C;clear C)
 go_ret;exact⟨rfl,A.map,(aG _ w).grown A.grown (aP _) (λk e=>by have:=au e;omega)⟩
theorem D9:Uu.Pairwise (λp q=>p.1≠q.1):=by simp[Uu]
theorem BK:PB.Pairwise (λp q=>p.1≠q.1):=by simp[PB]
theorem ag7:∀W,(zeroValue 162).run prog W=.ok (.int .i64 0) W:=λ_=>jK
theorem Ni {B:Nat}(h:ZB W B Uu){c k:Int}(hc:0<=c/\c<=65535)(hm:(.int .u16 c,.int .i64 k)∈Uu):(Instr.lookup 298 (.map (some B)) (.int .u16 c) true).run prog W=.ok (.tuple #[.int .i64 k,.bool true]) W:=
 Lt underlying298 KD h (RU underlying137 jR) (rF c hc) hm D9
theorem TW {B:Nat}(h:ZB W B Uu){c:Int}(hc:0<=c/\c<=65535)(hm:Uu.all (mr c)=true):(Instr.lookup 298 (.map (some B)) (.int .u16 c) true).run prog W=.ok (.tuple #[.int .i64 0,.bool false]) W:=
 CI underlying298 KD ag7 h (RU underlying137 jR) (rF c hc) (Li hm)
theorem Rv {B:Nat}(h:ZB W B PB){c k:Int}(hc:0<=c/\c<=65535)(hm:(.int .u16 c,.int .i64 k)∈PB):(Instr.lookup 298 (.map (some B)) (.int .u16 c) true).run prog W=.ok (.tuple #[.int .i64 k,.bool true]) W:=
 Lt underlying298 KD h (RU underlying137 jR) (rF c hc) hm BK
def Zz(c:Nat):Nat:=if c=0x20 then 1 else if c=0x54 then 21 else if c=0x05 then 13 else if c=0x06 then 14 else if c=0x15 then 25 else if c=0x25 then 26 else if c=0x35 then 27 else 28
def codeOk(c:Nat):Prop:=c=0x20\/c=0x54\/c=0x05\/c=0x06\/c=0x15\/c=0x25\/c=0x35\/c=0x45
theorem IQ{c:Nat}(h:c=0x20\/c=0x54\/c=0x05\/c=0x06\/YW c=true):codeOk c:=by
 unfold codeOk;unfold YW at h;simp only[asg,ahc] at h;omega
def Sy(c:Nat)(w:World):Ending->World->Prop:=λe w'=>e=.returned (.tuple #[.int .i64 (Zz c:Int),.bool false,.bool true])/\Below w.heap.size w w'
theorem ag8(w:World):Calls prog 109 #[.int .u16 32] w (Sy 32 w):=by
 go_enter func109,ntmps109;go_wp2_with fail;refine(WW w).mono ?_;rintro e C ⟨rfl,hm,hb⟩;have D:=Ni (c:=32) (k:=1) hm jD (by simp[Uu]);have A:=aT hb;clear hm hb;go_wp2_with fail;go_ret3;exact⟨rfl,A⟩
theorem cO(w:World):Calls prog 109 #[.int .u16 5] w (Sy 5 w):=by
 go_enter func109,ntmps109;go_wp2_with fail;refine(WW w).mono ?_;rintro e C ⟨rfl,hm,hb⟩;have D:=Ni (c:=5) (k:=13) hm jD (by simp[Uu]);have A:=aT hb;clear hm hb;go_wp2_with fail;go_ret3;exact⟨rfl,A⟩
theorem rR(w:World):Calls prog 109 #[.int .u16 6] w (Sy 6 w):=by
 go_enter func109,ntmps109;go_wp2_with fail;refine(WW w).mono ?_;rintro e C ⟨rfl,hm,hb⟩;have D:=Ni (c:=6) (k:=14) hm jD (by simp[Uu]);have A:=aT hb;clear hm hb;go_wp2_with fail;go_ret3;exact⟨rfl,A⟩
theorem ag9(w:World):Calls prog 109 #[.int .u16 84] w (Sy 84 w):=by
 have U:bits .andNot .u16 84 8=84:=jD;have T:bits .and .u16 84 8=0:=jD;go_enter func109,ntmps109;go_wp2_with fail;refine(WW w).mono ?_;rintro e I ⟨rfl,hm,hb⟩;have J:=TW (c:=84) hm jD jR;have C:=aT hb;clear hm hb;go_wp2_with fail;refine(Rw I).mono ?_;rintro e Y ⟨rfl,hm,hb⟩;have D:=Rv (c:=84) (k:=21) hm jD (by simp[PB]);have A:=aT (C.trans (hb.mono C.size));clear hm hb J;go_wp2_with fail;go_ret3;exact⟨rfl,A⟩
theorem ah0(w:World):Calls prog 109 #[.int .u16 21] w (Sy 21 w):=by
 have U:bits .andNot .u16 21 8=21:=jD;have T:bits .and .u16 21 8=0:=jD;go_enter func109,ntmps109;go_wp2_with fail;refine(WW w).mono ?_;rintro e I ⟨rfl,hm,hb⟩;have J:=TW (c:=21) hm jD jR;have C:=aT hb;clear hm hb;go_wp2_with fail;refine(Rw I).mono ?_;rintro e Y ⟨rfl,hm,hb⟩;have D:=Rv (c:=21) (k:=25) hm jD (by simp[PB]);have A:=aT (C.trans (hb.mono C.size));clear hm hb J;go_wp2_with fail;go_ret3;exact⟨rfl,A⟩
theorem ah1(w:World):Calls prog 109 #[.int .u16 37] w (Sy 37 w):=by
 have U:bits .andNot .u16 37 8=37:=jD;have T:bits .and .u16 37 8=0:=jD;go_enter func109,ntmps109;go_wp2_with fail;refine(WW w).mono ?_;rintro e I ⟨rfl,hm,hb⟩;have J:=TW (c:=37) hm jD jR;have C:=aT hb;clear hm hb;go_wp2_with fail;refine(Rw I).mono ?_;rintro e Y ⟨rfl,hm,hb⟩;have D:=Rv (c:=37) (k:=26) hm jD (by simp[PB]);have A:=aT (C.trans (hb.mono C.size));clear hm hb J;go_wp2_with fail;go_ret3;exact⟨rfl,A⟩
theorem ah2(w:World):Calls prog 109 #[.int .u16 53] w (Sy 53 w):=by
 have U:bits .andNot .u16 53 8=53:=jD;have T:bits .and .u16 53 8=0:=jD;go_enter func109,ntmps109;go_wp2_with fail;refine(WW w).mono ?_;rintro e I ⟨rfl,hm,hb⟩;have J:=TW (c:=53) hm jD jR;have C:=aT hb;clear hm hb;go_wp2_with fail;refine(Rw I).mono ?_;rintro e Y ⟨rfl,hm,hb⟩;have D:=Rv (c:=53) (k:=27) hm jD (by simp[PB]);have A:=aT (C.trans (hb.mono C.size));clear hm hb J;go_wp2_with fail;go_ret3;exact⟨rfl,A⟩
theorem ah3(w:World):Calls prog 109 #[.int .u16 69] w (Sy 69 w):=by
 have U:bits .andNot .u16 69 8=69:=jD;have T:bits .and .u16 69 8=0:=jD;go_enter func109,ntmps109;go_wp2_with fail;refine(WW w).mono ?_;rintro e I ⟨rfl,hm,hb⟩;have J:=TW (c:=69) hm jD jR;have C:=aT hb;clear hm hb;go_wp2_with fail;refine(Rw I).mono ?_;rintro e Y ⟨rfl,hm,hb⟩;have D:=Rv (c:=69) (k:=28) hm jD (by simp[PB]);have A:=aT (C.trans (hb.mono C.size));clear hm hb J;go_wp2_with fail;go_ret3;exact⟨rfl,A⟩
theorem V8{c:Nat}(hc:codeOk c)(w:World):Calls prog 109 #[.int .u16 c] w (Sy c w):=by
 rcases hc with rfl|rfl|rfl|rfl|rfl|rfl|rfl|rfl;·exact ag8 w
 ·exact ag9 w
 ·exact cO w
 ·exact rR w
 ·exact ah0 w
 ·exact ah1 w
 ·exact ah2 w
 ·exact ah3 w
end Go.Proofs.YtclgigmgbebhgaaGreatDoor
