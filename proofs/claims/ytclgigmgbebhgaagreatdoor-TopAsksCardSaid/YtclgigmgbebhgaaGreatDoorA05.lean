/- TopAsks: part 5: TopSearch TopRow2 TopSubs TopSort ShelfS. -/
import Derived.Deep.AppendLies
import Derived.Shelf.SlSortCmp.WholeK
import Derived.Shelf.SlSortCmp.NoneTotal
import Derived.Shelf.SlGeneric
import Derived.Shelf.SlIterI.Nil
import Derived.Shelf.SlIter.Nil
import Derived.Shelf.SortM.Plain
import Derived.Shelf.SortM.SortNone
import Derived.Ground.SlsfProg
import Derived.Ground.GgzProg
import Derived.Ground.SlgmProg
import Derived.Test.YtclgigmgbebhgaaGreatDoorProg
import Derived.Test.YtclgigmgbebhgaaGreatDoorA04
set_option linter.unusedVariables false
set_option linter.unusedSimpArgs false
set_option maxRecDepth 100000
set_option maxHeartbeats 16000000
namespace Go.Proofs.YtclgigmgbebhgaaGreatDoor
open Tryz
open Go Go.Proofs Go.RowKit
variable {ms:List Nat} {xs:List Value} {B2 Bm t LO M s ow tB mB oB sB:Nat} {ad:Option Addr} {tv sv:Value} {W a W' w:World}
theorem tD {B1 t1 t2:Nat}{c1 c2:Array Value}(C:Z8 W B1 t1 c1)(A:Z8 W B2 t2 c2)(h:t1≠t2):B1≠B2:=by
 rintro rfl;have:=C.symm.trans A;injection this with this;injection this with _ e;exact h e
theorem Wd {B:Nat}{cs:Array Value}{S:List (Value×Value)}(h:Z8 W B t cs)(hm:ZB W Bm S):B≠Bm:=by
 rintro rfl;obtain⟨es,A,hb,_⟩:=hm;have:=hb.symm.trans h;injection this with this;cases this
theorem Yh.Yz {b:World}{v:Value}{g:G}(f:Yh LO M Bm a b)(mk:Zl LO M Bm a v g){B:Nat}{cs:Array Value}(h:Z8 a B t cs)(C:t≠FZ)(A:t≠Wm):Z8 b B t cs:=
 f.blk h (tD h mk.blk C) (Wd h mk.map) A
theorem Yh.T4 {b:World}{v:Value}{g:G}(f:Yh LO M Bm a b)(mk:Zl LO M Bm a v g){base e n:Nat}{u:Value} (h:a.ownsRow base e s u n xs)(D:e≠FZ)(C:e≠Wm):b.ownsRow base e s u n xs:=by
 refine⟨h.1,?_⟩;rcases h.2 with I|⟨k,cap,A,e1,e2,e3,e4⟩;·exact .inl I
 ·exact .inr ⟨k,cap,A,e1,e2,f.Yz mk (show Z8 a k e A from e3) D C,e4⟩
theorem GW{α β:Type}(f:α->List β)(k:Nat)(hk:∀x,(f x).length=k):∀(l:List α) (i:Nat) (x:α),l[i]? =some x->∀j,j<k->(l.flatMap f)[i*k+j]? =(f x)[j]?
 |[],i,x,h,_,_=>by simp at h
 |y::l,0,x,h,j,hj=>by rw[aL] at h;cases h;rw[acb,Nat.zero_mul,adf,abc (by rw[hk];exact hj)]
 |y::l,i+1,x,h,j,hj=>by rw[aF] at h;have A:=GW f k hk l i x h j hj;rw[acb,aae (by rw[hk,arb];omega),hk,show(i+1)*k+j-k=i*k+j by rw[arb];omega];exact A
theorem Ye{α:Type}(f:α->List Value)(k:Nat)(hk:∀x,(f x).length=k) {e c n:Nat} {l:List α}(hn:l.length=n)(h:W.ownsRow LO e k (.slice ad n c) n (l.flatMap f)){i:Nat}{x:α}(hi:l[i]? =some x):
 ∃g,ad=some ⟨g,0,none⟩/\n<=c/\∀j,j<k->W.cell? ⟨g,i*k+j,none⟩=(f x)[j]? :=by
 have A:=(aq.1 hi).1;have J:=h;rcases h.2 with⟨e1,e2⟩|⟨g,cap,C,e1,_,_,e4,_⟩;·omega
 ·injection e1 with e5 _ D;subst e5 D;refine⟨g,rfl,e4,λj I=> ?_⟩
  rw[J.cellAt (i*k+j) (by have:(i+1)*k<=n*k:=aub k jO;rw[arb] at this;omega),GW f k hk l i x hi j I]
theorem Lb{l:List Nat}{a:Nat}(h:a+l.length<=ms.length):(Vm l ms a).length=l.length:=by
 unfold Vm;rw[List.length_zip,aia];omega
theorem xM{l:List Nat}{a j:Nat}(h:a+l.length<=ms.length)(A:j<l.length):((Vm l ms a).getD j (0,0)).1=l.getD j 0:=by
 rw[aef,aef,aM A,aM (by rw[Lb h];exact A)];simp only[Option.getD_some];unfold Vm;rw[List.getElem_zip]
theorem tC{n mk a:Nat} (h:ms[a]? =some mk):Vm [n] ms a=[(n,mk)]:=by
 unfold Vm;rw[drop_cons h];rfl
def UT(ms:List Nat):List Value:=ms.flatMap λm:Nat=>[Value.int .i64 m]
structure xL(LO:Nat)(W:World)(M ow tB mB oB sB wB:Nat)(tv sv:Value)(t:List VH)(ms:List Nat):Prop where
 ht:Z8 W tB 290 #[tv]
 hm:Z8 W mB 132 #[.pointer (some ⟨M,0,none⟩)]
 ho:Z8 W oB 3 #[.int .i64 ow]
 hs:Z8 W sB 94 #[sv]
 hw:Z8 W wB 151 #[.func (.func 175) #[] #[.pointer (some ⟨tB,0,none⟩),.pointer (some ⟨mB,0,none⟩),.pointer (some ⟨oB,0,none⟩),.pointer (some ⟨sB,0,none⟩),.pointer (some ⟨wB,0,none⟩)]]
 nodes:W.ownsRow LO PS 5 tv t.length (UA t)
 marks:W.ownsRow LO 3 1 sv ms.length (UT ms)
theorem xL.keep{wB:Nat}{v:Value}{t:List VH} {b:World}{g:G}(f:Yh LO M Bm a b)(mk:Zl LO M Bm a v g)(h:xL LO a M ow tB mB oB sB wB tv sv t ms):xL LO b M ow tB mB oB sB wB tv sv t ms:=
 ⟨f.Yz mk h.ht jD jD,f.Yz mk h.hm jD jD,f.Yz mk h.ho jD jD,f.Yz mk h.hs jD jD,f.Yz mk h.hw jD jD,f.T4 mk h.nodes jD jD,f.T4 mk h.marks jD jD⟩
theorem cell1 {B:Nat}{u:Value}(h:Z8 W B t #[u]):W.cell? ⟨B,0,none⟩=some u:=by simpa using h.cell 0
theorem tA{LO M Bm ow tB mB oB sB wB:Nat}{tv sv:Value}{t:List VH}{ms:List Nat}(im:t.length<=9000)(hml:ms.length<=9000){i:Nat}{l:List Nat}{a:Nat}(hT:UB t i l a):
 ∀(g:G) (v:Value) (w:World),a+l.length<=ms.length->xL LO w M ow tB mB oB sB wB tv sv t ms->Zl LO M Bm w v g->GB (ZI ow (Vm l ms a) g)->LO<=w.heap.size->
  Calls prog 175 #[.int .i64 i,.pointer (some ⟨tB,0,none⟩),.pointer (some ⟨mB,0,none⟩),.pointer (some ⟨oB,0,none⟩),.pointer (some ⟨sB,0,none⟩),.pointer (some ⟨wB,0,none⟩)] w
   λe w'=>e=.returned (.tuple #[])/\∃v',Zl LO M Bm w' v' (ZI ow (Vm l ms a) g)/\Yh LO M Bm w w':=by
 induction hT with
 | @leaf i n a hx=>
   intro g v w U hS hM hG PU;obtain⟨mk,zx⟩:∃m,ms[a]? =some m:=⟨_,aM (by simp at U;omega)⟩;rw[tC zx,XD] at hG ⊢;obtain⟨TL,C⟩:∃n,t.length=n:=⟨_,rfl⟩;obtain⟨ML,ny⟩:∃n,ms.length=n:=⟨_,rfl⟩;have hit:i<TL:=by rw[<-C];exact(aq.1 hx).1
   have ham:a<ML:=by rw[<-ny];exact(aq.1 zx).1
   have D:=hS.nodes;have I:=hS.marks;rw[C] at D im;rw[ny] at I hml U;obtain⟨ta,tc,rfl⟩:=ZK D;obtain⟨sa,sc,rfl⟩:=ZK I;obtain⟨tg,rfl,htc,A⟩:=Ye PQ 5 (λ_=>rfl) C D hx;obtain⟨sg,rfl,hsc,hcm⟩:=Ye (λm:Nat=>[Value.int .i64 m]) 1 (λ_=>rfl) ny I zx;have n0:=A 0 jD;have n1:=A 1 jD;have n2:=A 2 jD;have n3:=A 3 jD;have n4:=A 4 jD;simp only[PQ,aL,aF,aec] at n0 n1 n2 n3 n4;have t0:=cell1 hS.ht;have iz0:=jZ i;have iz1:(i:Int)<(TL:Int):=jO;have az0:=jZ a;have az1:(a:Int)<(ML:Int):=jO;have anz:¬((a:Int)<0):=jO;have f1:=Yh.alloc (LO:=LO) (M:=M) (Bm:=Bm) (a:=w) (.cells #[.bool true,.int .u32 n,.int .i64 a,.int .i64 0,.int .i64 0] PS) PU;have HS:=aT (hS.keep f1 hM);have HM:=aT (hM.al (.cells #[.bool true,.int .u32 n,.int .i64 a,.int .i64 0,.int .i64 0] PS));have HF:=aT f1;have HN:=aT (Z8.new w PS #[.bool true,.int .u32 n,.int .i64 a,.int .i64 0,.int .i64 0]);have J:LO<=(w.alloc (.cells #[.bool true,.int .u32 n,.int .i64 a,.int .i64 0,.int .i64 0] PS)).heap.size:=by rw[ai];omega
   have JU:g.l.length+1<=1000000:=by
    have h:=hG.1;have e:(g.put [ins 0x15 n mk ow]).l.length=g.l.length+1:=by show(g.l++_).length=_;rw[ay];rfl
    omega
   have HMK:=aT zx;have HTL:=aT C;have HML:=aT ny;clear hS hM f1 D I A hcm hx zx hG C ny;go_enter func175,ntmps175;go_upto_region 6 with fail;generalize w.alloc (.cells #[.bool true,.int .u32 n,.int .i64 a,.int .i64 0,.int .i64 0] PS)=w1 at*;generalize w.heap.size=BN at*;clear n0 n1 n2 n3 n4 t0;obtain⟨z0,z1,z2⟩:=HN.q3;go_upto_region 9 with fail;have Y:Hid (∀W,Yh LO M Bm w1 W->W.cell? ⟨mB,0,none⟩=some (.pointer (some ⟨M,0,none⟩))/\W.cell? ⟨BN,1,none⟩=some (.int .u32 n)/\W.cell? ⟨sB,0,none⟩=some (.slice (some ⟨sg,0,none⟩) ML sc)/\W.cell? ⟨BN,2,none⟩=some (.int .i64 a)/\W.cell? ⟨sg,a,none⟩=some (.int .i64 mk)/\W.cell? ⟨oB,0,none⟩=some (.int .i64 ow)):=λW f=>by have h:=HS.keep f HM;have hb:=f.Yz HM HN jD jD;have I:=h.marks;rw[HML.out] at I;obtain⟨sg',e1,_,hc⟩:=Ye (λm:Nat=>[Value.int .i64 m]) 1 (λ_=>rfl) HML I HMK;cases e1;have h0:=hc 0 jD;simp only[aqc,aec,aL] at h0;exact⟨cell1 h.hm,by simpa using hb.cell 1,cell1 h.hs,by simpa using hb.cell 2,h0,cell1 h.ho⟩
   go_region_held3 (λw'=>w'.cell? ⟨mB,0,none⟩=some (.pointer (some ⟨M,0,none⟩))/\w'.cell? ⟨BN,1,none⟩=some (.int .u32 n)/\w'.cell? ⟨sB,0,none⟩=some (.slice (some ⟨sg,0,none⟩) ML sc)/\w'.cell? ⟨BN,2,none⟩=some (.int .i64 a)/\w'.cell? ⟨sg,a,none⟩=some (.int .i64 mk)/\w'.cell? ⟨oB,0,none⟩=some (.int .i64 ow)) (first|exact Y _ (Yh.refl _ _ _ _).drew|exact il|exact Y _ ((Yh.refl LO M Bm w1).drew.trans (Yh.alloc _ J))) (first
    |(go_at_call 47
      refine(Y0 (xs:=[ins 0x15 n mk ow]) w1.drew HM.drew rfl rfl JU J).mono ?_;rintro e w2 ⟨rfl,v2,h2,f2⟩;have Z:=aT f2.Pj;have il:=Y _ Z;have T:=aT h2;clear h2 f2))
   go_wp2_with fail;go_end0;exact⟨rfl,v2,T,HF.trans Z⟩
 | @node i l a lo hi h2 hx NL hhi ih1 ih2=>
   intro g v w U hS hM hG PU;rw[XY ow _ (by rw[Lb U];exact h2),Lb U,xQ,xP,xM U jO] at hG ⊢;obtain⟨H,hH⟩:=jX (l.length/2);obtain⟨nh,hnh⟩:∃n,l.getD (l.length/2) 0=n:=⟨_,rfl⟩;rw[hnh] at hx hG ⊢;rw[hH] at ih1 ih2 hG ⊢;obtain⟨TL,C⟩:∃n,t.length=n:=⟨_,rfl⟩;have hit:i<TL:=by rw[<-C];exact(aq.1 hx).1
   have D:=hS.nodes;rw[C] at D im;obtain⟨ta,tc,rfl⟩:=ZK D;obtain⟨tg,rfl,htc,A⟩:=Ye PQ 5 (λ_=>rfl) C D hx;have n0:=A 0 jD;have n1:=A 1 jD;have n2:=A 2 jD;have n3:=A 3 jD;have n4:=A 4 jD;simp only[PQ,aL,aF,aec] at n0 n1 n2 n3 n4;have t0:=cell1 hS.ht;have iz0:=jZ i;have iz1:(i:Int)<(TL:Int):=jO;have f1:=Yh.alloc (LO:=LO) (M:=M) (Bm:=Bm) (a:=w) (.cells #[.bool false,.int .u32 nh,.int .i64 0,.int .i64 lo,.int .i64 hi] PS) PU;have HS:=aT (hS.keep f1 hM);have HM:=aT (hM.al (.cells #[.bool false,.int .u32 nh,.int .i64 0,.int .i64 lo,.int .i64 hi] PS));have HF:=aT f1;have HLO:=aT PU;have HN:=aT (Z8.new w PS #[.bool false,.int .u32 nh,.int .i64 0,.int .i64 lo,.int .i64 hi]);have J:LO<=(w.alloc (.cells #[.bool false,.int .u32 nh,.int .i64 0,.int .i64 lo,.int .i64 hi] PS)).heap.size:=by rw[ai];omega
   obtain⟨g1,hg1⟩:=jX (ZI ow (Vm (l.take H) ms a) (g.mark.put [ins 0x35 nh ((g.n+1:Nat):Int) 0]));rw[hg1] at hG ⊢;have b2:=hG.back (W6 ow _ _ _ (aP _));have b1:=b2.back (Vc.here _ _);have b0:=b1;rw[<-hg1] at b0;have b0:=b0.back (W6 ow _ _ _ (aP _));have zw:g.n+1<=1000000:=aO b0.2 jD;have hpl:g.mark.l.length+1<=1000000:=by
    have h:=b0.1;have e:(g.mark.put [ins 0x35 nh ((g.n+1:Nat):Int) 0]).l.length=g.mark.l.length+1:=by show(g.mark.l++_).length=_;rw[ay];rfl
    omega
   have hhl:g1.l.length+1<=1000000:=by
    have h:=b2.1;have e:(g1.here (g.n+1)).l.length=g1.l.length+1:=by show(g1.l++_).length=_;rw[ay];rfl
    omega
   have ae4:a+(l.take H).length<=ms.length:=by rw[abg];omega
   have dR:a+H+(l.drop H).length<=ms.length:=by rw[aia];omega
   have IH1:=aT (λv w h1 h2 h3=>ih1 (g.mark.put [ins 0x35 nh ((g.n+1:Nat):Int) 0]) v w ae4 h1 h2 (by rw[hg1];exact b1) h3);have IH2:=aT (λv w h1 h2 h3=>ih2 (g1.here (g.n+1)) v w dR h1 h2 hG h3);have HG1:=aT hg1;clear hS hM f1 D A hx hG b0 b1 b2 ih1 ih2 hg1 ae4 dR hH hnh NL hhi;go_enter func175,ntmps175;go_upto_region 6 with fail;generalize w.alloc (.cells #[.bool false,.int .u32 nh,.int .i64 0,.int .i64 lo,.int .i64 hi] PS)=w1 at*;generalize w.heap.size=BN at*;clear n0 n1 n2 n3 n4 t0;obtain⟨z0,z1⟩:=HN.q2;have m0:=cell1 HS.hm;go_wp2_with fail;refine(Vp w1 HM zw).mono ?_;rintro e w2 ⟨rfl,h2,f2⟩;have QN:=aT (HS.keep f2 HM);have HN2:=aT (f2.Yz HM HN jD jD);have T:=aT h2;have Z:=aT (HF.trans f2);have Pe:LO<=w2.heap.size:=aO J f2.2.1;clear h2 f2 HS HN HM HF z0 z1 m0;have z1:=HN2.e1;have m0:=cell1 QN.hm
   go_wp2_with (refine Great.wpList_buildSliceTo rfl 79 Wm 1 _ rfl _ rfl _ rfl underlying79 #[.int .i64 0,.int .u16 53,.int .u32 nh,.int .i64 ((g.n:Int)+1),.int .i64 0] jK ?_)
   refine(Y0 (xs:=[ins 0x35 nh ((g.n+1:Nat):Int) 0]) w2 T rfl rfl hpl Pe).mono ?_;rintro e w3 ⟨rfl,v3,h3,f3⟩;have nw:=aT (QN.keep f3 T);have HN3:=aT (f3.Yz T HN2 jD jD);have CA:=aT h3;have zy:=aT (Z.trans f3);have xR:LO<=w3.heap.size:=aO Pe f3.2.1;clear h3 f3 QN HN2 T Z z1 m0;have z3:=HN3.e3;have q0:=cell1 nw.hw;go_wp2_with fail;refine(IH1 v3 w3 nw CA xR).mono ?_;rintro e w4 ⟨rfl,v4,h4,f4⟩;rw[HG1.out] at h4;have xK:=aT (nw.keep f4 CA);have HN4:=aT (f4.Yz CA HN3 jD jD);have HM4:=aT h4;have xN:=aT (zy.trans f4);have dQ:LO<=w4.heap.size:=aO xR f4.2.1;clear h4 f4 nw HN3 CA zy z3 q0;have m0:=cell1 xK.hm;go_wp2_with fail;refine(Ua (m:=g.n) w4 HM4 hhl dQ).mono ?_;rintro e w5 ⟨rfl,v5,h5,f5⟩;have HS5:=aT (xK.keep f5 HM4);have ij:=aT (f5.Yz HM4 HN4 jD jD);have HM5:=aT h5;have uy:=aT (xN.trans f5);have OO:LO<=w5.heap.size:=aO dQ f5.2.1;clear h5 f5 xK HN4 HM4 xN m0;have z4:=ij.e4;have q0:=cell1 HS5.hw;go_wp2_with fail;refine(IH2 v5 w5 HS5 HM5 OO).mono ?_;rintro e w6 ⟨rfl,v6,h6,f6⟩;have HM6:=aT h6;have lZ:=aT (uy.trans f6);clear h6 f6;go_wp2_with fail;go_end0;exact⟨rfl,v6,HM6,lZ⟩
theorem tz{wB:Nat}(g:G)(v:Value)(w:World)(hS:xL LO w M ow tB mB oB sB wB tv sv [⟨true,0,-1,0,0⟩] ms)(Y:Zl LO M Bm w v g)(hG:GB (g.put [ins 0x05 0 ow 0]))(I:LO<=w.heap.size):
 Calls prog 175 #[.int .i64 0,.pointer (some ⟨tB,0,none⟩),.pointer (some ⟨mB,0,none⟩),.pointer (some ⟨oB,0,none⟩),.pointer (some ⟨sB,0,none⟩),.pointer (some ⟨wB,0,none⟩)] w
  λe w'=>e=.returned (.tuple #[])/\∃v',Zl LO M Bm w' v' (g.put [ins 0x05 0 ow 0])/\Yh LO M Bm w w':=by
 have C:=hS.nodes;change w.ownsRow LO PS 5 tv 1 _ at C;obtain⟨ta,tc,rfl⟩:=ZK C;obtain⟨tg,rfl,htc,A⟩:=Ye PQ 5 (λ_=>rfl) rfl C (i:=0) (x:=⟨true,0,-1,0,0⟩) rfl;have n0:=A 0 jD;have n1:=A 1 jD;have n2:=A 2 jD;have n3:=A 3 jD;have n4:=A 4 jD;simp only[PQ,aL,aF,Nat.zero_mul,adf,aec] at n0 n1 n2 n3 n4;have t0:=cell1 hS.ht;have J:=Yh.alloc (LO:=LO) (M:=M) (Bm:=Bm) (a:=w) (.cells #[.bool true,.int .u32 0,.int .i64 (-1),.int .i64 0,.int .i64 0] PS) I;have HS:=aT (hS.keep J Y);have HM:=aT (Y.al (.cells #[.bool true,.int .u32 0,.int .i64 (-1),.int .i64 0,.int .i64 0] PS));have HF:=aT J;have HN:=aT (Z8.new w PS #[.bool true,.int .u32 0,.int .i64 (-1),.int .i64 0,.int .i64 0]);have D:LO<=(w.alloc (.cells #[.bool true,.int .u32 0,.int .i64 (-1),.int .i64 0,.int .i64 0] PS)).heap.size:=by rw[ai];omega
 have Z:g.l.length+1<=1000000:=by
  have h:=hG.1;have e:(g.put [ins 0x05 0 ow 0]).l.length=g.l.length+1:=by show(g.l++_).length=_;rw[ay];rfl
  omega
 clear hS Y J C A hG;go_enter func175,ntmps175;go_upto_region 6 with fail;generalize w.alloc (.cells #[.bool true,.int .u32 0,.int .i64 (-1),.int .i64 0,.int .i64 0] PS)=w1 at*;generalize w.heap.size=BN at*;clear n0 n1 n2 n3 n4 t0;obtain⟨z0,_,z2⟩:=HN.q3;have m0:=cell1 HS.hm;have o0:=cell1 HS.ho
 go_wp2_with (refine Great.wpList_buildSliceTo rfl 79 Wm 1 _ rfl _ rfl _ rfl underlying79 #[.int .i64 0,.int .u16 5,.int .u32 0,.int .i64 ow,.int .i64 0] jK ?_)
 refine(Y0 (xs:=[ins 0x05 0 ow 0]) w1 HM rfl rfl Z D).mono ?_;rintro e w2 ⟨rfl,v2,h2,f2⟩;have U:=aT h2;have T:=aT (HF.trans f2);clear h2 f2 z0 z2 m0 o0;go_wp2_with fail;go_end0;exact⟨rfl,v2,U,T⟩
theorem tu(ms:List Nat)(a:Nat):Vm [] ms a=[]:=rfl
theorem LP {B e n c:Nat}{a:Option Addr} (h:W.ownsRow B e s (.slice a n c) n xs):n<=c/\c<=9223372036854775807:=by
 rcases h.2 with⟨e1,e2⟩|⟨g,cap,A,e1,_,_,e4,e5,_⟩
 ·cases e1;omega
 ·cases e1;exact⟨e4,aO e5 jD⟩
theorem Ze {B C e n:Nat}{v:Value} (h:W.ownsRow B e s v n xs)(I:C<=B):W.ownsRow C e s v n xs:=by
 refine⟨h.1,?_⟩;rcases h.2 with D|⟨g,cap,A,e1,e2,e3⟩;·exact .inl D
 ·exact .inr ⟨g,cap,A,e1,aO I e2,e3⟩
theorem ZF {B e size n:Nat}{v:Value} (h:W.ownsRow B e size v n xs)(hb:Below W.heap.size W W'):W'.ownsRow B e size v n xs:=by
 refine⟨h.1,?_⟩;rcases h.2 with D|⟨g,cap,A,hv,I,C,rest⟩;·exact .inl D
 ·exact .inr ⟨g,cap,A,hv,I,(hb.block g (aab.1 C).1).trans C,rest⟩
theorem Zl.Zs {w':World}{v:Value}{g:G}(h:Zl LO M Bm w v g)(hb:Below w.heap.size w w'):Zl LO M Bm w' v g:=by
 refine⟨h.blk.below hb h.blk.lt,ZF h.own hb,?_,h.lo⟩;obtain⟨es,C,A,D⟩:=h.map;exact⟨es,C,(hb.block Bm (aab.1 A).1).trans A,D⟩
theorem La{N L c:Nat}{v:Value}{g:G} {l:List Nat}(hL:l.length=L)(XA:L<=4096)(hr:l.Pairwise (λa b=>a<b))(hms:ms.length=L)(w:World)(h:Zl LO M Bm w v g)(hN:T7 N w ad l)(hc:L<=c)(hcm:c<=9223372036854775807)(hNs:N<=w.heap.size)
 (hS:w.ownsRow LO 3 1 sv ms.length (UT ms)) (hG:GB (ZI ow (Vm l ms 0) g)) (PU:LO<=w.heap.size):
 Calls prog 105 #[.pointer (some ⟨M,0,none⟩),.slice ad L c,sv,.int .i64 ow] w λe w'=>e=.returned (.tuple #[])/\∃v',Zl LO M Bm w' v' (ZI ow (Vm l ms 0) g)/\Yh LO M Bm w w':=by
 obtain⟨A,hA⟩:∃A:Obj,A=.cells #[.pointer (some ⟨M,0,none⟩)] 132:=⟨_,rfl⟩;obtain⟨B,hB⟩:∃B:Obj,B=.cells #[sv] 94:=⟨_,rfl⟩;obtain⟨C,hC⟩:∃C:Obj,C=.cells #[.int .i64 ow] 3:=⟨_,rfl⟩;have b3:Below w.heap.size w (((w.alloc A).alloc B).alloc C):=((((aG w.heap.size w).alloc (aP _) A).alloc (by rw[ai];omega) B).alloc (by rw[ai,ai];omega) C);have EE:Hid (Z8 (((w.alloc A).alloc B).alloc C) w.heap.size 132 #[.pointer (some ⟨M,0,none⟩)]):=by subst hA;exact((Z8.new w _ _).alloc B).alloc C
 have lY:Hid (Z8 (((w.alloc A).alloc B).alloc C) (w.heap.size+1) 94 #[sv]):=by subst hB;have:=(Z8.new (w.alloc A) 94 #[sv]).alloc C;rwa [ai] at this
 have HBC:Hid (Z8 (((w.alloc A).alloc B).alloc C) (w.heap.size+1+1) 3 #[.int .i64 ow]):=by subst hC;have:=Z8.new ((w.alloc A).alloc B) 3 #[.int .i64 ow];rwa [ai,ai] at this
 have J:LO<=(((w.alloc A).alloc B).alloc C).heap.size:=aO PU b3.size;have hN3:N<=(((w.alloc A).alloc B).alloc C).heap.size:=aO hNs b3.size;have zy:=aT (Yh.below (LO:=LO) (M:=M) (Bm:=Bm) b3 PU);have CA:=aT (h.Zs b3);have nw:=aT (ZF hS b3);have HN3:=aT (hN.below b3 hNs);obtain⟨ML,ny⟩:∃n,ms.length=n:=⟨_,rfl⟩;have HEQ:=aT hms;rw[ny] at nw;have HL:=aT hL;have HR:=aT hr;have HG:=aT hG;have HML:=aT ny;subst hA hB hC;obtain⟨sa,sc,rfl⟩:=ZK hS;rw[ny] at lY nw CA HN3 EE HBC zy J hN3 b3 ⊢;clear hS h hN hL hr hG hms ny b3 hNs PU;go_enter func105,ntmps105;go_upto_region 1 with fail;generalize ((w.alloc (.cells #[.pointer (some ⟨M,0,none⟩)] 132)).alloc (.cells #[.slice sa ML sc] 94)).alloc (.cells #[.int .i64 ow] 3)=w3 at*;generalize w.heap.size+1+1=oB at*;generalize w.heap.size+1=sB at*;generalize w.heap.size=mB at*
 go_wp2_with (first|(go_at_call 174;refine(Cz l L HL XA HR ad c w3 HN3 hc hcm hN3).mono ?_;rintro e D ⟨tv,t,rfl,Y,T,im,U⟩;obtain⟨ta,tc,rfl⟩:=ZK Y))
 have dQ:LO<=D.heap.size:=aO J T.size;obtain⟨Z,hA1⟩:∃A:Obj,A=.cells #[.slice ta t.length tc] 290:=⟨_,rfl⟩;obtain⟨A2,zv⟩:∃A:Obj,A=.cells #[.func (.func 175) #[] #[.pointer (some ⟨D.heap.size,0,none⟩),.pointer (some ⟨mB,0,none⟩),.pointer (some ⟨oB,0,none⟩),.pointer (some ⟨sB,0,none⟩),.pointer (some ⟨D.heap.size+1,0,none⟩)]] 151:=⟨_,rfl⟩;have b5:Below D.heap.size D ((D.alloc Z).alloc A2):=((aG D.heap.size D).alloc (aP _) Z).alloc (by rw[ai];omega) A2;have HT5:Hid (Z8 ((D.alloc Z).alloc A2) D.heap.size 290 #[.slice ta t.length tc]):=by subst hA1;exact(Z8.new D _ _).alloc A2
 have HW5:Hid (Z8 ((D.alloc Z).alloc A2) (D.heap.size+1) 151 #[.func (.func 175) #[] #[.pointer (some ⟨D.heap.size,0,none⟩),.pointer (some ⟨mB,0,none⟩),.pointer (some ⟨oB,0,none⟩),.pointer (some ⟨sB,0,none⟩),.pointer (some ⟨D.heap.size+1,0,none⟩)]]):=by subst zv;have:=Z8.new (D.alloc Z) 151 #[.func (.func 175) #[] #[.pointer (some ⟨D.heap.size,0,none⟩),.pointer (some ⟨mB,0,none⟩),.pointer (some ⟨oB,0,none⟩),.pointer (some ⟨sB,0,none⟩),.pointer (some ⟨D.heap.size+1,0,none⟩)]];rwa [ai] at this
 have I:Below w3.heap.size w3 ((D.alloc Z).alloc A2):=T.trans (b5.mono T.size);have OO:LO<=((D.alloc Z).alloc A2).heap.size:=aO J I.size
 have hS5:xL LO ((D.alloc Z).alloc A2) M ow D.heap.size mB oB sB (D.heap.size+1) (.slice ta t.length tc) (.slice sa ML sc) t ms:=
  ⟨HT5,EE.below I EE.lt,HBC.below I HBC.lt,lY.below I lY.lt,HW5,ZF (Ze Y J) b5,by rw[HML.out];exact ZF nw I⟩
 have hM5:=CA.Zs I;have uy:=aT (zy.trans (Yh.below (LO:=LO) (M:=M) (Bm:=Bm) I J));have hml:ms.length<=9000:=by rw[HEQ.out];omega
 have HC:Hid (Calls prog 175 #[.int .i64 ((t.length:Int)-1),.pointer (some ⟨D.heap.size,0,none⟩),.pointer (some ⟨mB,0,none⟩),.pointer (some ⟨oB,0,none⟩),.pointer (some ⟨sB,0,none⟩),.pointer (some ⟨D.heap.size+1,0,none⟩)] ((D.alloc Z).alloc A2)
  λe w'=>e=.returned (.tuple #[])/\∃v',Zl LO M Bm w' v' (ZI ow (Vm l ms 0) g)/\Yh LO M Bm ((D.alloc Z).alloc A2) w'):=by
  have hG:=HG.out;rcases U with⟨hl,ht⟩|⟨h0,hT⟩
  ·subst hl;rw[tu,XE] at hG ⊢;rw[ht] at hS5 ⊢;exact tz g v _ hS5 hM5 hG OO
  ·have h1:1<=t.length:=by
    cases hT with
    |leaf h=>have:=(aq.1 h).1;omega
    |node _ h _ _=>have:=(aq.1 h).1;omega
   rw[show(t.length:Int)-1=((t.length-1:Nat):Int) from jO];exact tA im hml hT g v _ (by rw[HL.out,HEQ.out];omega) hS5 hM5 hG OO
 subst hA1 zv;refine HC.mono ?_;rintro e w6 ⟨rfl,v6,h6,f6⟩;have HM6:=aT h6;have lZ:=aT (uy.trans f6);clear h6 f6 hS5 hM5 Y T U HC uy HT5 HW5 b5 I;go_wp2_with fail;go_end0;exact⟨rfl,v6,HM6,lZ⟩
theorem zu:(prog.info? 53).map (λi=>(i.zero,i.size,i.bytes))=some (some (.int .u32 0),1,4):=jK
theorem zt:(prog.info? 3).map (λi=>(i.zero,i.size,i.bytes))=some (some (.int .i64 0),1,8):=jK
theorem Yb{P:Program}(w:World){o:Oper}{a:Act}{K:Act->World->Prop}{Q:Exit->Act->World->Prop}(s x:Operand)(t:TypeId)
 (ho:o.op=.call {callee:=.builtin .append,args:=#[s,x],argTypes:=#[t,t]})
 (base:Nat) (e:TypeId) (i:TypeInfo) (z:Value) (size bytes:Nat) (ht:P.underlying t=some (.slice e)) (hi:P.info? e=some i) (hz:i.zero=some z)
 (C:i.size=size) (U:i.bytes=bytes) (Z:z.cells.size=size) (Y:0<size)
 (v:Value) (n:Nat) (xs:List Value) (hs:a.eval s=v) (J:w.ownsRow base e size v n xs)
 (ad:Addr) (m c:Nat) (news:List Value) (hx:a.eval x=.slice (some ad) m c) (hl:news.length=m*size) (D:∀j u,news[j]? =some u->w.cell? (ad.add j)=some u) (h1:∀u∈news,u.oneCell'=true)
 (T:n+m<=maxLen) (A:(n+m)*bytes<=140737488355328) (I:base<=w.heap.size)
 (h:∀v' w',w'.ownsRow base e size v' (n+m) (xs++news)->w.grownBy w' v.ownBlock->K (a.put o.dst v') w'):Oper.wp P o a w K Q:=by
 obtain⟨v',w',hr,h2,h3,_,_⟩:=run_append_own (P:=P) w base t o.type e i z size bytes ht hi hz C U Z Y v n xs J ad m c news hl D h1 T A I;unfold Oper.wp execOp;simp only[ho,resolve,invoke,builtin,Sem.run_bind,Sem.run_pure,awd,List.map_toArray,aed,ard,hs,hx,hr];exact h v' w' h2 h3
theorem Zg {B e n:Nat}{u:Value} (hu:W.ownsRow B e s u n xs)(A:W.grownBy W' u.ownBlock){k:Nat}{cs:Array Value}(hk:Z8 W k t cs)(ht:e≠t):Z8 W' k t cs:=
 hk.kept A (λe2=>YU hu hk ht e2.symm)
theorem Xs {B e n e2 s2 n2:Nat}{u u2:Value}{xs2:List Value}(hu:W.ownsRow B e s u n xs)(D:W.grownBy W' u.ownBlock)(C:W.ownsRow B2 e2 s2 u2 n2 xs2)(ht:e≠e2):W'.ownsRow B2 e2 s2 u2 n2 xs2:=by
 refine C.kept D ?_;rcases C.2 with⟨rfl,_⟩|⟨k,cap,A,rfl,_,hk,_⟩;·exact .inl rfl
 ·exact .inr (λe3=>YU hu (show Z8 W k e2 A from hk) ht e3.symm)
theorem OL{v:Value}{g:G}{B e n:Nat}{u:Value} (A:Zl LO M Bm W v g)(hu:W.ownsRow B e s u n xs)(C:W.grownBy W' u.ownBlock)(I:e≠FZ)(D:e≠Wm):Zl LO M Bm W' v g:=by
 refine⟨Zg hu C A.blk I,Xs hu C A.own D,A.map.kept C (λe2=> ?_),A.lo⟩;rcases hu.2 with⟨rfl,_⟩|⟨k,cap,J,rfl,_,hk,_⟩
 ·cases e2
 ·have e3:Bm=k:=au e2;subst e3;obtain⟨es,T,hb,_⟩:=A.map;have:=hb.symm.trans hk;injection this with this;cases this
theorem OJ{B e n:Nat}{u:Value} (hF:Yh LO M Bm w W)(hu:W.ownsRow B e s u n xs)(D:W.grownBy W' u.ownBlock)(T:w.heap.size<=B)(C:LO<=w.heap.size):Yh LO M Bm w W':=by
 have hb:∀k,u.ownBlock=some k->B<=k:=λk e=>(hu.lt k e).1
 refine⟨hF.1.grown D (aO C hF.2.1) (λk e=>aO C (aO T (hb k e))),aO hF.2.1 D.size,λk o hk J I U=> ?_⟩;have A:=hF.2.2 k o hk J I U;refine(D.block k (aab.1 A).1 (λe=> ?_)).trans A;have:=hb k e.symm;have:=(aab.1 hk).1;omega
theorem Yg(W:World)(B e s:Nat):W.ownsRow B e s (.slice none 0 0) 0 []:=⟨jS,.inl ⟨rfl,rfl⟩⟩
end Go.Proofs.YtclgigmgbebhgaaGreatDoor
namespace Go.Proofs.YtclgigmgbebhgaaGreatDoor
open Tryz
open Go Go.Proofs Go.RowKit Go.Maps Go.WideMaps Go.ChangeMaps
theorem xJ{g:G}(h:Wl g){d c:Nat}(hd:look g.b d≠0):look (g.goes c).b d=look g.b d:=by
 unfold G.goes;split;·rename_i A;show look (g.b++[(c,g.n+1)]) d=_;rw[RZ _ _ _ _ A (λp hp=>(h.FY p hp).2),aN (λe=>hd (by rw[<-e];exact A))]
 ·rfl
theorem xI{g:G}(h:Wl g)(c:Nat):look (g.goes c).b c≠0:=by
 unfold G.goes;split;·rename_i A;show look (g.b++[(c,g.n+1)]) c≠0;rw[RZ _ _ _ _ A (λp hp=>(h.FY p hp).2),aH rfl];exact aqf _
 ·assumption
theorem RS:∀(a b:List (Nat×Nat)) (g:G),Zy (a++b) g=Zy b (Zy a g)
 |[],_,_=>rfl
 |p::a,b,g=>RS a b (g.goes p.2)
theorem OI{l:List (Nat×Nat)}{i:Nat}{p:Nat×Nat}(h:l[i]? =some p)(g:G):Zy (l.take (i+1)) g=(Zy (l.take i) g).goes p.2:=by
 rw[afb,h,RS];rfl
def VG(l:List Nat):List Value:=l.flatMap λn:Nat=>[Value.int .u32 n]
theorem Jg(a b:List Nat):VG (a++b)=VG a++VG b:=by unfold VG;rw[aca]
theorem Jf(a b:List Nat):UT (a++b)=UT a++UT b:=by unfold UT;rw[aca]
theorem Je{W:World}{B n c:Nat}{ad:Option Addr}{l:List Nat}(hn:l.length=n)(h:W.ownsRow B 53 1 (.slice ad n c) n (VG l)):T7 W.heap.size W ad l:=λk x hk=>by
 obtain⟨g,e,_,hc⟩:=Ye (λn:Nat=>[Value.int .u32 n]) 1 (λ_=>rfl) hn h hk;have A:=hc 0 jD;simp only[aqc,aec,aL] at A;exact⟨g,0,e,afg _ _ A,by rw[adf];exact A⟩
structure dP(LO M Bm:Nat)(w0 W:World)(v:Value)(g:G)(i:Nat)(va:Value)(xs:List Nat)(vb:Value)(ys:List Nat):Prop where
 Xj:Zl LO M Bm W v g
 fr:Yh LO M Bm w0 W
 rn:W.ownsRow w0.heap.size 53 1 va i (VG xs)
 rm:W.ownsRow w0.heap.size 3 1 vb i (UT ys)
section
variable {LO M Bm:Nat} {w0 W:World} {v:Value} {g:G} {i:Nat} {va:Value} {xs:List Nat} {vb:Value} {ys:List Nat}
theorem Yh.GV(h:Yh LO M Bm w0 W)(A:LO<=w0.heap.size)(o:Obj):Yh LO M Bm w0 (W.alloc o):=h.trans (Yh.alloc o (aO A h.2.1))
end
structure Yp(LO M Bm B1 k code:Nat)(w0 W:World)(v:Value)(g:G)(na:Nat)(va:Value)(xs:List Value)(nb:Nat)(vb:Value)(ys:List Value)(pa:Option Nat)(pb:Option (Nat×Value)):Prop where
 Xj:Zl LO M Bm W v g
 fr:Yh LO M Bm w0 W
 rn:W.ownsRow w0.heap.size 53 1 va na xs
 rm:W.ownsRow w0.heap.size 3 1 vb nb ys
 bx:Z8 W B1 123 #[.int .u32 k,.int .u32 code]
 ta:∀b,pa=some b->Z8 W b 53 #[.int .u32 k]
 tb:∀b u,pb=some (b,u)->Z8 W b 3 #[u]/\u.oneCell'=true
 lo:LO<=w0.heap.size
section
variable {LO M Bm B1 k code:Nat} {w0 W:World} {v:Value} {g:G} {na:Nat} {va:Value} {xs:List Value} {nb:Nat} {vb:Value} {ys:List Value} {pa:Option Nat} {pb:Option (Nat×Value)}
theorem Yp.S(h:Yp LO M Bm B1 k code w0 W v g na va xs nb vb ys pa pb):W.cell? ⟨B1,0,none⟩=some (.int .u32 k)/\W.cell? ⟨B1,1,none⟩=some (.int .u32 code):=⟨by simpa using h.bx.cell 0,by simpa using h.bx.cell 1⟩
theorem Yp.drew(h:Yp LO M Bm B1 k code w0 W v g na va xs nb vb ys pa pb):Yp LO M Bm B1 k code w0 W.drew v g na va xs nb vb ys pa pb:=⟨h.Xj.drew,h.fr.drew,h.rn.drew,h.rm.drew,h.bx,h.ta,h.tb,h.lo⟩
theorem Yp.Wc(h:Yp LO M Bm B1 k code w0 W v g na va xs nb vb ys none pb):Yp LO M Bm B1 k code w0 (W.alloc (.cells #[.int .u32 k] 53)) v g na va xs nb vb ys (some W.heap.size) pb:=
 ⟨h.Xj.al _,h.fr.GV h.lo _,h.rn.alloc _,h.rm.alloc _,h.bx.alloc _,λb e=>(by cases e;exact Z8.new W _ _),λb u e=>⟨(h.tb b u e).1.alloc _,(h.tb b u e).2⟩,h.lo⟩
theorem Yp.Xm{u:Int}(h:Yp LO M Bm B1 k code w0 W v g na va xs nb vb ys pa none):Yp LO M Bm B1 k code w0 (W.alloc (.cells #[.int .i64 u] 3)) v g na va xs nb vb ys pa (some (W.heap.size,.int .i64 u)):=
 ⟨h.Xj.al _,h.fr.GV h.lo _,h.rn.alloc _,h.rm.alloc _,h.bx.alloc _,λb e=>(h.ta b e).alloc _,λb u e=>(by cases e;exact⟨Z8.new W _ _,rfl⟩),h.lo⟩
theorem Yp.goes(h:Yp LO M Bm B1 k code w0 W v g na va xs nb vb ys pa pb)(C:Wl g)(hc:code<4294967296)(hn:(g.goes code).n<=1000000):
 Calls prog 50 #[.pointer (some ⟨M,0,none⟩),.int .u32 code] W λe w'=>e=.returned (.int .i64 ((look (g.goes code).b code:Nat):Int))/\Yp LO M Bm B1 k code w0 w' v (g.goes code) na va xs nb vb ys pa pb:=by
 refine(Ud W h.Xj C hc hn (aO h.lo h.fr.2.1)).mono ?_;rintro e w' ⟨rfl,D,A⟩;exact⟨rfl,D,h.fr.trans A,A.T4 h.Xj h.rn jD jD,A.T4 h.Xj h.rm jD jD,A.Yz h.Xj h.bx jD jD,λb e=>A.Yz h.Xj (h.ta b e) jD jD,λb u e=>⟨A.Yz h.Xj (h.tb b u e).1 jD jD,(h.tb b u e).2⟩,h.lo⟩
theorem Yp.Zp{ops:Array Oper}{o:Oper}{a:Act}{K:Act->World->Prop}{Q:Exit->Act->World->Prop}{E:Prop}{b:Nat}(h:Yp LO M Bm B1 k code w0 W v g na va xs nb vb ys (some b) pb)(D:o.guard=none)(s x:Operand)
 (ho:o.op=.call {callee:=.builtin .append,args:=#[s,x],argTypes:=#[100,100]}) (hs:a.eval s=va) (hx:a.eval x=.slice (some ⟨b,0,none⟩) 1 1) (U:na<=4096)
 (Y:∀gb cap w',Yp LO M Bm B1 k code w0 w' v g (na+1) (.slice (some ⟨gb,0,none⟩) (na+1) cap) (xs++[.int .u32 k]) nb vb ys none pb->K (a.put o.dst (.slice (some ⟨gb,0,none⟩) (na+1) cap)) w'):
 if Region.wanted o (yielded ops a.tmps)=true then Oper.wp prog o a W K Q else E:=by
 obtain⟨Z,hi,J,I,T⟩:=ZQ zu;refine step_append_lies W D s x 100 ho w0.heap.size 53 Z (.int .u32 0) 1 4 underlying100 hi J I T rfl jD va na xs hs h.rn ⟨b,0,none⟩ 1 1 [.int .u32 k] hx rfl ?_ ?_ jD (by unfold maxLen;omega) jO h.fr.2.1 _ rfl ?_;·exact World.news_of_block (h.ta b rfl)
 ·intro u hu;rw[aaa.1 hu];rfl
 ·intro gb cap w' A C _ _;exact Y gb cap w' ⟨OL h.Xj h.rn C jD jD,OJ h.fr h.rn C (aP _) h.lo,A,Xs h.rn C h.rm jD,Zg h.rn C h.bx jD,λb e=>(by cases e),λb u e=>⟨Zg h.rn C (h.tb b u e).1 jD,(h.tb b u e).2⟩,h.lo⟩
theorem Yp.ae5{ops:Array Oper}{o:Oper}{a:Act}{K:Act->World->Prop}{Q:Exit->Act->World->Prop}{E:Prop}{b:Nat}{u:Value}(h:Yp LO M Bm B1 k code w0 W v g na va xs nb vb ys pa (some (b,u)))(D:o.guard=none)(s x:Operand)
 (ho:o.op=.call {callee:=.builtin .append,args:=#[s,x],argTypes:=#[94,94]}) (hs:a.eval s=vb) (hx:a.eval x=.slice (some ⟨b,0,none⟩) 1 1) (U:nb<=4096)
 (Y:∀gb cap w',Yp LO M Bm B1 k code w0 w' v g na va xs (nb+1) (.slice (some ⟨gb,0,none⟩) (nb+1) cap) (ys++[u]) pa none->K (a.put o.dst (.slice (some ⟨gb,0,none⟩) (nb+1) cap)) w'):
 if Region.wanted o (yielded ops a.tmps)=true then Oper.wp prog o a W K Q else E:=by
 obtain⟨Z,hi,J,I,T⟩:=ZQ zt;refine step_append_lies W D s x 94 ho w0.heap.size 3 Z (.int .i64 0) 1 8 underlying94 hi J I T rfl jD vb nb ys hs h.rm ⟨b,0,none⟩ 1 1 [u] hx rfl ?_ ?_ jD (by unfold maxLen;omega) jO h.fr.2.1 _ rfl ?_;·exact World.news_of_block (h.tb b u rfl).1
 ·intro x hu;rw[aaa.1 hu];exact(h.tb b u rfl).2
 ·intro gb cap w' A C _ _;exact Y gb cap w' ⟨OL h.Xj h.rm C jD jD,OJ h.fr h.rm C (aP _) h.lo,Xs h.rm C h.rn jD,A,Zg h.rm C h.bx jD,λb e=>Zg h.rm C (h.ta b e) jD,λb u e=>(by cases e),h.lo⟩
end
theorem xH{l:List (Nat×Nat)}{ys:List Nat}{f:Nat->Nat}(hl:ys.length=l.length)(h:∀(j:Nat) (q:Nat×Nat) (y:Nat),l[j]? =some q->ys[j]? =some y->f q.2=y):Vm (l.map (·.1)) ys 0=l.map λp=>(p.1,f p.2):=by
 unfold Vm;rw[aud];apply agb;intro j;rw[ada];cases A:l[j]? with
 |none=>
  rw[ahg];·rfl
  ·rw[List.length_zip,aac,hl,Nat.min_self];exact List.getElem?_eq_none_iff.1 A
 |some q=>
  have C:=(aq.1 A).1;obtain⟨y,hy⟩:∃y,ys[j]? =some y:=⟨_,aM jO⟩;have e:(List.zip (l.map (·.1)) ys)[j]? =some (q.1,y):=List.getElem?_zip_eq_some.2 ⟨by rw[ada,A];rfl,hy⟩;rw[e];show some (q.1,y)=some (q.1,f q.2);rw[h j q y A hy]
theorem ED{LO M Bm N ow:Nat}{v va:Value}{g:G}(l:List (Nat×Nat))(XA:l.length<=4000)(hr:l.Pairwise (λa b=>a.1<b.1))(dN:∀p∈l,p.2<4294967296)(w:World)(h:Zl LO M Bm w v g)(hg:Wl g)(hG:GB (WQ ow l g))(hm:VI N w va l)(hN:N<=LO)(J:LO<=w.heap.size):
 Calls prog 170 #[.pointer (some ⟨M,0,none⟩),va,.int .i64 ow] w λe w'=>e=.returned (.tuple #[])/\∃v',Zl LO M Bm w' v' (WQ ow l g)/\Yh LO M Bm w w'/\Wl (WQ ow l g):=by
 have CU:=hm;obtain⟨aa,ac,rfl,hzz⟩:=CU;clear hzz;obtain⟨L,hL⟩:=jX l.length;rw[hL] at XA ⊢;obtain⟨g1,Z⟩:=jX (g.put [ins 0x20 16 0 0]);obtain⟨gE,D⟩:=jX (Zy l g1);have hsg:WQ ow l g=ZI ow (l.map λp=>(p.1,look gE.b p.2)) gE:=by unfold WQ;rw[Z,D]
 have dM:Wl g1:=by rw[<-Z];exact hg.put _
 have tq:Wl (WQ ow l g):=by rw[hsg,<-D];exact UU ow _ _ _ (aP _) (M0 l _ dM dN)
 have dL:GB gE:=by rw[hsg] at hG;exact hG.back (W6 ow _ _ _ (aP _))
 have hb1:GB g1:=by rw[<-D] at dL;exact dL.back (TH l g1)
 have JU:g.l.length+1<=1000000:=by
  have h1:=hb1.1;rw[<-Z] at h1;have e:(g.put [ins 0x20 16 0 0]).l.length=g.l.length+1:=by show(g.l++_).length=_;rw[ay];rfl
  omega
 have HL:=aT hL;have HM:=aT hm;have HR:=aT hr;have HCD:=aT dN;have HG:=aT hG;have HG1:=aT Z;have ig:=aT D;have HSG:=aT hsg;have HBE:=aT dL;have HH:=aT h;have nC:=aT dM;have dK:=aT tq;clear hL hm hr dN hG Z D hsg dL hb1 h hg dM tq;go_enter func170,ntmps170;go_wp2_with fail;refine(zA 0 jD w).mono ?_;rintro e w1 ⟨rfl,rfl⟩
 go_wp2_with (refine Great.wpList_buildSliceTo rfl 79 Wm 1 _ rfl _ rfl _ rfl underlying79 #[.int .i64 0,.int .u16 32,.int .u32 16,.int .i64 0,.int .i64 0] jK ?_)
 refine(Y0 (xs:=[ins 0x20 16 0 0]) w1 HH.out rfl rfl JU J).mono ?_;rintro e w2 ⟨rfl,v2,h2,f2⟩;rw[HG1.out] at h2;have L8:=aT h2;have Lj:=aT f2;clear h2 f2 HH;go_upto_region 5 with fail;go_loopg [8,9,24] (L+1) (λgg vn vm iv wr=>∃(i:Nat) (v':Value) (g':G) (ys:List Nat),i<=L/\L-i<gg/\iv=.int .i64 (i:Int)/\Hid (dP LO M Bm w1 wr v' g' i vn ((l.take i).map (·.1)) vm ys)/\Hid (Wl g')/\Hid (g'=Zy (l.take i) g1)/\Hid (ys.length=i/\∀(j:Nat) (q:Nat×Nat) (y:Nat),l[j]? =some q->ys[j]? =some y->look g'.b q.2=y/\y≠0));case atStart=>exact⟨0,v2,g1,[],abb _,jO,rfl,⟨L8.out,Lj.out,Yg _ _ _ _,Yg _ _ _ _⟩,nC,rfl,rfl,λj q y _ h=>by simp at h⟩
 case round=>
  obtain⟨i,v',g',ys,tM,VM,rfl,A,I,lX,HYS⟩:=hrel;have i0:=jZ i;by_cases hlt:i<L
  ·have Zc:(i:Int)<(L:Int):=by omega
   obtain⟨p,hp⟩:∃p,l[i]? =some p:=⟨_,aM (by rw[HL.out];exact hlt)⟩;obtain⟨a2,c2,e2,hrow⟩:=HM.out;injection e2 with e3 _ e4;subst e3 e4;obtain⟨gb,off,rfl,Va,e0,e1⟩:=hrow i p hp;have y0:=ZZ A.out.fr.1 hN Va e0;have y1:=ZZ A.out.fr.1 hN Va e1;obtain⟨k,code⟩:=p;have C:=HCD.out _ (ag hp);dsimp only at C y0 y1;have CD:LO<=wr.heap.size:=aO J A.out.fr.2.1;have HP:=aT hp;clear hrow e0 e1 hp;obtain⟨na,nc,rfl⟩:=ZK A.out.rn;obtain⟨ma,mc,rfl⟩:=ZK A.out.rm;have hnn:(g'.goes code).n<=1000000:=by
    have h1:=HBE.out;have e1:Zy (l.drop (i+1)) (g'.goes code)=gE:=by rw[lX.out,<-OI HP.out,<-RS,aoc,ig.out]
    rw[<-e1] at h1;exact aO (h1.back (TH _ _)).2 jD
   have hBx:=Z8.new wr 123 #[.int .u32 k,.int .u32 code]
   have Um:Hid (Yp LO M Bm wr.heap.size k code w1 (wr.alloc (.cells #[.int .u32 k,.int .u32 code] 123)) v' g' i (.slice na i nc) (VG ((l.take i).map (·.1))) i (.slice ma i mc) (UT ys) none none):=
    ⟨A.out.Xj.al _,A.out.fr.GV J _,A.out.rn.alloc _,A.out.rm.alloc _,hBx,λb e=>(by cases e),λb u e=>(by cases e),J⟩
   clear hBx A;go_upto_region 7 with fail;clear y0 y1;generalize wr.alloc (.cells #[.int .u32 k,.int .u32 code] 123)=wa at*;generalize wr.heap.size=B1 at*;have ux:=aT Um.out.drew;have JM:=aT Um.out.Wc.drew
   go_region_held_law (λw'=>w'.cell? ⟨B1,0,none⟩=some (.int .u32 k)/\w'.cell? ⟨B1,1,none⟩=some (.int .u32 code)) (exact Yp.S (ajc (by (first|assumption|exact ux|exact JM|exact aT (Yp.Wc (ajc jA))|exact aT (Yp.Xm (ajc jA))|exact aT (Yp.Wc (Yp.Xm (ajc jA)))|exact aT (Yp.Xm (Yp.Wc (ajc jA))))))) (first
    |(refine Yp.Zp (ajc (by (first|assumption|exact ux|exact JM|exact aT (Yp.Wc (ajc jA))|exact aT (Yp.Xm (ajc jA))|exact aT (Yp.Wc (Yp.Xm (ajc jA)))|exact aT (Yp.Xm (Yp.Wc (ajc jA)))))) rfl _ _ rfl rfl rfl jO ?_;intro gb2 ae6 w8 h8;have Y:=aT h8;clear h8)
    |(refine Yp.ae5 (ajc (by (first|assumption|exact ux|exact JM|exact aT (Yp.Wc (ajc jA))|exact aT (Yp.Xm (ajc jA))|exact aT (Yp.Wc (Yp.Xm (ajc jA)))|exact aT (Yp.Xm (Yp.Wc (ajc jA)))))) rfl _ _ rfl rfl rfl jO ?_;intro gb2 ae6 w8 h8;have Y:=aT h8;clear h8)
    |(go_at_call 50;refine(Yp.goes (ajc (by (first|assumption|exact ux|exact JM|exact aT (Yp.Wc (ajc jA))|exact aT (Yp.Xm (ajc jA))|exact aT (Yp.Wc (Yp.Xm (ajc jA)))|exact aT (Yp.Xm (Yp.Wc (ajc jA)))))) I.out C hnn).mono ?_;rintro e w7 ⟨rfl,h7⟩;have L5:=aT h7;clear h7))
   have HX:Hid (VG ((l.take (i+1)).map (·.1))=VG ((l.take i).map (·.1))++[.int .u32 k]):=by show _=_;rw[afb,HP.out,adb,Jg];rfl
   have xG:Hid (UT (ys++[look (g'.goes code).b code])=UT ys++[.int .i64 ((look (g'.goes code).b code:Nat):Int)]):=Jf _ _;have dJ:Hid (g'.goes code=Zy (l.take (i+1)) g1):=by show _=_;rw[OI HP.out,<-lX.out]
   have ap1:Hid ((ys++[look (g'.goes code).b code]).length=i+1/\∀(j:Nat) (q:Nat×Nat) (y:Nat),l[j]? =some q->(ys++[look (g'.goes code).b code])[j]? =some y->look (g'.goes code).b q.2=y/\y≠0):=by
    obtain⟨h1,h2⟩:=HYS.out;refine⟨by rw[ay,h1];rfl,λj q y hq hy=> ?_⟩;by_cases hj:j<i;·rw[abc jO] at hy;obtain⟨h3,h4⟩:=h2 j q y hq hy;exact⟨by rw[xJ I.out (by rw[h3];exact h4)];exact h3,h4⟩
    ·have dI:j=i:=by
      have:=(aq.1 hy).1;rw[ay,h1] at this;simp at this;omega
     subst dI;rw[HP.out] at hq;cases hq;rw[aae jO,h1,alc] at hy;cases hy;exact⟨rfl,xI I.out code⟩
   have iw:=jW i;have JN:=aT (I.out.goes C);go_wp2_with fail;go_roundg (L-i);case measure=>omega
   case rel=>exact⟨i+1,v',g'.goes code,ys++[look (g'.goes code).b code],jO,jO,by go_num,⟨Y.out.Xj,Y.out.fr,by rw[HX.out];exact Y.out.rn,by rw[xG.out];exact Y.out.rm⟩,JN,dJ,ap1⟩
  ·obtain rfl:L=i:=by omega
   have Zc:¬(L:Int)<(L:Int):=jO;have D:g'=gE:=by rw[lX.out,abd (by rw[HL.out];exact aP _),ig.out]
   subst D;obtain⟨Vo,TF⟩:=HYS.out;have ia:=xH (l:=l) (ys:=ys) (f:=look g'.b) (by rw[HL.out];exact Vo) (λj q y h1 h2=>(TF j q y h1 h2).1);have Cy:=A.out.rn;have hrm:=Ze A.out.rm J;rw[abd (by rw[HL.out];exact aP _)] at Cy;obtain⟨na,nc,rfl⟩:=ZK Cy;obtain⟨ma,mc,rfl⟩:=ZK hrm;have dH:(l.map (·.1)).length=L:=by rw[aac,HL.out]
   have T:=LP Cy;have CD:LO<=wr.heap.size:=aO J A.out.fr.2.1;have U:=aT (La (ow:=ow) (ms:=ys) (l:=l.map (·.1)) dH jO (afa.2 HR.out) Vo wr A.out.Xj (Je dH Cy) T.1 T.2 (aP _) (by rw[Vo];exact hrm) (by rw[ia,<-HSG.out];exact HG.out) CD);have HZ:=aT ia;have HFc:=aT A.out.fr;clear Vo TF ia Cy hrm T A;go_wp2_with fail;refine U.out.mono ?_;rintro e w5 ⟨rfl,v5,h5,f5⟩;rw[HZ.out,<-HSG.out] at h5;have HM5:=aT h5;have uy:=aT (HFc.out.trans f5);clear h5 f5 U;go_wp2_with fail;go_end0;exact⟨rfl,v5,HM5.out,uy.out,dK.out⟩
end Go.Proofs.YtclgigmgbebhgaaGreatDoor
namespace Go.Proofs.YtclgigmgbebhgaaGreatDoor
open Tryz
open Go Go.Proofs Go.RowKit Go.Sort Go.Shelf
variable {α:Type} [Inhabited α]
theorem K4{enc:α->List Value}{k:Nat}(hk:∀x,(enc x).length=k)(d:Array α){t:Nat}(ht:t<d.size*k):(d.toList.flatMap enc)[t]? =some (flatK enc k d)[t]! :=by
 have A:0<k:=by
  rcases Nat.eq_zero_or_pos k with h|h;·subst h;simp at ht
  ·exact h
 have hi:t/k<d.size:=(Nat.div_lt_iff_lt_mul A).2 ht;have hm:t%k<k:=ave _ A;rw[get_flatK enc k d t ht];have hx:d.toList[t/k]? =some d[t/k]! :=by rw[aga,aob hi,azd d _ hi]
 have h:=GW enc k hk d.toList (t/k) _ hx (t%k) hm;rw[Nat.div_add_mod'] at h;rw[h];have hl:t%k<(enc d[t/k]!).length:=by rw[hk];exact hm
 rw[azd (enc d[t/k]!) _ hl,aM hl]
theorem Cx{enc:α->List Value}{k:Nat}(hk:∀x,(enc x).length=k){W:World}{base g e n cap:Nat}{l:List α}(hn:l.length=n)(h:W.ownsRow base e k (.slice (some ⟨g,0,none⟩) n cap) n (l.flatMap enc)):HoldsK enc k W g 0 l.toArray:=by
 intro j A;rw[size_flatK] at A;have C:j<n*k:=by simpa [hn] using A
 refine⟨?_,by rw[adf];exact h.frozenAt j⟩;rw[adf,h.cellAt j C];exact K4 hk l.toArray (t:=j) (by simpa using A)
theorem K3{enc:α->List Value}{k:Nat}(hk:∀x,(enc x).length=k){W:World}{base g e n cap:Nat}{xs:List Value}(h:W.ownsRow base e k (.slice (some ⟨g,0,none⟩) n cap) n xs)(m:Nat)(d':Array α)(hd:d'.size=n)(os:Array Obj):
 (sortWorldK enc k W g 0 m d' os).ownsRow base e k (.slice (some ⟨g,0,none⟩) n cap) n (d'.toList.flatMap enc)/\W.heap.size<=(sortWorldK enc k W g 0 m d' os).heap.size/\∀j o,W.heap[j]? =some o->j≠g->(sortWorldK enc k W g 0 m d' os).heap[j]? =some o:=by
 have hlen:(d'.toList.flatMap enc).length=n*k:=by
  have:∀l:List α,(l.flatMap enc).length=l.length*k:=by
   intro l
   induction l with
   |nil=>simp
   |cons x l U=>rw[acb,ay,U,hk,aj,arb];omega
  rw[this,ang,hd]
 have A:∀j,j<W.heap.size->(sortWorldK enc k W g 0 m d' os).heap[j]? =if g=j then(W.heap[j]?).map (onCells (putCells id 0 (flatK enc k d'))) else W.heap[j]? :=by intro j D;have e:(sortWorldK enc k W g 0 m d' os).heap=W.heap.modify g (onCells (putCells id 0 (flatK enc k d')))++os:=rfl;rw[e,Array.getElem?_append_left (by simpa using D),ala]
 refine⟨⟨hlen,?_⟩,size_sortWorldK_c enc k W g 0 m d' os,λj o D I=> ?_⟩
 ·rcases h.2 with⟨e1,_⟩|⟨Z,J,C,e1,e2,e3,e4,e5,T,Y⟩
  ·cases e1
  ·cases e1;refine .inr ⟨g,cap,putCells id 0 (flatK enc k d') C,rfl,e2,?_,e4,e5,by unfold putCells;rw[Array.size_mapIdx,T],?_⟩;·rw[A g (aab.1 e3).1,aH rfl,e3];rfl
   ·apply agb;intro t;rw[aif];by_cases ht:t<n*k
    ·rw[aH ht,K4 hk d' (by rw[hd];exact ht),aga]
     have hc:t<C.size:=by rw[T];exact acf ht (aub k e4)
     unfold putCells;rw[Array.getElem?_mapIdx,aob hc];simp only[avc,abb,true_and,adf,size_flatK,hd,Nat.sub_zero,id_eq];rw[aH ht]
    ·rw[aN ht,ahg (by rw[hlen];omega)]
 ·rw[A j (aab.1 D).1,aN (ana I),D]
theorem Jd{d d':Array α}(h:PermIn 0 d.size d d'):d'.toList.Perm d.toList:=by
 obtain⟨C,_,A⟩:=h;have e1:d'.extract 0 d.size=d':=by rw[<-C];simp
 have e2:d.extract 0 d.size=d:=jS;rw[e1,e2] at A;exact A
theorem EC{lt:α->α->Bool}{d:Array α}(h:SortedIn lt 0 d.size d):d.toList.Pairwise (λa b=>lt b a=false):=by
 rw[amb];intro i j hi C A;have:=h i j (abb _) A (by simpa using C);rw[azd d i (by simpa using hi),azd d j (by simpa using C)] at this;simpa using this
theorem GU{enc:α->List Value}{k:Nat}(hk:∀x,(enc x).length=k){W:World}{base g e n cap:Nat}{xs:List Value}(h:W.ownsRow base e k (.slice (some ⟨g,0,none⟩) n cap) n xs)(m:Nat)(d':Array α)(hd:d'.size=n)(os:Array Obj):RowKit.Below base W (sortWorldK enc k W g 0 m d' os):=by
 obtain⟨_,hs,hf⟩:=K3 hk h m d' hd os;refine⟨rfl,rfl,rfl,hs,λj D=> ?_⟩;rcases h.2 with⟨e1,_⟩|⟨I,A,C,e1,e2,e3,_⟩
 ·cases e1
 ·cases e1;have hl:=(aab.1 e3).1;obtain⟨o,ho⟩:∃o,W.heap[j]? =some o:=⟨_,aob jO⟩;rw[hf j o ho jO,ho]
theorem OH{P:Program}{ρ:Ren}(L:SlLaysF0.n6 P ρ)(k:Nat)(aE:∀w,(isAgg (ρ.t 24)).run P w=.ok true w)(zE:∀w,(Go.sizeOf (ρ.t 24)).run P w=.ok k w)(enc:α->List Value)(hk:∀x,(enc x).length=k)(Y:∀x,∀v∈enc x,v.oneCell'=true)(I:α->α->Int)(hO:SWO (ltOf I))(g:Nat)(cb:Array Value)
 (eg:∀args w,(callFunc g args).run P w=.ok (.enter g args) w) (C:∀x y W,Calls P g (#[.agg (enc x).toArray,.agg (enc y).toArray]++cb) W λe w'=>e=.returned (.int .i64 (I x y))/\∃q T,w'=grow (W.drewN q) T)
 {base e n:Nat} {v:Value} {d:List α} (w:World) (hn:d.length=n) (A:w.ownsRow base e k v n (d.flatMap enc)) (hsz:n<=1000000):
 Calls P (ρ.f 6) #[v,.func (.func g) #[] cb] w λU w'=>U=.returned (.tuple #[])/\∃d':List α,d'.Perm d/\d'.Pairwise (λa b=>ltOf I b a=false)/\w'.ownsRow base e k v n (d'.flatMap enc)/\RowKit.Below base w w'/\w.heap.size<=w'.heap.size/\∀j o,w.heap[j]? =some o->v.ownBlock≠some j->w'.heap[j]? =some o:=by
 rcases A.2 with⟨rfl,rfl⟩|⟨b,cap,Z,rfl,h2,h3,_⟩
 ·obtain rfl:d=[]:=alb.1 hn;refine(AnyF.slices_SortFunc_none L none 0 (.func (.func g) #[] cb) w).mono ?_;rintro U w' ⟨rfl,h⟩
  first
   |(subst h;exact⟨rfl,[],awg _,List.Pairwise.nil,A,RowKit.Below.refl _ _,aP _,λj o h _=>h⟩)
   |(obtain⟨q,rfl⟩:=h;exact⟨rfl,[],awg _,List.Pairwise.nil,A,RowKit.Below.refl _ _,aP _,λj o h _=>h⟩)
 ·have hH:=Cx hk hn A;have h:=AnyQ.slices_SortFunc L k aE zE enc hk Y I hO g cb b 0 cap d.toArray w eg (λm os dk _ x y=>C x y _) hH (aab.1 h3).1 (by simp;omega);rw[show d.toArray.size=n by simpa using hn] at h;refine h.mono ?_;rintro U w' ⟨rfl,d',m,os,hp,hs,rfl⟩;rw[<-show d.toArray.size=n by simpa using hn] at hp hs;have D:d'.size=n:=hp.1.trans (by simpa using hn);obtain⟨k1,k2,k3⟩:=K3 hk A m d' D os;refine⟨rfl,d'.toList,Jd hp,?_,k1,GU hk A m d' D os,k2,λj o hj J=>k3 j o hj (λe=>J (by rw[e];rfl))⟩;refine EC ?_;rw[hp.1];exact hs
end Go.Proofs.YtclgigmgbebhgaaGreatDoor
namespace Go.Proofs
open Tryz
open Go.Shelf
def Tryz.GS:Go.Shelf.Ren:=⟨fun|6=>172|15=>97|14=>244|28=>154|29=>155|20=>315|21=>316|22=>317|23=>318|24=>319|25=>320|26=>321|27=>322|46=>346|47=>226|48=>227|49=>347|50=>348|57=>359|n=>n,fun|22=>216|24=>219|25=>289|3=>3|39=>107|0=>0|53=>53|55=>23|4=>4|46=>271|45=>270|50=>110|5=>5|9=>9|66=>334|70=>338|76=>384|77=>385|n=>n,fun|n=>n⟩
theorem Tryz.tj:Go.Proofs.SlLaysF0.n6 prog Tryz.GS:={
 mixed:=by kernel_rfl
 f6:=⟨Tryz.f172.name,by decide,func172.trans (congrArg some (by kernel_rfl))⟩
 f14:=⟨Tryz.f244.name,by decide,func244.trans (congrArg some (by kernel_rfl))⟩
 f15:=func97.trans (congrArg some (by kernel_rfl))
 f20:=⟨Tryz.f315.name,by decide,func315.trans (congrArg some (by kernel_rfl))⟩
 f21:=⟨Tryz.f316.name,by decide,func316.trans (congrArg some (by kernel_rfl))⟩
 f22:=⟨Tryz.f317.name,by decide,func317.trans (congrArg some (by kernel_rfl))⟩
 f23:=⟨Tryz.f318.name,by decide,func318.trans (congrArg some (by kernel_rfl))⟩
 f24:=⟨Tryz.f319.name,by decide,func319.trans (congrArg some (by kernel_rfl))⟩
 f25:=⟨Tryz.f320.name,by decide,func320.trans (congrArg some (by kernel_rfl))⟩
 f26:=⟨Tryz.f321.name,by decide,func321.trans (congrArg some (by kernel_rfl))⟩
 f27:=⟨Tryz.f322.name,by decide,func322.trans (congrArg some (by kernel_rfl))⟩
 f28:=func154.trans (congrArg some (by kernel_rfl))
 f29:=func155.trans (congrArg some (by kernel_rfl))
 f46:=⟨Tryz.f346.name,by decide,func346.trans (congrArg some (by kernel_rfl))⟩
 f47:=func226.trans (congrArg some (by kernel_rfl))
 f48:=func227.trans (congrArg some (by kernel_rfl))
 f49:=⟨Tryz.f347.name,by decide,func347.trans (congrArg some (by kernel_rfl))⟩
 f50:=⟨Tryz.f348.name,by decide,func348.trans (congrArg some (by kernel_rfl))⟩
 f57:=⟨Tryz.f359.name,by decide,func359.trans (congrArg some (by kernel_rfl))⟩
 t0:=underlying0
 a0:=isAgg0
 z0:=sizeOf0
 v0:=zeroValue0
 t3:=underlying3
 a3:=isAgg3
 z3:=sizeOf3
 v3:=zeroValue3
 t4:=underlying4
 a4:=isAgg4
 z4:=sizeOf4
 v4:=zeroValue4
 t5:=underlying5
 a5:=isAgg5
 z5:=sizeOf5
 v5:=zeroValue5
 t9:=underlying9
 a9:=isAgg9
 z9:=sizeOf9
 v9:=zeroValue9
 t22:=underlying216
 a22:=isAgg216
 z22:=sizeOf216
 v22:=zeroValue216
 t25:=underlying289
 a25:=isAgg289
 z25:=sizeOf289
 v25:=zeroValue289
 t39:=underlying107
 a39:=isAgg107
 z39:=sizeOf107
 v39:=zeroValue107
 t45:=underlying270
 a45:=isAgg270
 z45:=sizeOf270
 v45:=zeroValue270
 t46:=underlying271
 a46:=isAgg271
 z46:=sizeOf271
 v46:=zeroValue271
 t50:=underlying110
 a50:=isAgg110
 z50:=sizeOf110
 v50:=zeroValue110
 t53:=underlying53
 a53:=isAgg53
 z53:=sizeOf53
 v53:=zeroValue53
 t55:=underlying23
 a55:=isAgg23
 z55:=sizeOf23
 v55:=zeroValue23
 t66:=underlying334
 a66:=isAgg334
 z66:=sizeOf334
 v66:=zeroValue334
 t70:=underlying338
 a70:=isAgg338
 z70:=sizeOf338
 v70:=zeroValue338
 t76:=underlying384
 a76:=isAgg384
 z76:=sizeOf384
 v76:=zeroValue384
 t77:=underlying385
 a77:=isAgg385
 z77:=sizeOf385
 v77:=zeroValue385}
def Tryz.JL:Go.Shelf.Ren:=⟨fun|6=>42|15=>97|14=>96|28=>154|29=>155|20=>146|21=>147|22=>148|23=>149|24=>150|25=>151|26=>152|27=>153|46=>225|47=>226|48=>227|49=>228|50=>229|57=>303|n=>n,fun|22=>73|24=>119|25=>129|3=>3|39=>107|0=>0|53=>53|55=>23|4=>4|46=>271|45=>270|50=>110|5=>5|9=>9|66=>334|70=>338|76=>384|77=>385|n=>n,fun|n=>n⟩
theorem Tryz.xE:Go.Proofs.SlLaysF0.n6 prog Tryz.JL:={
 mixed:=by kernel_rfl
 f6:=⟨Tryz.f42.name,by decide,func42.trans (congrArg some (by kernel_rfl))⟩
 f14:=⟨Tryz.f96.name,by decide,func96.trans (congrArg some (by kernel_rfl))⟩
 f15:=func97.trans (congrArg some (by kernel_rfl))
 f20:=⟨Tryz.f146.name,by decide,func146.trans (congrArg some (by kernel_rfl))⟩
 f21:=⟨Tryz.f147.name,by decide,func147.trans (congrArg some (by kernel_rfl))⟩
 f22:=⟨Tryz.f148.name,by decide,func148.trans (congrArg some (by kernel_rfl))⟩
 f23:=⟨Tryz.f149.name,by decide,func149.trans (congrArg some (by kernel_rfl))⟩
 f24:=⟨Tryz.f150.name,by decide,func150.trans (congrArg some (by kernel_rfl))⟩
 f25:=⟨Tryz.f151.name,by decide,func151.trans (congrArg some (by kernel_rfl))⟩
 f26:=⟨Tryz.f152.name,by decide,func152.trans (congrArg some (by kernel_rfl))⟩
 f27:=⟨Tryz.f153.name,by decide,func153.trans (congrArg some (by kernel_rfl))⟩
 f28:=func154.trans (congrArg some (by kernel_rfl))
 f29:=func155.trans (congrArg some (by kernel_rfl))
 f46:=⟨Tryz.f225.name,by decide,func225.trans (congrArg some (by kernel_rfl))⟩
 f47:=func226.trans (congrArg some (by kernel_rfl))
 f48:=func227.trans (congrArg some (by kernel_rfl))
 f49:=⟨Tryz.f228.name,by decide,func228.trans (congrArg some (by kernel_rfl))⟩
 f50:=⟨Tryz.f229.name,by decide,func229.trans (congrArg some (by kernel_rfl))⟩
 f57:=⟨Tryz.f303.name,by decide,func303.trans (congrArg some (by kernel_rfl))⟩
 t0:=underlying0
 a0:=isAgg0
 z0:=sizeOf0
 v0:=zeroValue0
 t3:=underlying3
 a3:=isAgg3
 z3:=sizeOf3
 v3:=zeroValue3
 t4:=underlying4
 a4:=isAgg4
 z4:=sizeOf4
 v4:=zeroValue4
 t5:=underlying5
 a5:=isAgg5
 z5:=sizeOf5
 v5:=zeroValue5
 t9:=underlying9
 a9:=isAgg9
 z9:=sizeOf9
 v9:=zeroValue9
 t22:=underlying73
 a22:=isAgg73
 z22:=sizeOf73
 v22:=zeroValue73
 t25:=underlying129
 a25:=isAgg129
 z25:=sizeOf129
 v25:=zeroValue129
 t39:=underlying107
 a39:=isAgg107
 z39:=sizeOf107
 v39:=zeroValue107
 t45:=underlying270
 a45:=isAgg270
 z45:=sizeOf270
 v45:=zeroValue270
 t46:=underlying271
 a46:=isAgg271
 z46:=sizeOf271
 v46:=zeroValue271
 t50:=underlying110
 a50:=isAgg110
 z50:=sizeOf110
 v50:=zeroValue110
 t53:=underlying53
 a53:=isAgg53
 z53:=sizeOf53
 v53:=zeroValue53
 t55:=underlying23
 a55:=isAgg23
 z55:=sizeOf23
 v55:=zeroValue23
 t66:=underlying334
 a66:=isAgg334
 z66:=sizeOf334
 v66:=zeroValue334
 t70:=underlying338
 a70:=isAgg338
 z70:=sizeOf338
 v70:=zeroValue338
 t76:=underlying384
 a76:=isAgg384
 z76:=sizeOf384
 v76:=zeroValue384
 t77:=underlying385
 a77:=isAgg385
 z77:=sizeOf385
 v77:=zeroValue385}
def Tryz.EB:Go.Shelf.Ren:=⟨fun|6=>45|15=>97|14=>99|28=>154|29=>155|20=>156|21=>157|22=>158|23=>159|24=>160|25=>161|26=>162|27=>163|46=>230|47=>226|48=>227|49=>231|50=>232|57=>304|n=>n,fun|22=>75|24=>123|25=>131|3=>3|39=>107|0=>0|53=>53|55=>23|4=>4|46=>271|45=>270|50=>110|5=>5|9=>9|66=>334|70=>338|76=>384|77=>385|n=>n,fun|n=>n⟩
theorem Tryz.lW:Go.Proofs.SlLaysF0.n6 prog Tryz.EB:={
 mixed:=by kernel_rfl
 f6:=⟨Tryz.f45.name,by decide,func45.trans (congrArg some (by kernel_rfl))⟩
 f14:=⟨Tryz.f99.name,by decide,func99.trans (congrArg some (by kernel_rfl))⟩
 f15:=func97.trans (congrArg some (by kernel_rfl))
 f20:=⟨Tryz.f156.name,by decide,func156.trans (congrArg some (by kernel_rfl))⟩
 f21:=⟨Tryz.f157.name,by decide,func157.trans (congrArg some (by kernel_rfl))⟩
 f22:=⟨Tryz.f158.name,by decide,func158.trans (congrArg some (by kernel_rfl))⟩
 f23:=⟨Tryz.f159.name,by decide,func159.trans (congrArg some (by kernel_rfl))⟩
 f24:=⟨Tryz.f160.name,by decide,func160.trans (congrArg some (by kernel_rfl))⟩
 f25:=⟨Tryz.f161.name,by decide,func161.trans (congrArg some (by kernel_rfl))⟩
 f26:=⟨Tryz.f162.name,by decide,func162.trans (congrArg some (by kernel_rfl))⟩
 f27:=⟨Tryz.f163.name,by decide,func163.trans (congrArg some (by kernel_rfl))⟩
 f28:=func154.trans (congrArg some (by kernel_rfl))
 f29:=func155.trans (congrArg some (by kernel_rfl))
 f46:=⟨Tryz.f230.name,by decide,func230.trans (congrArg some (by kernel_rfl))⟩
 f47:=func226.trans (congrArg some (by kernel_rfl))
 f48:=func227.trans (congrArg some (by kernel_rfl))
 f49:=⟨Tryz.f231.name,by decide,func231.trans (congrArg some (by kernel_rfl))⟩
 f50:=⟨Tryz.f232.name,by decide,func232.trans (congrArg some (by kernel_rfl))⟩
 f57:=⟨Tryz.f304.name,by decide,func304.trans (congrArg some (by kernel_rfl))⟩
 t0:=underlying0
 a0:=isAgg0
 z0:=sizeOf0
 v0:=zeroValue0
 t3:=underlying3
 a3:=isAgg3
 z3:=sizeOf3
 v3:=zeroValue3
 t4:=underlying4
 a4:=isAgg4
 z4:=sizeOf4
 v4:=zeroValue4
 t5:=underlying5
 a5:=isAgg5
 z5:=sizeOf5
 v5:=zeroValue5
 t9:=underlying9
 a9:=isAgg9
 z9:=sizeOf9
 v9:=zeroValue9
 t22:=underlying75
 a22:=isAgg75
 z22:=sizeOf75
 v22:=zeroValue75
 t25:=underlying131
 a25:=isAgg131
 z25:=sizeOf131
 v25:=zeroValue131
 t39:=underlying107
 a39:=isAgg107
 z39:=sizeOf107
 v39:=zeroValue107
 t45:=underlying270
 a45:=isAgg270
 z45:=sizeOf270
 v45:=zeroValue270
 t46:=underlying271
 a46:=isAgg271
 z46:=sizeOf271
 v46:=zeroValue271
 t50:=underlying110
 a50:=isAgg110
 z50:=sizeOf110
 v50:=zeroValue110
 t53:=underlying53
 a53:=isAgg53
 z53:=sizeOf53
 v53:=zeroValue53
 t55:=underlying23
 a55:=isAgg23
 z55:=sizeOf23
 v55:=zeroValue23
 t66:=underlying334
 a66:=isAgg334
 z66:=sizeOf334
 v66:=zeroValue334
 t70:=underlying338
 a70:=isAgg338
 z70:=sizeOf338
 v70:=zeroValue338
 t76:=underlying384
 a76:=isAgg384
 z76:=sizeOf384
 v76:=zeroValue384
 t77:=underlying385
 a77:=isAgg385
 z77:=sizeOf385
 v77:=zeroValue385}
def Tryz.GR:Go.Shelf.Ren:=⟨fun|6=>136|15=>97|14=>218|28=>154|29=>155|20=>292|21=>293|22=>294|23=>295|24=>296|25=>297|26=>298|27=>299|46=>341|47=>226|48=>227|49=>342|50=>343|57=>358|n=>n,fun|22=>89|24=>68|25=>263|3=>3|39=>107|0=>0|53=>53|55=>23|4=>4|46=>271|45=>270|50=>110|5=>5|9=>9|66=>334|70=>338|76=>384|77=>385|n=>n,fun|n=>n⟩
theorem Tryz.th:Go.Proofs.SlLaysF0.n6 prog Tryz.GR:={
 mixed:=by kernel_rfl
 f6:=⟨Tryz.f136.name,by decide,func136.trans (congrArg some (by kernel_rfl))⟩
 f14:=⟨Tryz.f218.name,by decide,func218.trans (congrArg some (by kernel_rfl))⟩
 f15:=func97.trans (congrArg some (by kernel_rfl))
 f20:=⟨Tryz.f292.name,by decide,func292.trans (congrArg some (by kernel_rfl))⟩
 f21:=⟨Tryz.f293.name,by decide,func293.trans (congrArg some (by kernel_rfl))⟩
 f22:=⟨Tryz.f294.name,by decide,func294.trans (congrArg some (by kernel_rfl))⟩
 f23:=⟨Tryz.f295.name,by decide,func295.trans (congrArg some (by kernel_rfl))⟩
 f24:=⟨Tryz.f296.name,by decide,func296.trans (congrArg some (by kernel_rfl))⟩
 f25:=⟨Tryz.f297.name,by decide,func297.trans (congrArg some (by kernel_rfl))⟩
 f26:=⟨Tryz.f298.name,by decide,func298.trans (congrArg some (by kernel_rfl))⟩
 f27:=⟨Tryz.f299.name,by decide,func299.trans (congrArg some (by kernel_rfl))⟩
 f28:=func154.trans (congrArg some (by kernel_rfl))
 f29:=func155.trans (congrArg some (by kernel_rfl))
 f46:=⟨Tryz.f341.name,by decide,func341.trans (congrArg some (by kernel_rfl))⟩
 f47:=func226.trans (congrArg some (by kernel_rfl))
 f48:=func227.trans (congrArg some (by kernel_rfl))
 f49:=⟨Tryz.f342.name,by decide,func342.trans (congrArg some (by kernel_rfl))⟩
 f50:=⟨Tryz.f343.name,by decide,func343.trans (congrArg some (by kernel_rfl))⟩
 f57:=⟨Tryz.f358.name,by decide,func358.trans (congrArg some (by kernel_rfl))⟩
 t0:=underlying0
 a0:=isAgg0
 z0:=sizeOf0
 v0:=zeroValue0
 t3:=underlying3
 a3:=isAgg3
 z3:=sizeOf3
 v3:=zeroValue3
 t4:=underlying4
 a4:=isAgg4
 z4:=sizeOf4
 v4:=zeroValue4
 t5:=underlying5
 a5:=isAgg5
 z5:=sizeOf5
 v5:=zeroValue5
 t9:=underlying9
 a9:=isAgg9
 z9:=sizeOf9
 v9:=zeroValue9
 t22:=underlying89
 a22:=isAgg89
 z22:=sizeOf89
 v22:=zeroValue89
 t25:=underlying263
 a25:=isAgg263
 z25:=sizeOf263
 v25:=zeroValue263
 t39:=underlying107
 a39:=isAgg107
 z39:=sizeOf107
 v39:=zeroValue107
 t45:=underlying270
 a45:=isAgg270
 z45:=sizeOf270
 v45:=zeroValue270
 t46:=underlying271
 a46:=isAgg271
 z46:=sizeOf271
 v46:=zeroValue271
 t50:=underlying110
 a50:=isAgg110
 z50:=sizeOf110
 v50:=zeroValue110
 t53:=underlying53
 a53:=isAgg53
 z53:=sizeOf53
 v53:=zeroValue53
 t55:=underlying23
 a55:=isAgg23
 z55:=sizeOf23
 v55:=zeroValue23
 t66:=underlying334
 a66:=isAgg334
 z66:=sizeOf334
 v66:=zeroValue334
 t70:=underlying338
 a70:=isAgg338
 z70:=sizeOf338
 v70:=zeroValue338
 t76:=underlying384
 a76:=isAgg384
 z76:=sizeOf384
 v76:=zeroValue384
 t77:=underlying385
 a77:=isAgg385
 z77:=sizeOf385
 v77:=zeroValue385}
def Tryz.MZ:Go.Shelf.Ren:=⟨fun|7=>52|10=>103|n=>n,fun|23=>140|26=>3|3=>3|28=>149|0=>0|27=>148|33=>215|4=>4|n=>n,fun|n=>n⟩
theorem Tryz.zr:Go.Proofs.SlLaysZI.n7 prog Tryz.MZ:={
 mixed:=by kernel_rfl
 f7:=⟨Tryz.f52.name,by decide,func52.trans (congrArg some (by kernel_rfl))⟩
 f10:=⟨Tryz.f103.name,by decide,func103.trans (congrArg some (by kernel_rfl))⟩
 t0:=underlying0
 a0:=isAgg0
 z0:=sizeOf0
 v0:=zeroValue0
 t4:=underlying4
 a4:=isAgg4
 z4:=sizeOf4
 v4:=zeroValue4
 t23:=underlying140
 a23:=isAgg140
 z23:=sizeOf140
 v23:=zeroValue140
 t26:=underlying3
 a26:=isAgg3
 z26:=sizeOf3
 v26:=zeroValue3
 t27:=underlying148
 a27:=isAgg148
 z27:=sizeOf148
 v27:=zeroValue148
 t28:=underlying149
 a28:=isAgg149
 z28:=sizeOf149
 v28:=zeroValue149
 t33:=underlying215
 a33:=isAgg215
 z33:=sizeOf215
 v33:=zeroValue215}
def Tryz.PK:Go.Shelf.Ren:=⟨fun|6=>51|8=>101|9=>102|11=>165|13=>97|12=>166|23=>154|24=>155|14=>233|15=>234|16=>235|17=>236|18=>237|19=>238|20=>239|21=>240|22=>241|25=>305|26=>226|27=>227|28=>306|29=>307|30=>300|31=>345|n=>n,fun|26=>3|28=>149|24=>94|0=>0|3=>3|37=>107|48=>53|50=>23|4=>4|40=>271|39=>270|45=>110|5=>5|9=>9|51=>334|55=>338|57=>384|58=>385|33=>215|n=>n,fun|n=>n⟩
theorem Tryz.xD:Go.Proofs.SlLaysZI.n6 prog Tryz.PK:={
 mixed:=by kernel_rfl
 f6:=⟨Tryz.f51.name,by decide,func51.trans (congrArg some (by kernel_rfl))⟩
 f8:=⟨Tryz.f101.name,by decide,func101.trans (congrArg some (by kernel_rfl))⟩
 f11:=⟨Tryz.f165.name,by decide,func165.trans (congrArg some (by kernel_rfl))⟩
 t0:=underlying0
 a0:=isAgg0
 z0:=sizeOf0
 v0:=zeroValue0
 t24:=underlying94
 a24:=isAgg94
 z24:=sizeOf94
 v24:=zeroValue94
 t26:=underlying3
 a26:=isAgg3
 z26:=sizeOf3
 v26:=zeroValue3
 t28:=underlying149
 a28:=isAgg149
 z28:=sizeOf149
 v28:=zeroValue149
 i26:=by kernel_rfl}
def Tryz.EA:Go.Shelf.Ren:=⟨fun|5=>102|8=>97|7=>166|19=>154|20=>155|10=>233|11=>234|12=>235|13=>236|14=>237|15=>238|16=>239|17=>240|18=>241|30=>305|31=>226|32=>227|33=>306|34=>307|35=>300|40=>345|n=>n,fun|23=>94|25=>3|3=>3|32=>107|22=>94|0=>0|44=>53|46=>23|4=>4|36=>271|35=>270|41=>110|5=>5|9=>9|53=>334|57=>338|63=>384|64=>385|n=>n,fun|n=>n⟩
theorem Tryz.sortInt:Go.Proofs.SlLaysM.n5 prog Tryz.EA:={
 mixed:=by kernel_rfl
 f5:=⟨Tryz.f102.name,by decide,func102.trans (congrArg some (by kernel_rfl))⟩
 f7:=⟨Tryz.f166.name,by decide,func166.trans (congrArg some (by kernel_rfl))⟩
 f8:=func97.trans (congrArg some (by kernel_rfl))
 f10:=⟨Tryz.f233.name,by decide,func233.trans (congrArg some (by kernel_rfl))⟩
 f11:=⟨Tryz.f234.name,by decide,func234.trans (congrArg some (by kernel_rfl))⟩
 f12:=⟨Tryz.f235.name,by decide,func235.trans (congrArg some (by kernel_rfl))⟩
 f13:=⟨Tryz.f236.name,by decide,func236.trans (congrArg some (by kernel_rfl))⟩
 f14:=⟨Tryz.f237.name,by decide,func237.trans (congrArg some (by kernel_rfl))⟩
 f15:=⟨Tryz.f238.name,by decide,func238.trans (congrArg some (by kernel_rfl))⟩
 f16:=⟨Tryz.f239.name,by decide,func239.trans (congrArg some (by kernel_rfl))⟩
 f17:=⟨Tryz.f240.name,by decide,func240.trans (congrArg some (by kernel_rfl))⟩
 f18:=⟨Tryz.f241.name,by decide,func241.trans (congrArg some (by kernel_rfl))⟩
 f19:=func154.trans (congrArg some (by kernel_rfl))
 f20:=func155.trans (congrArg some (by kernel_rfl))
 f30:=⟨Tryz.f305.name,by decide,func305.trans (congrArg some (by kernel_rfl))⟩
 f31:=func226.trans (congrArg some (by kernel_rfl))
 f32:=func227.trans (congrArg some (by kernel_rfl))
 f33:=⟨Tryz.f306.name,by decide,func306.trans (congrArg some (by kernel_rfl))⟩
 f34:=⟨Tryz.f307.name,by decide,func307.trans (congrArg some (by kernel_rfl))⟩
 f35:=⟨Tryz.f300.name,by decide,func300.trans (congrArg some (by kernel_rfl))⟩
 f40:=⟨Tryz.f345.name,by decide,func345.trans (congrArg some (by kernel_rfl))⟩
 t0:=underlying0
 a0:=isAgg0
 z0:=sizeOf0
 v0:=zeroValue0
 t3:=underlying3
 a3:=isAgg3
 z3:=sizeOf3
 v3:=zeroValue3
 t4:=underlying4
 a4:=isAgg4
 z4:=sizeOf4
 v4:=zeroValue4
 t5:=underlying5
 a5:=isAgg5
 z5:=sizeOf5
 v5:=zeroValue5
 t9:=underlying9
 a9:=isAgg9
 z9:=sizeOf9
 v9:=zeroValue9
 t22:=underlying94
 a22:=isAgg94
 z22:=sizeOf94
 v22:=zeroValue94
 t23:=underlying94
 a23:=isAgg94
 z23:=sizeOf94
 v23:=zeroValue94
 t25:=underlying3
 a25:=isAgg3
 z25:=sizeOf3
 v25:=zeroValue3
 t32:=underlying107
 a32:=isAgg107
 z32:=sizeOf107
 v32:=zeroValue107
 t35:=underlying270
 a35:=isAgg270
 z35:=sizeOf270
 v35:=zeroValue270
 t36:=underlying271
 a36:=isAgg271
 z36:=sizeOf271
 v36:=zeroValue271
 t41:=underlying110
 a41:=isAgg110
 z41:=sizeOf110
 v41:=zeroValue110
 t44:=underlying53
 a44:=isAgg53
 z44:=sizeOf53
 v44:=zeroValue53
 t46:=underlying23
 a46:=isAgg23
 z46:=sizeOf23
 v46:=zeroValue23
 t53:=underlying334
 a53:=isAgg334
 z53:=sizeOf334
 v53:=zeroValue334
 t57:=underlying338
 a57:=isAgg338
 z57:=sizeOf338
 v57:=zeroValue338
 t63:=underlying384
 a63:=isAgg384
 z63:=sizeOf384
 v63:=zeroValue384
 t64:=underlying385
 a64:=isAgg385
 z64:=sizeOf385
 v64:=zeroValue385}
def Tryz.MX:Go.Shelf.Ren:=⟨fun|7=>89|10=>142|n=>n,fun|23=>191|26=>9|3=>49|28=>198|0=>0|27=>197|33=>252|4=>4|n=>n,fun|n=>n⟩
theorem Tryz.zq:Go.Proofs.SlLaysZ.n7 prog Tryz.MX:={
 mixed:=by kernel_rfl
 f7:=⟨Tryz.f89.name,by decide,func89.trans (congrArg some (by kernel_rfl))⟩
 f10:=⟨Tryz.f142.name,by decide,func142.trans (congrArg some (by kernel_rfl))⟩
 t0:=underlying0
 a0:=isAgg0
 z0:=sizeOf0
 v0:=zeroValue0
 t4:=underlying4
 a4:=isAgg4
 z4:=sizeOf4
 v4:=zeroValue4
 t23:=underlying191
 a23:=isAgg191
 z23:=sizeOf191
 v23:=zeroValue191
 t26:=underlying9
 a26:=isAgg9
 z26:=sizeOf9
 v26:=zeroValue9
 t27:=underlying197
 a27:=isAgg197
 z27:=sizeOf197
 v27:=zeroValue197
 t28:=underlying198
 a28:=isAgg198
 z28:=sizeOf198
 v28:=zeroValue198
 t33:=underlying252
 a33:=isAgg252
 z33:=sizeOf252
 v33:=zeroValue252}
def Tryz.PJ:Go.Shelf.Ren:=⟨fun|6=>88|8=>141|9=>132|11=>222|13=>97|12=>212|23=>154|24=>155|14=>273|15=>274|16=>275|17=>276|18=>277|19=>278|20=>279|21=>280|22=>281|25=>334|26=>226|27=>227|28=>335|29=>336|30=>337|31=>357|n=>n,fun|26=>9|28=>198|24=>195|0=>0|3=>3|37=>107|48=>53|50=>23|4=>4|40=>271|39=>270|45=>110|5=>5|9=>9|51=>334|55=>338|57=>384|58=>385|33=>252|n=>n,fun|n=>n⟩
theorem Tryz.xz:Go.Proofs.SlLaysZ.n6 prog Tryz.PJ:={
 mixed:=by kernel_rfl
 f6:=⟨Tryz.f88.name,by decide,func88.trans (congrArg some (by kernel_rfl))⟩
 f8:=⟨Tryz.f141.name,by decide,func141.trans (congrArg some (by kernel_rfl))⟩
 f11:=⟨Tryz.f222.name,by decide,func222.trans (congrArg some (by kernel_rfl))⟩
 t0:=underlying0
 a0:=isAgg0
 z0:=sizeOf0
 v0:=zeroValue0
 t24:=underlying195
 a24:=isAgg195
 z24:=sizeOf195
 v24:=zeroValue195
 t26:=underlying9
 a26:=isAgg9
 z26:=sizeOf9
 v26:=zeroValue9
 t28:=underlying198
 a28:=isAgg198
 z28:=sizeOf198
 v28:=zeroValue198
 i26:=by kernel_rfl}
def Tryz.Ez:Go.Shelf.Ren:=⟨fun|6=>132|8=>97|9=>212|19=>154|20=>155|21=>273|22=>274|23=>275|24=>276|25=>277|26=>278|27=>279|28=>280|29=>281|36=>334|31=>226|32=>227|37=>335|38=>336|39=>337|41=>357|n=>n,fun|27=>195|29=>9|3=>3|32=>107|26=>195|0=>0|44=>53|46=>23|4=>4|36=>271|35=>270|41=>110|5=>5|9=>9|53=>334|57=>338|63=>384|64=>385|n=>n,fun|n=>n⟩
theorem Tryz.sortStr:Go.Proofs.SlLaysM.n6 prog Tryz.Ez:={
 mixed:=by kernel_rfl
 f6:=⟨Tryz.f132.name,by decide,func132.trans (congrArg some (by kernel_rfl))⟩
 f8:=func97.trans (congrArg some (by kernel_rfl))
 f9:=⟨Tryz.f212.name,by decide,func212.trans (congrArg some (by kernel_rfl))⟩
 f19:=func154.trans (congrArg some (by kernel_rfl))
 f20:=func155.trans (congrArg some (by kernel_rfl))
 f21:=⟨Tryz.f273.name,by decide,func273.trans (congrArg some (by kernel_rfl))⟩
 f22:=⟨Tryz.f274.name,by decide,func274.trans (congrArg some (by kernel_rfl))⟩
 f23:=⟨Tryz.f275.name,by decide,func275.trans (congrArg some (by kernel_rfl))⟩
 f24:=⟨Tryz.f276.name,by decide,func276.trans (congrArg some (by kernel_rfl))⟩
 f25:=⟨Tryz.f277.name,by decide,func277.trans (congrArg some (by kernel_rfl))⟩
 f26:=⟨Tryz.f278.name,by decide,func278.trans (congrArg some (by kernel_rfl))⟩
 f27:=⟨Tryz.f279.name,by decide,func279.trans (congrArg some (by kernel_rfl))⟩
 f28:=⟨Tryz.f280.name,by decide,func280.trans (congrArg some (by kernel_rfl))⟩
 f29:=⟨Tryz.f281.name,by decide,func281.trans (congrArg some (by kernel_rfl))⟩
 f31:=func226.trans (congrArg some (by kernel_rfl))
 f32:=func227.trans (congrArg some (by kernel_rfl))
 f36:=⟨Tryz.f334.name,by decide,func334.trans (congrArg some (by kernel_rfl))⟩
 f37:=⟨Tryz.f335.name,by decide,func335.trans (congrArg some (by kernel_rfl))⟩
 f38:=⟨Tryz.f336.name,by decide,func336.trans (congrArg some (by kernel_rfl))⟩
 f39:=⟨Tryz.f337.name,by decide,func337.trans (congrArg some (by kernel_rfl))⟩
 f41:=⟨Tryz.f357.name,by decide,func357.trans (congrArg some (by kernel_rfl))⟩
 t0:=underlying0
 a0:=isAgg0
 z0:=sizeOf0
 v0:=zeroValue0
 t3:=underlying3
 a3:=isAgg3
 z3:=sizeOf3
 v3:=zeroValue3
 t4:=underlying4
 a4:=isAgg4
 z4:=sizeOf4
 v4:=zeroValue4
 t5:=underlying5
 a5:=isAgg5
 z5:=sizeOf5
 v5:=zeroValue5
 t9:=underlying9
 a9:=isAgg9
 z9:=sizeOf9
 v9:=zeroValue9
 t26:=underlying195
 a26:=isAgg195
 z26:=sizeOf195
 v26:=zeroValue195
 t27:=underlying195
 a27:=isAgg195
 z27:=sizeOf195
 v27:=zeroValue195
 t29:=underlying9
 a29:=isAgg9
 z29:=sizeOf9
 v29:=zeroValue9
 t32:=underlying107
 a32:=isAgg107
 z32:=sizeOf107
 v32:=zeroValue107
 t35:=underlying270
 a35:=isAgg270
 z35:=sizeOf270
 v35:=zeroValue270
 t36:=underlying271
 a36:=isAgg271
 z36:=sizeOf271
 v36:=zeroValue271
 t41:=underlying110
 a41:=isAgg110
 z41:=sizeOf110
 v41:=zeroValue110
 t44:=underlying53
 a44:=isAgg53
 z44:=sizeOf53
 v44:=zeroValue53
 t46:=underlying23
 a46:=isAgg23
 z46:=sizeOf23
 v46:=zeroValue23
 t53:=underlying334
 a53:=isAgg334
 z53:=sizeOf334
 v53:=zeroValue334
 t57:=underlying338
 a57:=isAgg338
 z57:=sizeOf338
 v57:=zeroValue338
 t63:=underlying384
 a63:=isAgg384
 z63:=sizeOf384
 v63:=zeroValue384
 t64:=underlying385
 a64:=isAgg385
 z64:=sizeOf385
 v64:=zeroValue385}
end Go.Proofs
