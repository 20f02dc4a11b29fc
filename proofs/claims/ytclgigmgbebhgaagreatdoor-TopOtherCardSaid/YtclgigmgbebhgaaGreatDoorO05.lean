/- TopOther: part 5: TopSearch TopRow2 TopSubs TopSort ShelfS. -/
import Derived.Deep.AppendLies
import Derived.Shelf.SlSortCmp.WholeK
import Derived.Shelf.SlSortCmp.NoneTotal
import Derived.Shelf.SlGeneric
import Derived.Shelf.SlIterI.Nil
import Derived.Shelf.SlIter.Nil
import Derived.Shelf.SortM.Plain
import Derived.Shelf.SortM.SortNone
import Derived.Ground.SlsfProg
import Derived.Ground.GgzProg
import Derived.Ground.SlgmProg
import Derived.Test.YtclgigmgbebhgaaGreatDoorProg
import Derived.Test.YtclgigmgbebhgaaGreatDoorO04
set_option linter.unusedVariables false
set_option linter.unusedSimpArgs false
set_option maxRecDepth 100000
set_option maxHeartbeats 16000000
namespace Go.Proofs.YtclgigmgbebhgaaGreatDoor
open Tryz
open Go Go.Proofs Go.RowKit
variable {ms:List Nat} {xs:List Value} {B2 Bm t LO M s ow tB mB oB sB:Nat} {ad:Option Addr} {tv sv:Value} {W a W' w:World}
theorem sS {B1 t1 t2:Nat}{c1 c2:Array Value}(A:Z7 W B1 t1 c1)(C:Z7 W B2 t2 c2)(h:t1≠t2):B1≠B2:=by
 rintro rfl;have:=A.symm.trans C;injection this with this;injection this with _ e;exact h e
theorem Wc {B:Nat}{cs:Array Value}{S:List (Value×Value)}(h:Z7 W B t cs)(hm:ZB W Bm S):B≠Bm:=by
 rintro rfl;obtain⟨es,A,hb,_⟩:=hm;have:=hb.symm.trans h;injection this with this;cases this
theorem Yh.YC {b:World}{v:Value}{g:G}(f:Yh LO M Bm a b)(mk:Zl LO M Bm a v g){B:Nat}{cs:Array Value}(h:Z7 a B t cs)(A:t≠Fx)(C:t≠Wk):Z7 b B t cs:=
 f.blk h (sS h mk.blk A) (Wc h mk.map) C
theorem Yh.T3 {b:World}{v:Value}{g:G}(f:Yh LO M Bm a b)(mk:Zl LO M Bm a v g){base e n:Nat}{u:Value} (h:a.ownsRow base e s u n xs)(D:e≠Fx)(C:e≠Wk):b.ownsRow base e s u n xs:=by
 refine⟨h.1,?_⟩;rcases h.2 with I|⟨k,cap,A,e1,e2,e3,e4⟩;·exact .inl I
 ·exact .inr ⟨k,cap,A,e1,e2,f.YC mk (show Z7 a k e A from e3) D C,e4⟩
theorem Gr{α β:Type}(f:α->List β)(k:Nat)(hk:∀x,(f x).length=k):∀(l:List α) (i:Nat) (x:α),l[i]? =some x->∀j,j<k->(l.flatMap f)[i*k+j]? =(f x)[j]?
 |[],i,x,h,_,_=>by simp at h
 |y::l,0,x,h,j,hj=>by rw[aL] at h;cases h;rw[acd,Nat.zero_mul,aca,abb (by rw[hk];exact hj)]
 |y::l,i+1,x,h,j,hj=>by rw[aF] at h;have A:=Gr f k hk l i x h j hj;rw[acd,aae (by rw[hk,arc];omega),hk,show(i+1)*k+j-k=i*k+j by rw[arc];omega];exact A
theorem Ye{α:Type}(f:α->List Value)(k:Nat)(hk:∀x,(f x).length=k) {e c n:Nat} {l:List α}(hn:l.length=n)(h:W.ownsRow LO e k (.slice ad n c) n (l.flatMap f)){i:Nat}{x:α}(hi:l[i]? =some x):
 ∃g,ad=some ⟨g,0,none⟩/\n<=c/\∀j,j<k->W.cell? ⟨g,i*k+j,none⟩=(f x)[j]? :=by
 have C:=(au.1 hi).1;have A:=h;rcases h.2 with⟨e1,e2⟩|⟨g,cap,D,e1,_,_,e4,_⟩;·omega
 ·injection e1 with e5 _ J;subst e5 J;refine⟨g,rfl,e4,λj I=> ?_⟩
  rw[A.cellAt (i*k+j) (by have:(i+1)*k<=n*k:=aue k jO;rw[arc] at this;omega),Gr f k hk l i x hi j I]
theorem KT{l:List Nat}{a:Nat}(h:a+l.length<=ms.length):(Vl l ms a).length=l.length:=by
 unfold Vl;rw[List.length_zip,ahg];omega
theorem xl{l:List Nat}{a j:Nat}(h:a+l.length<=ms.length)(A:j<l.length):((Vl l ms a).getD j (0,0)).1=l.getD j 0:=by
 rw[afg,afg,aM A,aM (by rw[KT h];exact A)];simp only[Option.getD_some];unfold Vl;rw[List.getElem_zip]
theorem sR{n mk a:Nat} (h:ms[a]? =some mk):Vl [n] ms a=[(n,mk)]:=by
 unfold Vl;rw[drop_cons h];rfl
def UN(ms:List Nat):List Value:=ms.flatMap λm:Nat=>[Value.int .i64 m]
structure xj(LO:Nat)(W:World)(M ow tB mB oB sB wB:Nat)(tv sv:Value)(t:List VJ)(ms:List Nat):Prop where
 ht:Z7 W tB 290 #[tv]
 hm:Z7 W mB 132 #[.pointer (some ⟨M,0,none⟩)]
 ho:Z7 W oB 3 #[.int .i64 ow]
 hs:Z7 W sB 94 #[sv]
 hw:Z7 W wB 151 #[.func (.func 175) #[] #[.pointer (some ⟨tB,0,none⟩),.pointer (some ⟨mB,0,none⟩),.pointer (some ⟨oB,0,none⟩),.pointer (some ⟨sB,0,none⟩),.pointer (some ⟨wB,0,none⟩)]]
 nodes:W.ownsRow LO PU 5 tv t.length (Uv t)
 marks:W.ownsRow LO 3 1 sv ms.length (UN ms)
theorem xj.keep{wB:Nat}{v:Value}{t:List VJ} {b:World}{g:G}(f:Yh LO M Bm a b)(mk:Zl LO M Bm a v g)(h:xj LO a M ow tB mB oB sB wB tv sv t ms):xj LO b M ow tB mB oB sB wB tv sv t ms:=
 ⟨f.YC mk h.ht jD jD,f.YC mk h.hm jD jD,f.YC mk h.ho jD jD,f.YC mk h.hs jD jD,f.YC mk h.hw jD jD,f.T3 mk h.nodes jD jD,f.T3 mk h.marks jD jD⟩
theorem cell1 {B:Nat}{u:Value}(h:Z7 W B t #[u]):W.cell? ⟨B,0,none⟩=some u:=by simpa using h.cell 0
theorem sQ{LO M Bm ow tB mB oB sB wB:Nat}{tv sv:Value}{t:List VJ}{ms:List Nat}(gy:t.length<=9000)(hml:ms.length<=9000){i:Nat}{l:List Nat}{a:Nat}(hT:Uw t i l a):
 ∀(g:G) (v:Value) (w:World),a+l.length<=ms.length->xj LO w M ow tB mB oB sB wB tv sv t ms->Zl LO M Bm w v g->GB (ZH ow (Vl l ms a) g)->LO<=w.heap.size->
  Calls prog 175 #[.int .i64 i,.pointer (some ⟨tB,0,none⟩),.pointer (some ⟨mB,0,none⟩),.pointer (some ⟨oB,0,none⟩),.pointer (some ⟨sB,0,none⟩),.pointer (some ⟨wB,0,none⟩)] w
   λe w'=>e=.returned (.tuple #[])/\∃v',Zl LO M Bm w' v' (ZH ow (Vl l ms a) g)/\Yh LO M Bm w w':=by
 induction hT with
 | @leaf i n a hx=>
   intro g v w T hS hM hG RX;obtain⟨mk,zj⟩:∃m,ms[a]? =some m:=⟨_,aM (by simp at T;omega)⟩;rw[sR zj,XD] at hG ⊢;obtain⟨TL,C⟩:∃n,t.length=n:=⟨_,rfl⟩;obtain⟨ML,Y⟩:∃n,ms.length=n:=⟨_,rfl⟩;have hit:i<TL:=by rw[<-C];exact(au.1 hx).1
   have ham:a<ML:=by rw[<-Y];exact(au.1 zj).1
   have D:=hS.nodes;have I:=hS.marks;rw[C] at D gy;rw[Y] at I hml T;obtain⟨ta,tc,rfl⟩:=ZI D;obtain⟨sa,sc,rfl⟩:=ZI I;obtain⟨tg,rfl,htc,A⟩:=Ye PS 5 (λ_=>rfl) C D hx;obtain⟨sg,rfl,hsc,hcm⟩:=Ye (λm:Nat=>[Value.int .i64 m]) 1 (λ_=>rfl) Y I zj;have n0:=A 0 jD;have n1:=A 1 jD;have n2:=A 2 jD;have n3:=A 3 jD;have n4:=A 4 jD;simp only[PS,aL,aF,aeb] at n0 n1 n2 n3 n4;have t0:=cell1 hS.ht;have iz0:=jZ i;have iz1:(i:Int)<(TL:Int):=jO;have az0:=jZ a;have az1:(a:Int)<(ML:Int):=jO;have anz:¬((a:Int)<0):=jO;have f1:=Yh.alloc (LO:=LO) (M:=M) (Bm:=Bm) (a:=w) (.cells #[.bool true,.int .u32 n,.int .i64 a,.int .i64 0,.int .i64 0] PU) RX;have HS:=aT (hS.keep f1 hM);have HM:=aT (hM.al (.cells #[.bool true,.int .u32 n,.int .i64 a,.int .i64 0,.int .i64 0] PU));have HF:=aT f1;have HN:=aT (Z7.new w PU #[.bool true,.int .u32 n,.int .i64 a,.int .i64 0,.int .i64 0]);have J:LO<=(w.alloc (.cells #[.bool true,.int .u32 n,.int .i64 a,.int .i64 0,.int .i64 0] PU)).heap.size:=by rw[ah];omega
   have JB:g.l.length+1<=1000000:=by
    have h:=hG.1;have e:(g.put [ins 0x15 n mk ow]).l.length=g.l.length+1:=by show(g.l++_).length=_;rw[ay];rfl
    omega
   have HMK:=aT zj;have HTL:=aT C;have HML:=aT Y;clear hS hM f1 D I A hcm hx zj hG C Y;go_enter func175,ntmps175;go_upto_region 6 with fail;generalize w.alloc (.cells #[.bool true,.int .u32 n,.int .i64 a,.int .i64 0,.int .i64 0] PU)=w1 at*;generalize w.heap.size=BN at*;clear n0 n1 n2 n3 n4 t0;obtain⟨z0,z1,z2⟩:=HN.q3;go_upto_region 9 with fail;have Z:Hid (∀W,Yh LO M Bm w1 W->W.cell? ⟨mB,0,none⟩=some (.pointer (some ⟨M,0,none⟩))/\W.cell? ⟨BN,1,none⟩=some (.int .u32 n)/\W.cell? ⟨sB,0,none⟩=some (.slice (some ⟨sg,0,none⟩) ML sc)/\W.cell? ⟨BN,2,none⟩=some (.int .i64 a)/\W.cell? ⟨sg,a,none⟩=some (.int .i64 mk)/\W.cell? ⟨oB,0,none⟩=some (.int .i64 ow)):=λW f=>by have h:=HS.keep f HM;have hb:=f.YC HM HN jD jD;have I:=h.marks;rw[HML.out] at I;obtain⟨sg',e1,_,hc⟩:=Ye (λm:Nat=>[Value.int .i64 m]) 1 (λ_=>rfl) HML I HMK;cases e1;have h0:=hc 0 jD;simp only[aqd,aeb,aL] at h0;exact⟨cell1 h.hm,by simpa using hb.cell 1,cell1 h.hs,by simpa using hb.cell 2,h0,cell1 h.ho⟩
   go_region_held3 (λw'=>w'.cell? ⟨mB,0,none⟩=some (.pointer (some ⟨M,0,none⟩))/\w'.cell? ⟨BN,1,none⟩=some (.int .u32 n)/\w'.cell? ⟨sB,0,none⟩=some (.slice (some ⟨sg,0,none⟩) ML sc)/\w'.cell? ⟨BN,2,none⟩=some (.int .i64 a)/\w'.cell? ⟨sg,a,none⟩=some (.int .i64 mk)/\w'.cell? ⟨oB,0,none⟩=some (.int .i64 ow)) (first|exact Z _ (Yh.refl _ _ _ _).drew|exact gw|exact Z _ ((Yh.refl LO M Bm w1).drew.trans (Yh.alloc _ J))) (first
    |(go_at_call 47
      refine(Y0 (xs:=[ins 0x15 n mk ow]) w1.drew HM.drew rfl rfl JB J).mono ?_;rintro e w2 ⟨rfl,v2,h2,f2⟩;have OH:=aT f2.Pf;have gw:=Z _ OH;have U:=aT h2;clear h2 f2))
   go_wp2_with fail;go_end0;exact⟨rfl,v2,U,HF.trans OH⟩
 | @node i l a lo hi h2 hx Ju hhi ih1 ih2=>
   intro g v w T hS hM hG RX;rw[XZ ow _ (by rw[KT T];exact h2),KT T,xp,xn,xl T jO] at hG ⊢;obtain⟨H,hH⟩:=jX (l.length/2);obtain⟨nh,hnh⟩:∃n,l.getD (l.length/2) 0=n:=⟨_,rfl⟩;rw[hnh] at hx hG ⊢;rw[hH] at ih1 ih2 hG ⊢;obtain⟨TL,C⟩:∃n,t.length=n:=⟨_,rfl⟩;have hit:i<TL:=by rw[<-C];exact(au.1 hx).1
   have D:=hS.nodes;rw[C] at D gy;obtain⟨ta,tc,rfl⟩:=ZI D;obtain⟨tg,rfl,htc,A⟩:=Ye PS 5 (λ_=>rfl) C D hx;have n0:=A 0 jD;have n1:=A 1 jD;have n2:=A 2 jD;have n3:=A 3 jD;have n4:=A 4 jD;simp only[PS,aL,aF,aeb] at n0 n1 n2 n3 n4;have t0:=cell1 hS.ht;have iz0:=jZ i;have iz1:(i:Int)<(TL:Int):=jO;have f1:=Yh.alloc (LO:=LO) (M:=M) (Bm:=Bm) (a:=w) (.cells #[.bool false,.int .u32 nh,.int .i64 0,.int .i64 lo,.int .i64 hi] PU) RX;have HS:=aT (hS.keep f1 hM);have HM:=aT (hM.al (.cells #[.bool false,.int .u32 nh,.int .i64 0,.int .i64 lo,.int .i64 hi] PU));have HF:=aT f1;have Ef:=aT RX;have HN:=aT (Z7.new w PU #[.bool false,.int .u32 nh,.int .i64 0,.int .i64 lo,.int .i64 hi]);have J:LO<=(w.alloc (.cells #[.bool false,.int .u32 nh,.int .i64 0,.int .i64 lo,.int .i64 hi] PU)).heap.size:=by rw[ah];omega
   obtain⟨g1,hg1⟩:=jX (ZH ow (Vl (l.take H) ms a) (g.mark.put [ins 0x35 nh ((g.n+1:Nat):Int) 0]));rw[hg1] at hG ⊢;have b2:=hG.back (WX ow _ _ _ (aR _));have b1:=b2.back (U9.here _ _);have b0:=b1;rw[<-hg1] at b0;have b0:=b0.back (WX ow _ _ _ (aR _));have zi:g.n+1<=1000000:=aO b0.2 jD;have hpl:g.mark.l.length+1<=1000000:=by
    have h:=b0.1;have e:(g.mark.put [ins 0x35 nh ((g.n+1:Nat):Int) 0]).l.length=g.mark.l.length+1:=by show(g.mark.l++_).length=_;rw[ay];rfl
    omega
   have hhl:g1.l.length+1<=1000000:=by
    have h:=b2.1;have e:(g1.here (g.n+1)).l.length=g1.l.length+1:=by show(g1.l++_).length=_;rw[ay];rfl
    omega
   have ag7:a+(l.take H).length<=ms.length:=by rw[abg];omega
   have cW:a+H+(l.drop H).length<=ms.length:=by rw[ahg];omega
   have IH1:=aT (λv w h1 h2 h3=>ih1 (g.mark.put [ins 0x35 nh ((g.n+1:Nat):Int) 0]) v w ag7 h1 h2 (by rw[hg1];exact b1) h3);have IH2:=aT (λv w h1 h2 h3=>ih2 (g1.here (g.n+1)) v w cW h1 h2 hG h3);have lM:=aT hg1;clear hS hM f1 D A hx hG b0 b1 b2 ih1 ih2 hg1 ag7 cW hH hnh Ju hhi;go_enter func175,ntmps175;go_upto_region 6 with fail;generalize w.alloc (.cells #[.bool false,.int .u32 nh,.int .i64 0,.int .i64 lo,.int .i64 hi] PU)=w1 at*;generalize w.heap.size=BN at*;clear n0 n1 n2 n3 n4 t0;obtain⟨z0,z1⟩:=HN.q2;have m0:=cell1 HS.hm;go_wp2_with fail;refine(Vp w1 HM zi).mono ?_;rintro e w2 ⟨rfl,h2,f2⟩;have TZ:=aT (HS.keep f2 HM);have nj:=aT (f2.YC HM HN jD jD);have U:=aT h2;have OH:=aT (HF.trans f2);have Pa:LO<=w2.heap.size:=aO J f2.2.1;clear h2 f2 HS HN HM HF z0 z1 m0;have z1:=nj.e1;have m0:=cell1 TZ.hm
   go_wp2_with (refine Great.wpList_buildSliceTo rfl 79 Wk 1 _ rfl _ rfl _ rfl underlying79 #[.int .i64 0,.int .u16 53,.int .u32 nh,.int .i64 ((g.n:Int)+1),.int .i64 0] jK ?_)
   refine(Y0 (xs:=[ins 0x35 nh ((g.n+1:Nat):Int) 0]) w2 U rfl rfl hpl Pa).mono ?_;rintro e w3 ⟨rfl,v3,h3,f3⟩;have ni:=aT (TZ.keep f3 U);have HN3:=aT (f3.YC U nj jD jD);have tY:=aT h3;have zk:=aT (OH.trans f3);have xq:LO<=w3.heap.size:=aO Pa f3.2.1;clear h3 f3 TZ nj U OH z1 m0;have z3:=HN3.e3;have q0:=cell1 ni.hw;go_wp2_with fail;refine(IH1 v3 w3 ni tY xq).mono ?_;rintro e w4 ⟨rfl,v4,h4,f4⟩;rw[lM.out] at h4;have xi:=aT (ni.keep f4 tY);have HN4:=aT (f4.YC tY HN3 jD jD);have HM4:=aT h4;have Es:=aT (zk.trans f4);have cV:LO<=w4.heap.size:=aO xq f4.2.1;clear h4 f4 ni HN3 tY zk z3 q0;have m0:=cell1 xi.hm;go_wp2_with fail;refine(T7 (m:=g.n) w4 HM4 hhl cV).mono ?_;rintro e w5 ⟨rfl,v5,h5,f5⟩;have HS5:=aT (xi.keep f5 HM4);have gq:=aT (f5.YC HM4 HN4 jD jD);have HM5:=aT h5;have tX:=aT (Es.trans f5);have OE:LO<=w5.heap.size:=aO cV f5.2.1;clear h5 f5 xi HN4 HM4 Es m0;have z4:=gq.e4;have q0:=cell1 HS5.hw;go_wp2_with fail;refine(IH2 v5 w5 HS5 HM5 OE).mono ?_;rintro e w6 ⟨rfl,v6,h6,f6⟩;have HM6:=aT h6;have lL:=aT (tX.trans f6);clear h6 f6;go_wp2_with fail;go_end0;exact⟨rfl,v6,HM6,lL⟩
theorem sP{wB:Nat}(g:G)(v:Value)(w:World)(hS:xj LO w M ow tB mB oB sB wB tv sv [⟨true,0,-1,0,0⟩] ms)(Y:Zl LO M Bm w v g)(hG:GB (g.put [ins 0x05 0 ow 0]))(I:LO<=w.heap.size):
 Calls prog 175 #[.int .i64 0,.pointer (some ⟨tB,0,none⟩),.pointer (some ⟨mB,0,none⟩),.pointer (some ⟨oB,0,none⟩),.pointer (some ⟨sB,0,none⟩),.pointer (some ⟨wB,0,none⟩)] w
  λe w'=>e=.returned (.tuple #[])/\∃v',Zl LO M Bm w' v' (g.put [ins 0x05 0 ow 0])/\Yh LO M Bm w w':=by
 have C:=hS.nodes;change w.ownsRow LO PU 5 tv 1 _ at C;obtain⟨ta,tc,rfl⟩:=ZI C;obtain⟨tg,rfl,htc,A⟩:=Ye PS 5 (λ_=>rfl) rfl C (i:=0) (x:=⟨true,0,-1,0,0⟩) rfl;have n0:=A 0 jD;have n1:=A 1 jD;have n2:=A 2 jD;have n3:=A 3 jD;have n4:=A 4 jD;simp only[PS,aL,aF,Nat.zero_mul,aca,aeb] at n0 n1 n2 n3 n4;have t0:=cell1 hS.ht;have Z:=Yh.alloc (LO:=LO) (M:=M) (Bm:=Bm) (a:=w) (.cells #[.bool true,.int .u32 0,.int .i64 (-1),.int .i64 0,.int .i64 0] PU) I;have HS:=aT (hS.keep Z Y);have HM:=aT (Y.al (.cells #[.bool true,.int .u32 0,.int .i64 (-1),.int .i64 0,.int .i64 0] PU));have HF:=aT Z;have HN:=aT (Z7.new w PU #[.bool true,.int .u32 0,.int .i64 (-1),.int .i64 0,.int .i64 0]);have D:LO<=(w.alloc (.cells #[.bool true,.int .u32 0,.int .i64 (-1),.int .i64 0,.int .i64 0] PU)).heap.size:=by rw[ah];omega
 have J:g.l.length+1<=1000000:=by
  have h:=hG.1;have e:(g.put [ins 0x05 0 ow 0]).l.length=g.l.length+1:=by show(g.l++_).length=_;rw[ay];rfl
  omega
 clear hS Y Z C A hG;go_enter func175,ntmps175;go_upto_region 6 with fail;generalize w.alloc (.cells #[.bool true,.int .u32 0,.int .i64 (-1),.int .i64 0,.int .i64 0] PU)=w1 at*;generalize w.heap.size=BN at*;clear n0 n1 n2 n3 n4 t0;obtain⟨z0,_,z2⟩:=HN.q3;have m0:=cell1 HS.hm;have o0:=cell1 HS.ho
 go_wp2_with (refine Great.wpList_buildSliceTo rfl 79 Wk 1 _ rfl _ rfl _ rfl underlying79 #[.int .i64 0,.int .u16 5,.int .u32 0,.int .i64 ow,.int .i64 0] jK ?_)
 refine(Y0 (xs:=[ins 0x05 0 ow 0]) w1 HM rfl rfl J D).mono ?_;rintro e w2 ⟨rfl,v2,h2,f2⟩;have U:=aT h2;have T:=aT (HF.trans f2);clear h2 f2 z0 z2 m0 o0;go_wp2_with fail;go_end0;exact⟨rfl,v2,U,T⟩
theorem sN(ms:List Nat)(a:Nat):Vl [] ms a=[]:=rfl
theorem Lt {B e n c:Nat}{a:Option Addr} (h:W.ownsRow B e s (.slice a n c) n xs):n<=c/\c<=9223372036854775807:=by
 rcases h.2 with⟨e1,e2⟩|⟨g,cap,A,e1,_,_,e4,e5,_⟩
 ·cases e1;omega
 ·cases e1;exact⟨e4,aO e5 jD⟩
theorem Zd {B C e n:Nat}{v:Value} (h:W.ownsRow B e s v n xs)(I:C<=B):W.ownsRow C e s v n xs:=by
 refine⟨h.1,?_⟩;rcases h.2 with D|⟨g,cap,A,e1,e2,e3⟩;·exact .inl D
 ·exact .inr ⟨g,cap,A,e1,aO I e2,e3⟩
theorem ZE {B e size n:Nat}{v:Value} (h:W.ownsRow B e size v n xs)(hb:Below W.heap.size W W'):W'.ownsRow B e size v n xs:=by
 refine⟨h.1,?_⟩;rcases h.2 with D|⟨g,cap,A,hv,I,C,rest⟩;·exact .inl D
 ·exact .inr ⟨g,cap,A,hv,I,(hb.block g (aaa.1 C).1).trans C,rest⟩
theorem Zl.Zs {w':World}{v:Value}{g:G}(h:Zl LO M Bm w v g)(hb:Below w.heap.size w w'):Zl LO M Bm w' v g:=by
 refine⟨h.blk.below hb h.blk.lt,ZE h.own hb,?_,h.lo⟩;obtain⟨es,C,A,D⟩:=h.map;exact⟨es,C,(hb.block Bm (aaa.1 A).1).trans A,D⟩
theorem KS{N L c:Nat}{v:Value}{g:G} {l:List Nat}(hL:l.length=L)(Xl:L<=4096)(hr:l.Pairwise (λa b=>a<b))(hms:ms.length=L)(w:World)(h:Zl LO M Bm w v g)(hN:T6 N w ad l)(hc:L<=c)(hcm:c<=9223372036854775807)(hNs:N<=w.heap.size)
 (hS:w.ownsRow LO 3 1 sv ms.length (UN ms)) (hG:GB (ZH ow (Vl l ms 0) g)) (RX:LO<=w.heap.size):
 Calls prog 105 #[.pointer (some ⟨M,0,none⟩),.slice ad L c,sv,.int .i64 ow] w λe w'=>e=.returned (.tuple #[])/\∃v',Zl LO M Bm w' v' (ZH ow (Vl l ms 0) g)/\Yh LO M Bm w w':=by
 obtain⟨A,hA⟩:∃A:Obj,A=.cells #[.pointer (some ⟨M,0,none⟩)] 132:=⟨_,rfl⟩;obtain⟨B,hB⟩:∃B:Obj,B=.cells #[sv] 94:=⟨_,rfl⟩;obtain⟨C,hC⟩:∃C:Obj,C=.cells #[.int .i64 ow] 3:=⟨_,rfl⟩;have b3:Below w.heap.size w (((w.alloc A).alloc B).alloc C):=((((aH w.heap.size w).alloc (aR _) A).alloc (by rw[ah];omega) B).alloc (by rw[ah,ah];omega) C);have Ee:Hid (Z7 (((w.alloc A).alloc B).alloc C) w.heap.size 132 #[.pointer (some ⟨M,0,none⟩)]):=by subst hA;exact((Z7.new w _ _).alloc B).alloc C
 have lK:Hid (Z7 (((w.alloc A).alloc B).alloc C) (w.heap.size+1) 94 #[sv]):=by subst hB;have:=(Z7.new (w.alloc A) 94 #[sv]).alloc C;rwa [ah] at this
 have HBC:Hid (Z7 (((w.alloc A).alloc B).alloc C) (w.heap.size+1+1) 3 #[.int .i64 ow]):=by subst hC;have:=Z7.new ((w.alloc A).alloc B) 3 #[.int .i64 ow];rwa [ah,ah] at this
 have J:LO<=(((w.alloc A).alloc B).alloc C).heap.size:=aO RX b3.size;have hN3:N<=(((w.alloc A).alloc B).alloc C).heap.size:=aO hNs b3.size;have zk:=aT (Yh.below (LO:=LO) (M:=M) (Bm:=Bm) b3 RX);have tY:=aT (h.Zs b3);have ni:=aT (ZE hS b3);have HN3:=aT (hN.below b3 hNs);obtain⟨ML,hML⟩:∃n,ms.length=n:=⟨_,rfl⟩;have gl:=aT hms;rw[hML] at ni;have HL:=aT hL;have HR:=aT hr;have HG:=aT hG;have HML:=aT hML;subst hA hB hC;obtain⟨sa,sc,rfl⟩:=ZI hS;rw[hML] at lK ni tY HN3 Ee HBC zk J hN3 b3 ⊢;clear hS h hN hL hr hG hms hML b3 hNs RX;go_enter func105,ntmps105;go_upto_region 1 with fail;generalize ((w.alloc (.cells #[.pointer (some ⟨M,0,none⟩)] 132)).alloc (.cells #[.slice sa ML sc] 94)).alloc (.cells #[.int .i64 ow] 3)=w3 at*;generalize w.heap.size+1+1=oB at*;generalize w.heap.size+1=sB at*;generalize w.heap.size=mB at*
 go_wp2_with (first|(go_at_call 174;refine(BK l L HL Xl HR ad c w3 HN3 hc hcm hN3).mono ?_;rintro e D ⟨tv,t,rfl,U,T,gy,Y⟩;obtain⟨ta,tc,rfl⟩:=ZI U))
 have cV:LO<=D.heap.size:=aO J T.size;obtain⟨A1,hA1⟩:∃A:Obj,A=.cells #[.slice ta t.length tc] 290:=⟨_,rfl⟩;obtain⟨Z,sM⟩:∃A:Obj,A=.cells #[.func (.func 175) #[] #[.pointer (some ⟨D.heap.size,0,none⟩),.pointer (some ⟨mB,0,none⟩),.pointer (some ⟨oB,0,none⟩),.pointer (some ⟨sB,0,none⟩),.pointer (some ⟨D.heap.size+1,0,none⟩)]] 151:=⟨_,rfl⟩;have b5:Below D.heap.size D ((D.alloc A1).alloc Z):=((aH D.heap.size D).alloc (aR _) A1).alloc (by rw[ah];omega) Z;have HT5:Hid (Z7 ((D.alloc A1).alloc Z) D.heap.size 290 #[.slice ta t.length tc]):=by subst hA1;exact(Z7.new D _ _).alloc Z
 have cU:Hid (Z7 ((D.alloc A1).alloc Z) (D.heap.size+1) 151 #[.func (.func 175) #[] #[.pointer (some ⟨D.heap.size,0,none⟩),.pointer (some ⟨mB,0,none⟩),.pointer (some ⟨oB,0,none⟩),.pointer (some ⟨sB,0,none⟩),.pointer (some ⟨D.heap.size+1,0,none⟩)]]):=by subst sM;have:=Z7.new (D.alloc A1) 151 #[.func (.func 175) #[] #[.pointer (some ⟨D.heap.size,0,none⟩),.pointer (some ⟨mB,0,none⟩),.pointer (some ⟨oB,0,none⟩),.pointer (some ⟨sB,0,none⟩),.pointer (some ⟨D.heap.size+1,0,none⟩)]];rwa [ah] at this
 have I:Below w3.heap.size w3 ((D.alloc A1).alloc Z):=T.trans (b5.mono T.size);have OE:LO<=((D.alloc A1).alloc Z).heap.size:=aO J I.size
 have hS5:xj LO ((D.alloc A1).alloc Z) M ow D.heap.size mB oB sB (D.heap.size+1) (.slice ta t.length tc) (.slice sa ML sc) t ms:=
  ⟨HT5,Ee.below I Ee.lt,HBC.below I HBC.lt,lK.below I lK.lt,cU,ZE (Zd U J) b5,by rw[HML.out];exact ZE ni I⟩
 have hM5:=tY.Zs I;have tX:=aT (zk.trans (Yh.below (LO:=LO) (M:=M) (Bm:=Bm) I J));have hml:ms.length<=9000:=by rw[gl.out];omega
 have HC:Hid (Calls prog 175 #[.int .i64 ((t.length:Int)-1),.pointer (some ⟨D.heap.size,0,none⟩),.pointer (some ⟨mB,0,none⟩),.pointer (some ⟨oB,0,none⟩),.pointer (some ⟨sB,0,none⟩),.pointer (some ⟨D.heap.size+1,0,none⟩)] ((D.alloc A1).alloc Z)
  λe w'=>e=.returned (.tuple #[])/\∃v',Zl LO M Bm w' v' (ZH ow (Vl l ms 0) g)/\Yh LO M Bm ((D.alloc A1).alloc Z) w'):=by
  have hG:=HG.out;rcases Y with⟨hl,ht⟩|⟨h0,hT⟩
  ·subst hl;rw[sN,XE] at hG ⊢;rw[ht] at hS5 ⊢;exact sP g v _ hS5 hM5 hG OE
  ·have h1:1<=t.length:=by
    cases hT with
    |leaf h=>have:=(au.1 h).1;omega
    |node _ h _ _=>have:=(au.1 h).1;omega
   rw[show(t.length:Int)-1=((t.length-1:Nat):Int) from jO];exact sQ gy hml hT g v _ (by rw[HL.out,gl.out];omega) hS5 hM5 hG OE
 subst hA1 sM;refine HC.mono ?_;rintro e w6 ⟨rfl,v6,h6,f6⟩;have HM6:=aT h6;have lL:=aT (tX.trans f6);clear h6 f6 hS5 hM5 U T Y HC tX HT5 cU b5 I;go_wp2_with fail;go_end0;exact⟨rfl,v6,HM6,lL⟩
theorem zh:(prog.info? 53).map (λi=>(i.zero,i.size,i.bytes))=some (some (.int .u32 0),1,4):=jK
theorem zg:(prog.info? 3).map (λi=>(i.zero,i.size,i.bytes))=some (some (.int .i64 0),1,8):=jK
theorem Ys{P:Program}(w:World){o:Oper}{a:Act}{K:Act->World->Prop}{Q:Exit->Act->World->Prop}(s x:Operand)(t:TypeId)
 (ho:o.op=.call {callee:=.builtin .append,args:=#[s,x],argTypes:=#[t,t]})
 (base:Nat) (e:TypeId) (i:TypeInfo) (z:Value) (size bytes:Nat) (ht:P.underlying t=some (.slice e)) (hi:P.info? e=some i) (hz:i.zero=some z)
 (D:i.size=size) (U:i.bytes=bytes) (Y:z.cells.size=size) (T:0<size)
 (v:Value) (n:Nat) (xs:List Value) (hs:a.eval s=v) (J:w.ownsRow base e size v n xs)
 (ad:Addr) (m c:Nat) (news:List Value) (hx:a.eval x=.slice (some ad) m c) (hl:news.length=m*size) (C:∀j u,news[j]? =some u->w.cell? (ad.add j)=some u) (h1:∀u∈news,u.oneCell'=true)
 (Z:n+m<=maxLen) (A:(n+m)*bytes<=140737488355328) (I:base<=w.heap.size)
 (h:∀v' w',w'.ownsRow base e size v' (n+m) (xs++news)->w.grownBy w' v.ownBlock->K (a.put o.dst v') w'):Oper.wp P o a w K Q:=by
 obtain⟨v',w',hr,h2,h3,_,_⟩:=run_append_own (P:=P) w base t o.type e i z size bytes ht hi hz D U Y T v n xs J ad m c news hl C h1 Z A I;unfold Oper.wp execOp;simp only[ho,resolve,invoke,builtin,Sem.run_bind,Sem.run_pure,asa,List.map_toArray,aec,apb,hs,hx,hr];exact h v' w' h2 h3
theorem Zf {B e n:Nat}{u:Value} (hu:W.ownsRow B e s u n xs)(A:W.grownBy W' u.ownBlock){k:Nat}{cs:Array Value}(hk:Z7 W k t cs)(ht:e≠t):Z7 W' k t cs:=
 hk.kept A (λe2=>YT hu hk ht e2.symm)
theorem Xs {B e n e2 s2 n2:Nat}{u u2:Value}{xs2:List Value}(hu:W.ownsRow B e s u n xs)(D:W.grownBy W' u.ownBlock)(C:W.ownsRow B2 e2 s2 u2 n2 xs2)(ht:e≠e2):W'.ownsRow B2 e2 s2 u2 n2 xs2:=by
 refine C.kept D ?_;rcases C.2 with⟨rfl,_⟩|⟨k,cap,A,rfl,_,hk,_⟩;·exact .inl rfl
 ·exact .inr (λe3=>YT hu (show Z7 W k e2 A from hk) ht e3.symm)
theorem OC{v:Value}{g:G}{B e n:Nat}{u:Value} (A:Zl LO M Bm W v g)(hu:W.ownsRow B e s u n xs)(C:W.grownBy W' u.ownBlock)(D:e≠Fx)(J:e≠Wk):Zl LO M Bm W' v g:=by
 refine⟨Zf hu C A.blk D,Xs hu C A.own J,A.map.kept C (λe2=> ?_),A.lo⟩;rcases hu.2 with⟨rfl,_⟩|⟨k,cap,I,rfl,_,hk,_⟩
 ·cases e2
 ·have e3:Bm=k:=ax e2;subst e3;obtain⟨es,T,hb,_⟩:=A.map;have:=hb.symm.trans hk;injection this with this;cases this
theorem OB{B e n:Nat}{u:Value} (hF:Yh LO M Bm w W)(hu:W.ownsRow B e s u n xs)(D:W.grownBy W' u.ownBlock)(T:w.heap.size<=B)(C:LO<=w.heap.size):Yh LO M Bm w W':=by
 have hb:∀k,u.ownBlock=some k->B<=k:=λk e=>(hu.lt k e).1
 refine⟨hF.1.grown D (aO C hF.2.1) (λk e=>aO C (aO T (hb k e))),aO hF.2.1 D.size,λk o hk J I U=> ?_⟩;have A:=hF.2.2 k o hk J I U;refine(D.block k (aaa.1 A).1 (λe=> ?_)).trans A;have:=hb k e.symm;have:=(aaa.1 hk).1;omega
theorem Yg(W:World)(B e s:Nat):W.ownsRow B e s (.slice none 0 0) 0 []:=⟨jS,.inl ⟨rfl,rfl⟩⟩
end Go.Proofs.YtclgigmgbebhgaaGreatDoor
namespace Go.Proofs.YtclgigmgbebhgaaGreatDoor
open Tryz
open Go Go.Proofs Go.RowKit Go.Maps Go.WideMaps Go.ChangeMaps
theorem xh{g:G}(h:Wj g){d c:Nat}(hd:look g.b d≠0):look (g.goes c).b d=look g.b d:=by
 unfold G.goes;split;·rename_i A;show look (g.b++[(c,g.n+1)]) d=_;rw[R1 _ _ _ _ A (λp hp=>(h.Fw p hp).2),aN (λe=>hd (by rw[<-e];exact A))]
 ·rfl
theorem xg{g:G}(h:Wj g)(c:Nat):look (g.goes c).b c≠0:=by
 unfold G.goes;split;·rename_i A;show look (g.b++[(c,g.n+1)]) c≠0;rw[R1 _ _ _ _ A (λp hp=>(h.Fw p hp).2),aG rfl];exact aqg _
 ·assumption
theorem RT:∀(a b:List (Nat×Nat)) (g:G),Zx (a++b) g=Zx b (Zx a g)
 |[],_,_=>rfl
 |p::a,b,g=>RT a b (g.goes p.2)
theorem OA{l:List (Nat×Nat)}{i:Nat}{p:Nat×Nat}(h:l[i]? =some p)(g:G):Zx (l.take (i+1)) g=(Zx (l.take i) g).goes p.2:=by
 rw[afb,h,RT];rfl
def VI(l:List Nat):List Value:=l.flatMap λn:Nat=>[Value.int .u32 n]
theorem IU(a b:List Nat):VI (a++b)=VI a++VI b:=by unfold VI;rw[acb]
theorem IQ(a b:List Nat):UN (a++b)=UN a++UN b:=by unfold UN;rw[acb]
theorem IP{W:World}{B n c:Nat}{ad:Option Addr}{l:List Nat}(hn:l.length=n)(h:W.ownsRow B 53 1 (.slice ad n c) n (VI l)):T6 W.heap.size W ad l:=λk x hk=>by
 obtain⟨g,e,_,hc⟩:=Ye (λn:Nat=>[Value.int .u32 n]) 1 (λ_=>rfl) hn h hk;have A:=hc 0 jD;simp only[aqd,aeb,aL] at A;exact⟨g,0,e,afe _ _ A,by rw[aca];exact A⟩
structure cT(LO M Bm:Nat)(w0 W:World)(v:Value)(g:G)(i:Nat)(va:Value)(xs:List Nat)(vb:Value)(ys:List Nat):Prop where
 Xg:Zl LO M Bm W v g
 fr:Yh LO M Bm w0 W
 rn:W.ownsRow w0.heap.size 53 1 va i (VI xs)
 rm:W.ownsRow w0.heap.size 3 1 vb i (UN ys)
section
variable {LO M Bm:Nat} {w0 W:World} {v:Value} {g:G} {i:Nat} {va:Value} {xs:List Nat} {vb:Value} {ys:List Nat}
theorem Yh.Gq(h:Yh LO M Bm w0 W)(A:LO<=w0.heap.size)(o:Obj):Yh LO M Bm w0 (W.alloc o):=h.trans (Yh.alloc o (aO A h.2.1))
end
structure Yr(LO M Bm B1 k code:Nat)(w0 W:World)(v:Value)(g:G)(na:Nat)(va:Value)(xs:List Value)(nb:Nat)(vb:Value)(ys:List Value)(pa:Option Nat)(pb:Option (Nat×Value)):Prop where
 Xg:Zl LO M Bm W v g
 fr:Yh LO M Bm w0 W
 rn:W.ownsRow w0.heap.size 53 1 va na xs
 rm:W.ownsRow w0.heap.size 3 1 vb nb ys
 bx:Z7 W B1 123 #[.int .u32 k,.int .u32 code]
 ta:∀b,pa=some b->Z7 W b 53 #[.int .u32 k]
 tb:∀b u,pb=some (b,u)->Z7 W b 3 #[u]/\u.oneCell'=true
 lo:LO<=w0.heap.size
section
variable {LO M Bm B1 k code:Nat} {w0 W:World} {v:Value} {g:G} {na:Nat} {va:Value} {xs:List Value} {nb:Nat} {vb:Value} {ys:List Value} {pa:Option Nat} {pb:Option (Nat×Value)}
theorem Yr.S(h:Yr LO M Bm B1 k code w0 W v g na va xs nb vb ys pa pb):W.cell? ⟨B1,0,none⟩=some (.int .u32 k)/\W.cell? ⟨B1,1,none⟩=some (.int .u32 code):=⟨by simpa using h.bx.cell 0,by simpa using h.bx.cell 1⟩
theorem Yr.drew(h:Yr LO M Bm B1 k code w0 W v g na va xs nb vb ys pa pb):Yr LO M Bm B1 k code w0 W.drew v g na va xs nb vb ys pa pb:=⟨h.Xg.drew,h.fr.drew,h.rn.drew,h.rm.drew,h.bx,h.ta,h.tb,h.lo⟩
theorem Yr.V9(h:Yr LO M Bm B1 k code w0 W v g na va xs nb vb ys none pb):Yr LO M Bm B1 k code w0 (W.alloc (.cells #[.int .u32 k] 53)) v g na va xs nb vb ys (some W.heap.size) pb:=
 ⟨h.Xg.al _,h.fr.Gq h.lo _,h.rn.alloc _,h.rm.alloc _,h.bx.alloc _,λb e=>(by cases e;exact Z7.new W _ _),λb u e=>⟨(h.tb b u e).1.alloc _,(h.tb b u e).2⟩,h.lo⟩
theorem Yr.Xk{u:Int}(h:Yr LO M Bm B1 k code w0 W v g na va xs nb vb ys pa none):Yr LO M Bm B1 k code w0 (W.alloc (.cells #[.int .i64 u] 3)) v g na va xs nb vb ys pa (some (W.heap.size,.int .i64 u)):=
 ⟨h.Xg.al _,h.fr.Gq h.lo _,h.rn.alloc _,h.rm.alloc _,h.bx.alloc _,λb e=>(h.ta b e).alloc _,λb u e=>(by cases e;exact⟨Z7.new W _ _,rfl⟩),h.lo⟩
theorem Yr.goes(h:Yr LO M Bm B1 k code w0 W v g na va xs nb vb ys pa pb)(D:Wj g)(hc:code<4294967296)(hn:(g.goes code).n<=1000000):
 Calls prog 50 #[.pointer (some ⟨M,0,none⟩),.int .u32 code] W λe w'=>e=.returned (.int .i64 ((look (g.goes code).b code:Nat):Int))/\Yr LO M Bm B1 k code w0 w' v (g.goes code) na va xs nb vb ys pa pb:=by
 refine(Uc W h.Xg D hc hn (aO h.lo h.fr.2.1)).mono ?_;rintro e w' ⟨rfl,C,A⟩;exact⟨rfl,C,h.fr.trans A,A.T3 h.Xg h.rn jD jD,A.T3 h.Xg h.rm jD jD,A.YC h.Xg h.bx jD jD,λb e=>A.YC h.Xg (h.ta b e) jD jD,λb u e=>⟨A.YC h.Xg (h.tb b u e).1 jD jD,(h.tb b u e).2⟩,h.lo⟩
theorem Yr.Zp{ops:Array Oper}{o:Oper}{a:Act}{K:Act->World->Prop}{Q:Exit->Act->World->Prop}{E:Prop}{b:Nat}(h:Yr LO M Bm B1 k code w0 W v g na va xs nb vb ys (some b) pb)(D:o.guard=none)(s x:Operand)
 (ho:o.op=.call {callee:=.builtin .append,args:=#[s,x],argTypes:=#[100,100]}) (hs:a.eval s=va) (hx:a.eval x=.slice (some ⟨b,0,none⟩) 1 1) (U:na<=4096)
 (Y:∀gb cap w',Yr LO M Bm B1 k code w0 w' v g (na+1) (.slice (some ⟨gb,0,none⟩) (na+1) cap) (xs++[.int .u32 k]) nb vb ys none pb->K (a.put o.dst (.slice (some ⟨gb,0,none⟩) (na+1) cap)) w'):
 if Region.wanted o (yielded ops a.tmps)=true then Oper.wp prog o a W K Q else E:=by
 obtain⟨Z,hi,T,J,I⟩:=ZP zh;refine step_append_lies W D s x 100 ho w0.heap.size 53 Z (.int .u32 0) 1 4 underlying100 hi T J I rfl jD va na xs hs h.rn ⟨b,0,none⟩ 1 1 [.int .u32 k] hx rfl ?_ ?_ jD (by unfold maxLen;omega) jO h.fr.2.1 _ rfl ?_;·exact World.news_of_block (h.ta b rfl)
 ·intro u hu;rw[aac.1 hu];rfl
 ·intro gb cap w' C A _ _;exact Y gb cap w' ⟨OC h.Xg h.rn A jD jD,OB h.fr h.rn A (aR _) h.lo,C,Xs h.rn A h.rm jD,Zf h.rn A h.bx jD,λb e=>(by cases e),λb u e=>⟨Zf h.rn A (h.tb b u e).1 jD,(h.tb b u e).2⟩,h.lo⟩
theorem Yr.ag8{ops:Array Oper}{o:Oper}{a:Act}{K:Act->World->Prop}{Q:Exit->Act->World->Prop}{E:Prop}{b:Nat}{u:Value}(h:Yr LO M Bm B1 k code w0 W v g na va xs nb vb ys pa (some (b,u)))(D:o.guard=none)(s x:Operand)
 (ho:o.op=.call {callee:=.builtin .append,args:=#[s,x],argTypes:=#[94,94]}) (hs:a.eval s=vb) (hx:a.eval x=.slice (some ⟨b,0,none⟩) 1 1) (U:nb<=4096)
 (Y:∀gb cap w',Yr LO M Bm B1 k code w0 w' v g na va xs (nb+1) (.slice (some ⟨gb,0,none⟩) (nb+1) cap) (ys++[u]) pa none->K (a.put o.dst (.slice (some ⟨gb,0,none⟩) (nb+1) cap)) w'):
 if Region.wanted o (yielded ops a.tmps)=true then Oper.wp prog o a W K Q else E:=by
 obtain⟨Z,hi,T,J,I⟩:=ZP zg;refine step_append_lies W D s x 94 ho w0.heap.size 3 Z (.int .i64 0) 1 8 underlying94 hi T J I rfl jD vb nb ys hs h.rm ⟨b,0,none⟩ 1 1 [u] hx rfl ?_ ?_ jD (by unfold maxLen;omega) jO h.fr.2.1 _ rfl ?_;·exact World.news_of_block (h.tb b u rfl).1
 ·intro x hu;rw[aac.1 hu];exact(h.tb b u rfl).2
 ·intro gb cap w' C A _ _;exact Y gb cap w' ⟨OC h.Xg h.rm A jD jD,OB h.fr h.rm A (aR _) h.lo,Xs h.rm A h.rn jD,C,Zf h.rm A h.bx jD,λb e=>Zf h.rm A (h.ta b e) jD,λb u e=>(by cases e),h.lo⟩
end
theorem xe{l:List (Nat×Nat)}{ys:List Nat}{f:Nat->Nat}(hl:ys.length=l.length)(h:∀(j:Nat) (q:Nat×Nat) (y:Nat),l[j]? =some q->ys[j]? =some y->f q.2=y):Vl (l.map (·.1)) ys 0=l.map λp=>(p.1,f p.2):=by
 unfold Vl;rw[aug];apply agd;intro j;rw[ada];cases A:l[j]? with
 |none=>
  rw[ahe];·rfl
  ·rw[List.length_zip,aad,hl,Nat.min_self];exact List.getElem?_eq_none_iff.1 A
 |some q=>
  have C:=(au.1 A).1;obtain⟨y,hy⟩:∃y,ys[j]? =some y:=⟨_,aM jO⟩;have e:(List.zip (l.map (·.1)) ys)[j]? =some (q.1,y):=List.getElem?_zip_eq_some.2 ⟨by rw[ada,A];rfl,hy⟩;rw[e];show some (q.1,y)=some (q.1,f q.2);rw[h j q y A hy]
theorem Ed{LO M Bm N ow:Nat}{v va:Value}{g:G}(l:List (Nat×Nat))(Xl:l.length<=4000)(hr:l.Pairwise (λa b=>a.1<b.1))(lJ:∀p∈l,p.2<4294967296)(w:World)(h:Zl LO M Bm w v g)(hg:Wj g)(hG:GB (WK ow l g))(hm:VK N w va l)(hN:N<=LO)(J:LO<=w.heap.size):
 Calls prog 170 #[.pointer (some ⟨M,0,none⟩),va,.int .i64 ow] w λe w'=>e=.returned (.tuple #[])/\∃v',Zl LO M Bm w' v' (WK ow l g)/\Yh LO M Bm w w'/\Wj (WK ow l g):=by
 have Cj:=hm;obtain⟨aa,ac,rfl,hzz⟩:=Cj;clear hzz;obtain⟨L,hL⟩:=jX l.length;rw[hL] at Xl ⊢;obtain⟨g1,hg1⟩:=jX (g.put [ins 0x20 16 0 0]);obtain⟨gE,C⟩:=jX (Zx l g1);have hsg:WK ow l g=ZH ow (l.map λp=>(p.1,look gE.b p.2)) gE:=by unfold WK;rw[hg1,C]
 have cR:Wj g1:=by rw[<-hg1];exact hg.put _
 have sL:Wj (WK ow l g):=by rw[hsg,<-C];exact UO ow _ _ _ (aR _) (MO l _ cR lJ)
 have hbE:GB gE:=by rw[hsg] at hG;exact hG.back (WX ow _ _ _ (aR _))
 have hb1:GB g1:=by rw[<-C] at hbE;exact hbE.back (TF l g1)
 have JB:g.l.length+1<=1000000:=by
  have h1:=hb1.1;rw[<-hg1] at h1;have e:(g.put [ins 0x20 16 0 0]).l.length=g.l.length+1:=by show(g.l++_).length=_;rw[ay];rfl
  omega
 have HL:=aT hL;have HM:=aT hm;have HR:=aT hr;have HCD:=aT lJ;have HG:=aT hG;have lM:=aT hg1;have gj:=aT C;have HSG:=aT hsg;have HBE:=aT hbE;have HH:=aT h;have nr:=aT cR;have cQ:=aT sL;clear hL hm hr lJ hG hg1 C hsg hbE hb1 h hg cR sL;go_enter func170,ntmps170;go_wp2_with fail;refine(zn 0 jD w).mono ?_;rintro e w1 ⟨rfl,rfl⟩
 go_wp2_with (refine Great.wpList_buildSliceTo rfl 79 Wk 1 _ rfl _ rfl _ rfl underlying79 #[.int .i64 0,.int .u16 32,.int .u32 16,.int .i64 0,.int .i64 0] jK ?_)
 refine(Y0 (xs:=[ins 0x20 16 0 0]) w1 HH.out rfl rfl JB J).mono ?_;rintro e w2 ⟨rfl,v2,h2,f2⟩;rw[lM.out] at h2;have LR:=aT h2;have OH:=aT f2;clear h2 f2 HH;go_upto_region 5 with fail;go_loopg [8,9,24] (L+1) (λgg vn vm iv wr=>∃(i:Nat) (v':Value) (g':G) (ys:List Nat),i<=L/\L-i<gg/\iv=.int .i64 (i:Int)/\Hid (cT LO M Bm w1 wr v' g' i vn ((l.take i).map (·.1)) vm ys)/\Hid (Wj g')/\Hid (g'=Zx (l.take i) g1)/\Hid (ys.length=i/\∀(j:Nat) (q:Nat×Nat) (y:Nat),l[j]? =some q->ys[j]? =some y->look g'.b q.2=y/\y≠0));case atStart=>exact⟨0,v2,g1,[],abc _,jO,rfl,⟨LR.out,OH.out,Yg _ _ _ _,Yg _ _ _ _⟩,nr,rfl,rfl,λj q y _ h=>by simp at h⟩
 case round=>
  obtain⟨i,v',g',ys,zm,VP,rfl,A,I,lI,HYS⟩:=hrel;have i0:=jZ i;by_cases hlt:i<L
  ·have Y8:(i:Int)<(L:Int):=by omega
   obtain⟨p,hp⟩:∃p,l[i]? =some p:=⟨_,aM (by rw[HL.out];exact hlt)⟩;obtain⟨a2,c2,e2,hrow⟩:=HM.out;injection e2 with e3 _ e4;subst e3 e4;obtain⟨gb,off,rfl,U7,e0,e1⟩:=hrow i p hp;have y0:=ZY A.out.fr.1 hN U7 e0;have y1:=ZY A.out.fr.1 hN U7 e1;obtain⟨k,code⟩:=p;have D:=HCD.out _ (af hp);dsimp only at D y0 y1;have BS:LO<=wr.heap.size:=aO J A.out.fr.2.1;have HP:=aT hp;clear hrow e0 e1 hp;obtain⟨na,nc,rfl⟩:=ZI A.out.rn;obtain⟨ma,mc,rfl⟩:=ZI A.out.rm;have hnn:(g'.goes code).n<=1000000:=by
    have h1:=HBE.out;have e1:Zx (l.drop (i+1)) (g'.goes code)=gE:=by rw[lI.out,<-OA HP.out,<-RT,aod,gj.out]
    rw[<-e1] at h1;exact aO (h1.back (TF _ _)).2 jD
   have hBx:=Z7.new wr 123 #[.int .u32 k,.int .u32 code]
   have Uj:Hid (Yr LO M Bm wr.heap.size k code w1 (wr.alloc (.cells #[.int .u32 k,.int .u32 code] 123)) v' g' i (.slice na i nc) (VI ((l.take i).map (·.1))) i (.slice ma i mc) (UN ys) none none):=
    ⟨A.out.Xg.al _,A.out.fr.Gq J _,A.out.rn.alloc _,A.out.rm.alloc _,hBx,λb e=>(by cases e),λb u e=>(by cases e),J⟩
   clear hBx A;go_upto_region 7 with fail;clear y0 y1;generalize wr.alloc (.cells #[.int .u32 k,.int .u32 code] 123)=wa at*;generalize wr.heap.size=B1 at*;have tW:=aT Uj.out.drew;have Jt:=aT Uj.out.V9.drew
   go_region_held_law (λw'=>w'.cell? ⟨B1,0,none⟩=some (.int .u32 k)/\w'.cell? ⟨B1,1,none⟩=some (.int .u32 code)) (exact Yr.S (ajc (by (first|assumption|exact tW|exact Jt|exact aT (Yr.V9 (ajc jA))|exact aT (Yr.Xk (ajc jA))|exact aT (Yr.V9 (Yr.Xk (ajc jA)))|exact aT (Yr.Xk (Yr.V9 (ajc jA))))))) (first
    |(refine Yr.Zp (ajc (by (first|assumption|exact tW|exact Jt|exact aT (Yr.V9 (ajc jA))|exact aT (Yr.Xk (ajc jA))|exact aT (Yr.V9 (Yr.Xk (ajc jA)))|exact aT (Yr.Xk (Yr.V9 (ajc jA)))))) rfl _ _ rfl rfl rfl jO ?_;intro gb2 ag9 w8 h8;have Z:=aT h8;clear h8)
    |(refine Yr.ag8 (ajc (by (first|assumption|exact tW|exact Jt|exact aT (Yr.V9 (ajc jA))|exact aT (Yr.Xk (ajc jA))|exact aT (Yr.V9 (Yr.Xk (ajc jA)))|exact aT (Yr.Xk (Yr.V9 (ajc jA)))))) rfl _ _ rfl rfl rfl jO ?_;intro gb2 ag9 w8 h8;have Z:=aT h8;clear h8)
    |(go_at_call 50;refine(Yr.goes (ajc (by (first|assumption|exact tW|exact Jt|exact aT (Yr.V9 (ajc jA))|exact aT (Yr.Xk (ajc jA))|exact aT (Yr.V9 (Yr.Xk (ajc jA)))|exact aT (Yr.Xk (Yr.V9 (ajc jA)))))) I.out D hnn).mono ?_;rintro e w7 ⟨rfl,h7⟩;have LN:=aT h7;clear h7))
   have HX:Hid (VI ((l.take (i+1)).map (·.1))=VI ((l.take i).map (·.1))++[.int .u32 k]):=by show _=_;rw[afb,HP.out,acf,IU];rfl
   have xd:Hid (UN (ys++[look (g'.goes code).b code])=UN ys++[.int .i64 ((look (g'.goes code).b code:Nat):Int)]):=IQ _ _;have cP:Hid (g'.goes code=Zx (l.take (i+1)) g1):=by show _=_;rw[OA HP.out,<-lI.out]
   have at3:Hid ((ys++[look (g'.goes code).b code]).length=i+1/\∀(j:Nat) (q:Nat×Nat) (y:Nat),l[j]? =some q->(ys++[look (g'.goes code).b code])[j]? =some y->look (g'.goes code).b q.2=y/\y≠0):=by
    obtain⟨h1,h2⟩:=HYS.out;refine⟨by rw[ay,h1];rfl,λj q y hq hy=> ?_⟩;by_cases hj:j<i;·rw[abb jO] at hy;obtain⟨h3,h4⟩:=h2 j q y hq hy;exact⟨by rw[xh I.out (by rw[h3];exact h4)];exact h3,h4⟩
    ·have cO:j=i:=by
      have:=(au.1 hy).1;rw[ay,h1] at this;simp at this;omega
     subst cO;rw[HP.out] at hq;cases hq;rw[aae jO,h1,alb] at hy;cases hy;exact⟨rfl,xg I.out code⟩
   have iw:=jW i;have Jv:=aT (I.out.goes D);go_wp2_with fail;go_roundg (L-i);case measure=>omega
   case rel=>exact⟨i+1,v',g'.goes code,ys++[look (g'.goes code).b code],jO,jO,by go_num,⟨Z.out.Xg,Z.out.fr,by rw[HX.out];exact Z.out.rn,by rw[xd.out];exact Z.out.rm⟩,Jv,cP,at3⟩
  ·obtain rfl:L=i:=by omega
   have Y8:¬(L:Int)<(L:Int):=jO;have C:g'=gE:=by rw[lI.out,abd (by rw[HL.out];exact aR _),gj.out]
   subst C;obtain⟨Vo,TD⟩:=HYS.out;have gi:=xe (l:=l) (ys:=ys) (f:=look g'.b) (by rw[HL.out];exact Vo) (λj q y h1 h2=>(TD j q y h1 h2).1);have U:=A.out.rn;have hrm:=Zd A.out.rm J;rw[abd (by rw[HL.out];exact aR _)] at U;obtain⟨na,nc,rfl⟩:=ZI U;obtain⟨ma,mc,rfl⟩:=ZI hrm;have lH:(l.map (·.1)).length=L:=by rw[aad,HL.out]
   have Y:=Lt U;have BS:LO<=wr.heap.size:=aO J A.out.fr.2.1;have T:=aT (KS (ow:=ow) (ms:=ys) (l:=l.map (·.1)) lH jO (aeg.2 HR.out) Vo wr A.out.Xg (IP lH U) Y.1 Y.2 (aR _) (by rw[Vo];exact hrm) (by rw[gi,<-HSG.out];exact HG.out) BS);have HZ:=aT gi;have HFc:=aT A.out.fr;clear Vo TD gi U hrm Y A;go_wp2_with fail;refine T.out.mono ?_;rintro e w5 ⟨rfl,v5,h5,f5⟩;rw[HZ.out,<-HSG.out] at h5;have HM5:=aT h5;have tX:=aT (HFc.out.trans f5);clear h5 f5 T;go_wp2_with fail;go_end0;exact⟨rfl,v5,HM5.out,tX.out,cQ.out⟩
end Go.Proofs.YtclgigmgbebhgaaGreatDoor
namespace Go.Proofs.YtclgigmgbebhgaaGreatDoor
open Tryz
open Go Go.Proofs Go.RowKit Go.Sort Go.Shelf
variable {α:Type} [Inhabited α]
theorem KR{enc:α->List Value}{k:Nat}(hk:∀x,(enc x).length=k)(d:Array α){t:Nat}(ht:t<d.size*k):(d.toList.flatMap enc)[t]? =some (flatK enc k d)[t]! :=by
 have A:0<k:=by
  rcases Nat.eq_zero_or_pos k with h|h;·subst h;simp at ht
  ·exact h
 have hi:t/k<d.size:=(Nat.div_lt_iff_lt_mul A).2 ht;have hm:t%k<k:=awa _ A;rw[get_flatK enc k d t ht];have hx:d.toList[t/k]? =some d[t/k]! :=by rw[aff,aob hi,azc d _ hi]
 have h:=Gr enc k hk d.toList (t/k) _ hx (t%k) hm;rw[Nat.div_add_mod'] at h;rw[h];have hl:t%k<(enc d[t/k]!).length:=by rw[hk];exact hm
 rw[azc (enc d[t/k]!) _ hl,aM hl]
theorem BJ{enc:α->List Value}{k:Nat}(hk:∀x,(enc x).length=k){W:World}{base g e n cap:Nat}{l:List α}(hn:l.length=n)(h:W.ownsRow base e k (.slice (some ⟨g,0,none⟩) n cap) n (l.flatMap enc)):HoldsK enc k W g 0 l.toArray:=by
 intro j A;rw[size_flatK] at A;have C:j<n*k:=by simpa [hn] using A
 refine⟨?_,by rw[aca];exact h.frozenAt j⟩;rw[aca,h.cellAt j C];exact KR hk l.toArray (t:=j) (by simpa using A)
theorem KQ{enc:α->List Value}{k:Nat}(hk:∀x,(enc x).length=k){W:World}{base g e n cap:Nat}{xs:List Value}(h:W.ownsRow base e k (.slice (some ⟨g,0,none⟩) n cap) n xs)(m:Nat)(d':Array α)(hd:d'.size=n)(os:Array Obj):
 (sortWorldK enc k W g 0 m d' os).ownsRow base e k (.slice (some ⟨g,0,none⟩) n cap) n (d'.toList.flatMap enc)/\W.heap.size<=(sortWorldK enc k W g 0 m d' os).heap.size/\∀j o,W.heap[j]? =some o->j≠g->(sortWorldK enc k W g 0 m d' os).heap[j]? =some o:=by
 have hlen:(d'.toList.flatMap enc).length=n*k:=by
  have:∀l:List α,(l.flatMap enc).length=l.length*k:=by
   intro l
   induction l with
   |nil=>simp
   |cons x l U=>rw[acd,ay,U,hk,aj,arc];omega
  rw[this,ang,hd]
 have A:∀j,j<W.heap.size->(sortWorldK enc k W g 0 m d' os).heap[j]? =if g=j then(W.heap[j]?).map (onCells (putCells id 0 (flatK enc k d'))) else W.heap[j]? :=by intro j D;have e:(sortWorldK enc k W g 0 m d' os).heap=W.heap.modify g (onCells (putCells id 0 (flatK enc k d')))++os:=rfl;rw[e,Array.getElem?_append_left (by simpa using D),ake]
 refine⟨⟨hlen,?_⟩,size_sortWorldK_c enc k W g 0 m d' os,λj o D I=> ?_⟩
 ·rcases h.2 with⟨e1,_⟩|⟨Y,T,C,e1,e2,e3,e4,e5,J,Z⟩
  ·cases e1
  ·cases e1;refine .inr ⟨g,cap,putCells id 0 (flatK enc k d') C,rfl,e2,?_,e4,e5,by unfold putCells;rw[Array.size_mapIdx,J],?_⟩;·rw[A g (aaa.1 e3).1,aG rfl,e3];rfl
   ·apply agd;intro t;rw[aie];by_cases ht:t<n*k
    ·rw[aG ht,KR hk d' (by rw[hd];exact ht),aff]
     have hc:t<C.size:=by rw[J];exact adf ht (aue k e4)
     unfold putCells;rw[Array.getElem?_mapIdx,aob hc];simp only[avf,abc,true_and,aca,size_flatK,hd,Nat.sub_zero,id_eq];rw[aG ht]
    ·rw[aN ht,ahe (by rw[hlen];omega)]
 ·rw[A j (aaa.1 D).1,aN (ana I),D]
theorem IM{d d':Array α}(h:PermIn 0 d.size d d'):d'.toList.Perm d.toList:=by
 obtain⟨C,_,A⟩:=h;have e1:d'.extract 0 d.size=d':=by rw[<-C];simp
 have e2:d.extract 0 d.size=d:=jS;rw[e1,e2] at A;exact A
theorem Ec{lt:α->α->Bool}{d:Array α}(h:SortedIn lt 0 d.size d):d.toList.Pairwise (λa b=>lt b a=false):=by
 rw[amb];intro i j hi C A;have:=h i j (abc _) A (by simpa using C);rw[azc d i (by simpa using hi),azc d j (by simpa using C)] at this;simpa using this
theorem Gn{enc:α->List Value}{k:Nat}(hk:∀x,(enc x).length=k){W:World}{base g e n cap:Nat}{xs:List Value}(h:W.ownsRow base e k (.slice (some ⟨g,0,none⟩) n cap) n xs)(m:Nat)(d':Array α)(hd:d'.size=n)(os:Array Obj):RowKit.Below base W (sortWorldK enc k W g 0 m d' os):=by
 obtain⟨_,hs,hf⟩:=KQ hk h m d' hd os;refine⟨rfl,rfl,rfl,hs,λj I=> ?_⟩;rcases h.2 with⟨e1,_⟩|⟨D,A,C,e1,e2,e3,_⟩
 ·cases e1
 ·cases e1;have hl:=(aaa.1 e3).1;obtain⟨o,ho⟩:∃o,W.heap[j]? =some o:=⟨_,aob jO⟩;rw[hf j o ho jO,ho]
theorem Oz{P:Program}{ρ:Ren}(L:SlLaysF0.n6 P ρ)(k:Nat)(aE:∀w,(isAgg (ρ.t 24)).run P w=.ok true w)(zE:∀w,(Go.sizeOf (ρ.t 24)).run P w=.ok k w)(enc:α->List Value)(hk:∀x,(enc x).length=k)(h1:∀x,∀v∈enc x,v.oneCell'=true)(I:α->α->Int)(hO:SWO (ltOf I))(g:Nat)(cb:Array Value)
 (eg:∀args w,(callFunc g args).run P w=.ok (.enter g args) w) (C:∀x y W,Calls P g (#[.agg (enc x).toArray,.agg (enc y).toArray]++cb) W λe w'=>e=.returned (.int .i64 (I x y))/\∃q J,w'=grow (W.drewN q) J)
 {base e n:Nat} {v:Value} {d:List α} (w:World) (hn:d.length=n) (A:w.ownsRow base e k v n (d.flatMap enc)) (hsz:n<=1000000):
 Calls P (ρ.f 6) #[v,.func (.func g) #[] cb] w λT w'=>T=.returned (.tuple #[])/\∃d':List α,d'.Perm d/\d'.Pairwise (λa b=>ltOf I b a=false)/\w'.ownsRow base e k v n (d'.flatMap enc)/\RowKit.Below base w w'/\w.heap.size<=w'.heap.size/\∀j o,w.heap[j]? =some o->v.ownBlock≠some j->w'.heap[j]? =some o:=by
 rcases A.2 with⟨rfl,rfl⟩|⟨b,cap,Z,rfl,h2,h3,_⟩
 ·obtain rfl:d=[]:=ahf.1 hn;refine(AnyF.slices_SortFunc_none L none 0 (.func (.func g) #[] cb) w).mono ?_;rintro T w' ⟨rfl,h⟩
  first
   |(subst h;exact⟨rfl,[],axb _,List.Pairwise.nil,A,RowKit.Below.refl _ _,aR _,λj o h _=>h⟩)
   |(obtain⟨q,rfl⟩:=h;exact⟨rfl,[],axb _,List.Pairwise.nil,A,RowKit.Below.refl _ _,aR _,λj o h _=>h⟩)
 ·have hH:=BJ hk hn A;have h:=AnyQ.slices_SortFunc L k aE zE enc hk h1 I hO g cb b 0 cap d.toArray w eg (λm os dk _ x y=>C x y _) hH (aaa.1 h3).1 (by simp;omega);rw[show d.toArray.size=n by simpa using hn] at h;refine h.mono ?_;rintro T w' ⟨rfl,d',m,os,hp,hs,rfl⟩;rw[<-show d.toArray.size=n by simpa using hn] at hp hs;have D:d'.size=n:=hp.1.trans (by simpa using hn);obtain⟨Y,k2,k3⟩:=KQ hk A m d' D os;refine⟨rfl,d'.toList,IM hp,?_,Y,Gn hk A m d' D os,k2,λj o hj U=>k3 j o hj (λe=>U (by rw[e];rfl))⟩;refine Ec ?_;rw[hp.1];exact hs
end Go.Proofs.YtclgigmgbebhgaaGreatDoor
namespace Go.Proofs
open Tryz
open Go.Shelf
def Tryz.Gm:Go.Shelf.Ren:=⟨fun|6=>172|15=>97|14=>244|28=>154|29=>155|20=>315|21=>316|22=>317|23=>318|24=>319|25=>320|26=>321|27=>322|46=>346|47=>226|48=>227|49=>347|50=>348|57=>359|n=>n,fun|22=>216|24=>219|25=>289|3=>3|39=>107|0=>0|53=>53|55=>23|4=>4|46=>271|45=>270|50=>110|5=>5|9=>9|66=>334|70=>338|76=>384|77=>385|n=>n,fun|n=>n⟩
theorem Tryz.sK:Go.Proofs.SlLaysF0.n6 prog Tryz.Gm:={
 mixed:=by kernel_rfl
 f6:=⟨Tryz.f172.name,by decide,func172.trans (congrArg some (by kernel_rfl))⟩
 f14:=⟨Tryz.f244.name,by decide,func244.trans (congrArg some (by kernel_rfl))⟩
 f15:=func97.trans (congrArg some (by kernel_rfl))
 f20:=⟨Tryz.f315.name,by decide,func315.trans (congrArg some (by kernel_rfl))⟩
 f21:=⟨Tryz.f316.name,by decide,func316.trans (congrArg some (by kernel_rfl))⟩
 f22:=⟨Tryz.f317.name,by decide,func317.trans (congrArg some (by kernel_rfl))⟩
 f23:=⟨Tryz.f318.name,by decide,func318.trans (congrArg some (by kernel_rfl))⟩
 f24:=⟨Tryz.f319.name,by decide,func319.trans (congrArg some (by kernel_rfl))⟩
 f25:=⟨Tryz.f320.name,by decide,func320.trans (congrArg some (by kernel_rfl))⟩
 f26:=⟨Tryz.f321.name,by decide,func321.trans (congrArg some (by kernel_rfl))⟩
 f27:=⟨Tryz.f322.name,by decide,func322.trans (congrArg some (by kernel_rfl))⟩
 f28:=func154.trans (congrArg some (by kernel_rfl))
 f29:=func155.trans (congrArg some (by kernel_rfl))
 f46:=⟨Tryz.f346.name,by decide,func346.trans (congrArg some (by kernel_rfl))⟩
 f47:=func226.trans (congrArg some (by kernel_rfl))
 f48:=func227.trans (congrArg some (by kernel_rfl))
 f49:=⟨Tryz.f347.name,by decide,func347.trans (congrArg some (by kernel_rfl))⟩
 f50:=⟨Tryz.f348.name,by decide,func348.trans (congrArg some (by kernel_rfl))⟩
 f57:=⟨Tryz.f359.name,by decide,func359.trans (congrArg some (by kernel_rfl))⟩
 t0:=underlying0
 a0:=isAgg0
 z0:=sizeOf0
 v0:=zeroValue0
 t3:=underlying3
 a3:=isAgg3
 z3:=sizeOf3
 v3:=zeroValue3
 t4:=underlying4
 a4:=isAgg4
 z4:=sizeOf4
 v4:=zeroValue4
 t5:=underlying5
 a5:=isAgg5
 z5:=sizeOf5
 v5:=zeroValue5
 t9:=underlying9
 a9:=isAgg9
 z9:=sizeOf9
 v9:=zeroValue9
 t22:=underlying216
 a22:=isAgg216
 z22:=sizeOf216
 v22:=zeroValue216
 t25:=underlying289
 a25:=isAgg289
 z25:=sizeOf289
 v25:=zeroValue289
 t39:=underlying107
 a39:=isAgg107
 z39:=sizeOf107
 v39:=zeroValue107
 t45:=underlying270
 a45:=isAgg270
 z45:=sizeOf270
 v45:=zeroValue270
 t46:=underlying271
 a46:=isAgg271
 z46:=sizeOf271
 v46:=zeroValue271
 t50:=underlying110
 a50:=isAgg110
 z50:=sizeOf110
 v50:=zeroValue110
 t53:=underlying53
 a53:=isAgg53
 z53:=sizeOf53
 v53:=zeroValue53
 t55:=underlying23
 a55:=isAgg23
 z55:=sizeOf23
 v55:=zeroValue23
 t66:=underlying334
 a66:=isAgg334
 z66:=sizeOf334
 v66:=zeroValue334
 t70:=underlying338
 a70:=isAgg338
 z70:=sizeOf338
 v70:=zeroValue338
 t76:=underlying384
 a76:=isAgg384
 z76:=sizeOf384
 v76:=zeroValue384
 t77:=underlying385
 a77:=isAgg385
 z77:=sizeOf385
 v77:=zeroValue385}
def Tryz.Js:Go.Shelf.Ren:=⟨fun|6=>42|15=>97|14=>96|28=>154|29=>155|20=>146|21=>147|22=>148|23=>149|24=>150|25=>151|26=>152|27=>153|46=>225|47=>226|48=>227|49=>228|50=>229|57=>303|n=>n,fun|22=>73|24=>119|25=>129|3=>3|39=>107|0=>0|53=>53|55=>23|4=>4|46=>271|45=>270|50=>110|5=>5|9=>9|66=>334|70=>338|76=>384|77=>385|n=>n,fun|n=>n⟩
theorem Tryz.wZ:Go.Proofs.SlLaysF0.n6 prog Tryz.Js:={
 mixed:=by kernel_rfl
 f6:=⟨Tryz.f42.name,by decide,func42.trans (congrArg some (by kernel_rfl))⟩
 f14:=⟨Tryz.f96.name,by decide,func96.trans (congrArg some (by kernel_rfl))⟩
 f15:=func97.trans (congrArg some (by kernel_rfl))
 f20:=⟨Tryz.f146.name,by decide,func146.trans (congrArg some (by kernel_rfl))⟩
 f21:=⟨Tryz.f147.name,by decide,func147.trans (congrArg some (by kernel_rfl))⟩
 f22:=⟨Tryz.f148.name,by decide,func148.trans (congrArg some (by kernel_rfl))⟩
 f23:=⟨Tryz.f149.name,by decide,func149.trans (congrArg some (by kernel_rfl))⟩
 f24:=⟨Tryz.f150.name,by decide,func150.trans (congrArg some (by kernel_rfl))⟩
 f25:=⟨Tryz.f151.name,by decide,func151.trans (congrArg some (by kernel_rfl))⟩
 f26:=⟨Tryz.f152.name,by decide,func152.trans (congrArg some (by kernel_rfl))⟩
 f27:=⟨Tryz.f153.name,by decide,func153.trans (congrArg some (by kernel_rfl))⟩
 f28:=func154.trans (congrArg some (by kernel_rfl))
 f29:=func155.trans (congrArg some (by kernel_rfl))
 f46:=⟨Tryz.f225.name,by decide,func225.trans (congrArg some (by kernel_rfl))⟩
 f47:=func226.trans (congrArg some (by kernel_rfl))
 f48:=func227.trans (congrArg some (by kernel_rfl))
 f49:=⟨Tryz.f228.name,by decide,func228.trans (congrArg some (by kernel_rfl))⟩
 f50:=⟨Tryz.f229.name,by decide,func229.trans (congrArg some (by kernel_rfl))⟩
 f57:=⟨Tryz.f303.name,by decide,func303.trans (congrArg some (by kernel_rfl))⟩
 t0:=underlying0
 a0:=isAgg0
 z0:=sizeOf0
 v0:=zeroValue0
 t3:=underlying3
 a3:=isAgg3
 z3:=sizeOf3
 v3:=zeroValue3
 t4:=underlying4
 a4:=isAgg4
 z4:=sizeOf4
 v4:=zeroValue4
 t5:=underlying5
 a5:=isAgg5
 z5:=sizeOf5
 v5:=zeroValue5
 t9:=underlying9
 a9:=isAgg9
 z9:=sizeOf9
 v9:=zeroValue9
 t22:=underlying73
 a22:=isAgg73
 z22:=sizeOf73
 v22:=zeroValue73
 t25:=underlying129
 a25:=isAgg129
 z25:=sizeOf129
 v25:=zeroValue129
 t39:=underlying107
 a39:=isAgg107
 z39:=sizeOf107
 v39:=zeroValue107
 t45:=underlying270
 a45:=isAgg270
 z45:=sizeOf270
 v45:=zeroValue270
 t46:=underlying271
 a46:=isAgg271
 z46:=sizeOf271
 v46:=zeroValue271
 t50:=underlying110
 a50:=isAgg110
 z50:=sizeOf110
 v50:=zeroValue110
 t53:=underlying53
 a53:=isAgg53
 z53:=sizeOf53
 v53:=zeroValue53
 t55:=underlying23
 a55:=isAgg23
 z55:=sizeOf23
 v55:=zeroValue23
 t66:=underlying334
 a66:=isAgg334
 z66:=sizeOf334
 v66:=zeroValue334
 t70:=underlying338
 a70:=isAgg338
 z70:=sizeOf338
 v70:=zeroValue338
 t76:=underlying384
 a76:=isAgg384
 z76:=sizeOf384
 v76:=zeroValue384
 t77:=underlying385
 a77:=isAgg385
 z77:=sizeOf385
 v77:=zeroValue385}
def Tryz.Eb:Go.Shelf.Ren:=⟨fun|6=>45|15=>97|14=>99|28=>154|29=>155|20=>156|21=>157|22=>158|23=>159|24=>160|25=>161|26=>162|27=>163|46=>230|47=>226|48=>227|49=>231|50=>232|57=>304|n=>n,fun|22=>75|24=>123|25=>131|3=>3|39=>107|0=>0|53=>53|55=>23|4=>4|46=>271|45=>270|50=>110|5=>5|9=>9|66=>334|70=>338|76=>384|77=>385|n=>n,fun|n=>n⟩
theorem Tryz.lG:Go.Proofs.SlLaysF0.n6 prog Tryz.Eb:={
 mixed:=by kernel_rfl
 f6:=⟨Tryz.f45.name,by decide,func45.trans (congrArg some (by kernel_rfl))⟩
 f14:=⟨Tryz.f99.name,by decide,func99.trans (congrArg some (by kernel_rfl))⟩
 f15:=func97.trans (congrArg some (by kernel_rfl))
 f20:=⟨Tryz.f156.name,by decide,func156.trans (congrArg some (by kernel_rfl))⟩
 f21:=⟨Tryz.f157.name,by decide,func157.trans (congrArg some (by kernel_rfl))⟩
 f22:=⟨Tryz.f158.name,by decide,func158.trans (congrArg some (by kernel_rfl))⟩
 f23:=⟨Tryz.f159.name,by decide,func159.trans (congrArg some (by kernel_rfl))⟩
 f24:=⟨Tryz.f160.name,by decide,func160.trans (congrArg some (by kernel_rfl))⟩
 f25:=⟨Tryz.f161.name,by decide,func161.trans (congrArg some (by kernel_rfl))⟩
 f26:=⟨Tryz.f162.name,by decide,func162.trans (congrArg some (by kernel_rfl))⟩
 f27:=⟨Tryz.f163.name,by decide,func163.trans (congrArg some (by kernel_rfl))⟩
 f28:=func154.trans (congrArg some (by kernel_rfl))
 f29:=func155.trans (congrArg some (by kernel_rfl))
 f46:=⟨Tryz.f230.name,by decide,func230.trans (congrArg some (by kernel_rfl))⟩
 f47:=func226.trans (congrArg some (by kernel_rfl))
 f48:=func227.trans (congrArg some (by kernel_rfl))
 f49:=⟨Tryz.f231.name,by decide,func231.trans (congrArg some (by kernel_rfl))⟩
 f50:=⟨Tryz.f232.name,by decide,func232.trans (congrArg some (by kernel_rfl))⟩
 f57:=⟨Tryz.f304.name,by decide,func304.trans (congrArg some (by kernel_rfl))⟩
 t0:=underlying0
 a0:=isAgg0
 z0:=sizeOf0
 v0:=zeroValue0
 t3:=underlying3
 a3:=isAgg3
 z3:=sizeOf3
 v3:=zeroValue3
 t4:=underlying4
 a4:=isAgg4
 z4:=sizeOf4
 v4:=zeroValue4
 t5:=underlying5
 a5:=isAgg5
 z5:=sizeOf5
 v5:=zeroValue5
 t9:=underlying9
 a9:=isAgg9
 z9:=sizeOf9
 v9:=zeroValue9
 t22:=underlying75
 a22:=isAgg75
 z22:=sizeOf75
 v22:=zeroValue75
 t25:=underlying131
 a25:=isAgg131
 z25:=sizeOf131
 v25:=zeroValue131
 t39:=underlying107
 a39:=isAgg107
 z39:=sizeOf107
 v39:=zeroValue107
 t45:=underlying270
 a45:=isAgg270
 z45:=sizeOf270
 v45:=zeroValue270
 t46:=underlying271
 a46:=isAgg271
 z46:=sizeOf271
 v46:=zeroValue271
 t50:=underlying110
 a50:=isAgg110
 z50:=sizeOf110
 v50:=zeroValue110
 t53:=underlying53
 a53:=isAgg53
 z53:=sizeOf53
 v53:=zeroValue53
 t55:=underlying23
 a55:=isAgg23
 z55:=sizeOf23
 v55:=zeroValue23
 t66:=underlying334
 a66:=isAgg334
 z66:=sizeOf334
 v66:=zeroValue334
 t70:=underlying338
 a70:=isAgg338
 z70:=sizeOf338
 v70:=zeroValue338
 t76:=underlying384
 a76:=isAgg384
 z76:=sizeOf384
 v76:=zeroValue384
 t77:=underlying385
 a77:=isAgg385
 z77:=sizeOf385
 v77:=zeroValue385}
def Tryz.Gl:Go.Shelf.Ren:=⟨fun|6=>136|15=>97|14=>218|28=>154|29=>155|20=>292|21=>293|22=>294|23=>295|24=>296|25=>297|26=>298|27=>299|46=>341|47=>226|48=>227|49=>342|50=>343|57=>358|n=>n,fun|22=>89|24=>68|25=>263|3=>3|39=>107|0=>0|53=>53|55=>23|4=>4|46=>271|45=>270|50=>110|5=>5|9=>9|66=>334|70=>338|76=>384|77=>385|n=>n,fun|n=>n⟩
theorem Tryz.sJ:Go.Proofs.SlLaysF0.n6 prog Tryz.Gl:={
 mixed:=by kernel_rfl
 f6:=⟨Tryz.f136.name,by decide,func136.trans (congrArg some (by kernel_rfl))⟩
 f14:=⟨Tryz.f218.name,by decide,func218.trans (congrArg some (by kernel_rfl))⟩
 f15:=func97.trans (congrArg some (by kernel_rfl))
 f20:=⟨Tryz.f292.name,by decide,func292.trans (congrArg some (by kernel_rfl))⟩
 f21:=⟨Tryz.f293.name,by decide,func293.trans (congrArg some (by kernel_rfl))⟩
 f22:=⟨Tryz.f294.name,by decide,func294.trans (congrArg some (by kernel_rfl))⟩
 f23:=⟨Tryz.f295.name,by decide,func295.trans (congrArg some (by kernel_rfl))⟩
 f24:=⟨Tryz.f296.name,by decide,func296.trans (congrArg some (by kernel_rfl))⟩
 f25:=⟨Tryz.f297.name,by decide,func297.trans (congrArg some (by kernel_rfl))⟩
 f26:=⟨Tryz.f298.name,by decide,func298.trans (congrArg some (by kernel_rfl))⟩
 f27:=⟨Tryz.f299.name,by decide,func299.trans (congrArg some (by kernel_rfl))⟩
 f28:=func154.trans (congrArg some (by kernel_rfl))
 f29:=func155.trans (congrArg some (by kernel_rfl))
 f46:=⟨Tryz.f341.name,by decide,func341.trans (congrArg some (by kernel_rfl))⟩
 f47:=func226.trans (congrArg some (by kernel_rfl))
 f48:=func227.trans (congrArg some (by kernel_rfl))
 f49:=⟨Tryz.f342.name,by decide,func342.trans (congrArg some (by kernel_rfl))⟩
 f50:=⟨Tryz.f343.name,by decide,func343.trans (congrArg some (by kernel_rfl))⟩
 f57:=⟨Tryz.f358.name,by decide,func358.trans (congrArg some (by kernel_rfl))⟩
 t0:=underlying0
 a0:=isAgg0
 z0:=sizeOf0
 v0:=zeroValue0
 t3:=underlying3
 a3:=isAgg3
 z3:=sizeOf3
 v3:=zeroValue3
 t4:=underlying4
 a4:=isAgg4
 z4:=sizeOf4
 v4:=zeroValue4
 t5:=underlying5
 a5:=isAgg5
 z5:=sizeOf5
 v5:=zeroValue5
 t9:=underlying9
 a9:=isAgg9
 z9:=sizeOf9
 v9:=zeroValue9
 t22:=underlying89
 a22:=isAgg89
 z22:=sizeOf89
 v22:=zeroValue89
 t25:=underlying263
 a25:=isAgg263
 z25:=sizeOf263
 v25:=zeroValue263
 t39:=underlying107
 a39:=isAgg107
 z39:=sizeOf107
 v39:=zeroValue107
 t45:=underlying270
 a45:=isAgg270
 z45:=sizeOf270
 v45:=zeroValue270
 t46:=underlying271
 a46:=isAgg271
 z46:=sizeOf271
 v46:=zeroValue271
 t50:=underlying110
 a50:=isAgg110
 z50:=sizeOf110
 v50:=zeroValue110
 t53:=underlying53
 a53:=isAgg53
 z53:=sizeOf53
 v53:=zeroValue53
 t55:=underlying23
 a55:=isAgg23
 z55:=sizeOf23
 v55:=zeroValue23
 t66:=underlying334
 a66:=isAgg334
 z66:=sizeOf334
 v66:=zeroValue334
 t70:=underlying338
 a70:=isAgg338
 z70:=sizeOf338
 v70:=zeroValue338
 t76:=underlying384
 a76:=isAgg384
 z76:=sizeOf384
 v76:=zeroValue384
 t77:=underlying385
 a77:=isAgg385
 z77:=sizeOf385
 v77:=zeroValue385}
def Tryz.MN:Go.Shelf.Ren:=⟨fun|7=>52|10=>103|n=>n,fun|23=>140|26=>3|3=>3|28=>149|0=>0|27=>148|33=>215|4=>4|n=>n,fun|n=>n⟩
theorem Tryz.ze:Go.Proofs.SlLaysZI.n7 prog Tryz.MN:={
 mixed:=by kernel_rfl
 f7:=⟨Tryz.f52.name,by decide,func52.trans (congrArg some (by kernel_rfl))⟩
 f10:=⟨Tryz.f103.name,by decide,func103.trans (congrArg some (by kernel_rfl))⟩
 t0:=underlying0
 a0:=isAgg0
 z0:=sizeOf0
 v0:=zeroValue0
 t4:=underlying4
 a4:=isAgg4
 z4:=sizeOf4
 v4:=zeroValue4
 t23:=underlying140
 a23:=isAgg140
 z23:=sizeOf140
 v23:=zeroValue140
 t26:=underlying3
 a26:=isAgg3
 z26:=sizeOf3
 v26:=zeroValue3
 t27:=underlying148
 a27:=isAgg148
 z27:=sizeOf148
 v27:=zeroValue148
 t28:=underlying149
 a28:=isAgg149
 z28:=sizeOf149
 v28:=zeroValue149
 t33:=underlying215
 a33:=isAgg215
 z33:=sizeOf215
 v33:=zeroValue215}
def Tryz.PQ:Go.Shelf.Ren:=⟨fun|6=>51|8=>101|9=>102|11=>165|13=>97|12=>166|23=>154|24=>155|14=>233|15=>234|16=>235|17=>236|18=>237|19=>238|20=>239|21=>240|22=>241|25=>305|26=>226|27=>227|28=>306|29=>307|30=>300|31=>345|n=>n,fun|26=>3|28=>149|24=>94|0=>0|3=>3|37=>107|48=>53|50=>23|4=>4|40=>271|39=>270|45=>110|5=>5|9=>9|51=>334|55=>338|57=>384|58=>385|33=>215|n=>n,fun|n=>n⟩
theorem Tryz.wY:Go.Proofs.SlLaysZI.n6 prog Tryz.PQ:={
 mixed:=by kernel_rfl
 f6:=⟨Tryz.f51.name,by decide,func51.trans (congrArg some (by kernel_rfl))⟩
 f8:=⟨Tryz.f101.name,by decide,func101.trans (congrArg some (by kernel_rfl))⟩
 f11:=⟨Tryz.f165.name,by decide,func165.trans (congrArg some (by kernel_rfl))⟩
 t0:=underlying0
 a0:=isAgg0
 z0:=sizeOf0
 v0:=zeroValue0
 t24:=underlying94
 a24:=isAgg94
 z24:=sizeOf94
 v24:=zeroValue94
 t26:=underlying3
 a26:=isAgg3
 z26:=sizeOf3
 v26:=zeroValue3
 t28:=underlying149
 a28:=isAgg149
 z28:=sizeOf149
 v28:=zeroValue149
 i26:=by kernel_rfl}
def Tryz.Ea:Go.Shelf.Ren:=⟨fun|5=>102|8=>97|7=>166|19=>154|20=>155|10=>233|11=>234|12=>235|13=>236|14=>237|15=>238|16=>239|17=>240|18=>241|30=>305|31=>226|32=>227|33=>306|34=>307|35=>300|40=>345|n=>n,fun|23=>94|25=>3|3=>3|32=>107|22=>94|0=>0|44=>53|46=>23|4=>4|36=>271|35=>270|41=>110|5=>5|9=>9|53=>334|57=>338|63=>384|64=>385|n=>n,fun|n=>n⟩
theorem Tryz.sortInt:Go.Proofs.SlLaysM.n5 prog Tryz.Ea:={
 mixed:=by kernel_rfl
 f5:=⟨Tryz.f102.name,by decide,func102.trans (congrArg some (by kernel_rfl))⟩
 f7:=⟨Tryz.f166.name,by decide,func166.trans (congrArg some (by kernel_rfl))⟩
 f8:=func97.trans (congrArg some (by kernel_rfl))
 f10:=⟨Tryz.f233.name,by decide,func233.trans (congrArg some (by kernel_rfl))⟩
 f11:=⟨Tryz.f234.name,by decide,func234.trans (congrArg some (by kernel_rfl))⟩
 f12:=⟨Tryz.f235.name,by decide,func235.trans (congrArg some (by kernel_rfl))⟩
 f13:=⟨Tryz.f236.name,by decide,func236.trans (congrArg some (by kernel_rfl))⟩
 f14:=⟨Tryz.f237.name,by decide,func237.trans (congrArg some (by kernel_rfl))⟩
 f15:=⟨Tryz.f238.name,by decide,func238.trans (congrArg some (by kernel_rfl))⟩
 f16:=⟨Tryz.f239.name,by decide,func239.trans (congrArg some (by kernel_rfl))⟩
 f17:=⟨Tryz.f240.name,by decide,func240.trans (congrArg some (by kernel_rfl))⟩
 f18:=⟨Tryz.f241.name,by decide,func241.trans (congrArg some (by kernel_rfl))⟩
 f19:=func154.trans (congrArg some (by kernel_rfl))
 f20:=func155.trans (congrArg some (by kernel_rfl))
 f30:=⟨Tryz.f305.name,by decide,func305.trans (congrArg some (by kernel_rfl))⟩
 f31:=func226.trans (congrArg some (by kernel_rfl))
 f32:=func227.trans (congrArg some (by kernel_rfl))
 f33:=⟨Tryz.f306.name,by decide,func306.trans (congrArg some (by kernel_rfl))⟩
 f34:=⟨Tryz.f307.name,by decide,func307.trans (congrArg some (by kernel_rfl))⟩
 f35:=⟨Tryz.f300.name,by decide,func300.trans (congrArg some (by kernel_rfl))⟩
 f40:=⟨Tryz.f345.name,by decide,func345.trans (congrArg some (by kernel_rfl))⟩
 t0:=underlying0
 a0:=isAgg0
 z0:=sizeOf0
 v0:=zeroValue0
 t3:=underlying3
 a3:=isAgg3
 z3:=sizeOf3
 v3:=zeroValue3
 t4:=underlying4
 a4:=isAgg4
 z4:=sizeOf4
 v4:=zeroValue4
 t5:=underlying5
 a5:=isAgg5
 z5:=sizeOf5
 v5:=zeroValue5
 t9:=underlying9
 a9:=isAgg9
 z9:=sizeOf9
 v9:=zeroValue9
 t22:=underlying94
 a22:=isAgg94
 z22:=sizeOf94
 v22:=zeroValue94
 t23:=underlying94
 a23:=isAgg94
 z23:=sizeOf94
 v23:=zeroValue94
 t25:=underlying3
 a25:=isAgg3
 z25:=sizeOf3
 v25:=zeroValue3
 t32:=underlying107
 a32:=isAgg107
 z32:=sizeOf107
 v32:=zeroValue107
 t35:=underlying270
 a35:=isAgg270
 z35:=sizeOf270
 v35:=zeroValue270
 t36:=underlying271
 a36:=isAgg271
 z36:=sizeOf271
 v36:=zeroValue271
 t41:=underlying110
 a41:=isAgg110
 z41:=sizeOf110
 v41:=zeroValue110
 t44:=underlying53
 a44:=isAgg53
 z44:=sizeOf53
 v44:=zeroValue53
 t46:=underlying23
 a46:=isAgg23
 z46:=sizeOf23
 v46:=zeroValue23
 t53:=underlying334
 a53:=isAgg334
 z53:=sizeOf334
 v53:=zeroValue334
 t57:=underlying338
 a57:=isAgg338
 z57:=sizeOf338
 v57:=zeroValue338
 t63:=underlying384
 a63:=isAgg384
 z63:=sizeOf384
 v63:=zeroValue384
 t64:=underlying385
 a64:=isAgg385
 z64:=sizeOf385
 v64:=zeroValue385}
def Tryz.MM:Go.Shelf.Ren:=⟨fun|7=>89|10=>142|n=>n,fun|23=>191|26=>9|3=>49|28=>198|0=>0|27=>197|33=>252|4=>4|n=>n,fun|n=>n⟩
theorem Tryz.yZ:Go.Proofs.SlLaysZ.n7 prog Tryz.MM:={
 mixed:=by kernel_rfl
 f7:=⟨Tryz.f89.name,by decide,func89.trans (congrArg some (by kernel_rfl))⟩
 f10:=⟨Tryz.f142.name,by decide,func142.trans (congrArg some (by kernel_rfl))⟩
 t0:=underlying0
 a0:=isAgg0
 z0:=sizeOf0
 v0:=zeroValue0
 t4:=underlying4
 a4:=isAgg4
 z4:=sizeOf4
 v4:=zeroValue4
 t23:=underlying191
 a23:=isAgg191
 z23:=sizeOf191
 v23:=zeroValue191
 t26:=underlying9
 a26:=isAgg9
 z26:=sizeOf9
 v26:=zeroValue9
 t27:=underlying197
 a27:=isAgg197
 z27:=sizeOf197
 v27:=zeroValue197
 t28:=underlying198
 a28:=isAgg198
 z28:=sizeOf198
 v28:=zeroValue198
 t33:=underlying252
 a33:=isAgg252
 z33:=sizeOf252
 v33:=zeroValue252}
def Tryz.PK:Go.Shelf.Ren:=⟨fun|6=>88|8=>141|9=>132|11=>222|13=>97|12=>212|23=>154|24=>155|14=>273|15=>274|16=>275|17=>276|18=>277|19=>278|20=>279|21=>280|22=>281|25=>334|26=>226|27=>227|28=>335|29=>336|30=>337|31=>357|n=>n,fun|26=>9|28=>198|24=>195|0=>0|3=>3|37=>107|48=>53|50=>23|4=>4|40=>271|39=>270|45=>110|5=>5|9=>9|51=>334|55=>338|57=>384|58=>385|33=>252|n=>n,fun|n=>n⟩
theorem Tryz.wX:Go.Proofs.SlLaysZ.n6 prog Tryz.PK:={
 mixed:=by kernel_rfl
 f6:=⟨Tryz.f88.name,by decide,func88.trans (congrArg some (by kernel_rfl))⟩
 f8:=⟨Tryz.f141.name,by decide,func141.trans (congrArg some (by kernel_rfl))⟩
 f11:=⟨Tryz.f222.name,by decide,func222.trans (congrArg some (by kernel_rfl))⟩
 t0:=underlying0
 a0:=isAgg0
 z0:=sizeOf0
 v0:=zeroValue0
 t24:=underlying195
 a24:=isAgg195
 z24:=sizeOf195
 v24:=zeroValue195
 t26:=underlying9
 a26:=isAgg9
 z26:=sizeOf9
 v26:=zeroValue9
 t28:=underlying198
 a28:=isAgg198
 z28:=sizeOf198
 v28:=zeroValue198
 i26:=by kernel_rfl}
def Tryz.D9:Go.Shelf.Ren:=⟨fun|6=>132|8=>97|9=>212|19=>154|20=>155|21=>273|22=>274|23=>275|24=>276|25=>277|26=>278|27=>279|28=>280|29=>281|36=>334|31=>226|32=>227|37=>335|38=>336|39=>337|41=>357|n=>n,fun|27=>195|29=>9|3=>3|32=>107|26=>195|0=>0|44=>53|46=>23|4=>4|36=>271|35=>270|41=>110|5=>5|9=>9|53=>334|57=>338|63=>384|64=>385|n=>n,fun|n=>n⟩
theorem Tryz.sortStr:Go.Proofs.SlLaysM.n6 prog Tryz.D9:={
 mixed:=by kernel_rfl
 f6:=⟨Tryz.f132.name,by decide,func132.trans (congrArg some (by kernel_rfl))⟩
 f8:=func97.trans (congrArg some (by kernel_rfl))
 f9:=⟨Tryz.f212.name,by decide,func212.trans (congrArg some (by kernel_rfl))⟩
 f19:=func154.trans (congrArg some (by kernel_rfl))
 f20:=func155.trans (congrArg some (by kernel_rfl))
 f21:=⟨Tryz.f273.name,by decide,func273.trans (congrArg some (by kernel_rfl))⟩
 f22:=⟨Tryz.f274.name,by decide,func274.trans (congrArg some (by kernel_rfl))⟩
 f23:=⟨Tryz.f275.name,by decide,func275.trans (congrArg some (by kernel_rfl))⟩
 f24:=⟨Tryz.f276.name,by decide,func276.trans (congrArg some (by kernel_rfl))⟩
 f25:=⟨Tryz.f277.name,by decide,func277.trans (congrArg some (by kernel_rfl))⟩
 f26:=⟨Tryz.f278.name,by decide,func278.trans (congrArg some (by kernel_rfl))⟩
 f27:=⟨Tryz.f279.name,by decide,func279.trans (congrArg some (by kernel_rfl))⟩
 f28:=⟨Tryz.f280.name,by decide,func280.trans (congrArg some (by kernel_rfl))⟩
 f29:=⟨Tryz.f281.name,by decide,func281.trans (congrArg some (by kernel_rfl))⟩
 f31:=func226.trans (congrArg some (by kernel_rfl))
 f32:=func227.trans (congrArg some (by kernel_rfl))
 f36:=⟨Tryz.f334.name,by decide,func334.trans (congrArg some (by kernel_rfl))⟩
 f37:=⟨Tryz.f335.name,by decide,func335.trans (congrArg some (by kernel_rfl))⟩
 f38:=⟨Tryz.f336.name,by decide,func336.trans (congrArg some (by kernel_rfl))⟩
 f39:=⟨Tryz.f337.name,by decide,func337.trans (congrArg some (by kernel_rfl))⟩
 f41:=⟨Tryz.f357.name,by decide,func357.trans (congrArg some (by kernel_rfl))⟩
 t0:=underlying0
 a0:=isAgg0
 z0:=sizeOf0
 v0:=zeroValue0
 t3:=underlying3
 a3:=isAgg3
 z3:=sizeOf3
 v3:=zeroValue3
 t4:=underlying4
 a4:=isAgg4
 z4:=sizeOf4
 v4:=zeroValue4
 t5:=underlying5
 a5:=isAgg5
 z5:=sizeOf5
 v5:=zeroValue5
 t9:=underlying9
 a9:=isAgg9
 z9:=sizeOf9
 v9:=zeroValue9
 t26:=underlying195
 a26:=isAgg195
 z26:=sizeOf195
 v26:=zeroValue195
 t27:=underlying195
 a27:=isAgg195
 z27:=sizeOf195
 v27:=zeroValue195
 t29:=underlying9
 a29:=isAgg9
 z29:=sizeOf9
 v29:=zeroValue9
 t32:=underlying107
 a32:=isAgg107
 z32:=sizeOf107
 v32:=zeroValue107
 t35:=underlying270
 a35:=isAgg270
 z35:=sizeOf270
 v35:=zeroValue270
 t36:=underlying271
 a36:=isAgg271
 z36:=sizeOf271
 v36:=zeroValue271
 t41:=underlying110
 a41:=isAgg110
 z41:=sizeOf110
 v41:=zeroValue110
 t44:=underlying53
 a44:=isAgg53
 z44:=sizeOf53
 v44:=zeroValue53
 t46:=underlying23
 a46:=isAgg23
 z46:=sizeOf23
 v46:=zeroValue23
 t53:=underlying334
 a53:=isAgg334
 z53:=sizeOf334
 v53:=zeroValue334
 t57:=underlying338
 a57:=isAgg338
 z57:=sizeOf338
 v57:=zeroValue338
 t63:=underlying384
 a63:=isAgg384
 z63:=sizeOf384
 v63:=zeroValue384
 t64:=underlying385
 a64:=isAgg385
 z64:=sizeOf385
 v64:=zeroValue385}
end Go.Proofs
