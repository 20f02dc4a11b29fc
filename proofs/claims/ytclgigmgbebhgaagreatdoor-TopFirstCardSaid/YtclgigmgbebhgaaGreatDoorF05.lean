/- TopFirst: part 5: TopSearch TopRow2 TopSubs TopSort ShelfS. -/
import Derived.Deep.AppendLies
import Derived.Shelf.SlSortCmp.WholeK
import Derived.Shelf.SlSortCmp.NoneTotal
import Derived.Shelf.SlGeneric
import Derived.Shelf.SlIterI.Nil
import Derived.Shelf.SlIter.Nil
import Derived.Shelf.SortM.Plain
import Derived.Shelf.SortM.SortNone
import Derived.Ground.SlsfProg
import Derived.Ground.GgzProg
import Derived.Ground.SlgmProg
import Derived.Test.YtclgigmgbebhgaaGreatDoorProg
import Derived.Test.YtclgigmgbebhgaaGreatDoorF04
set_option linter.unusedVariables false
set_option linter.unusedSimpArgs false
set_option maxRecDepth 100000
set_option maxHeartbeats 16000000
namespace Go.Proofs.YtclgigmgbebhgaaGreatDoor
open Tryz
open Go Go.Proofs Go.RowKit
variable {ms:List Nat} {xs:List Value} {B2 Bm LO M ow tB mB oB sB:Nat} {ad:Option Addr} {tv sv:Value} {W a W' w:World}
theorem sH {B1 t1 t2:Nat}{c1 c2:Array Value}(C:Z7 W B1 t1 c1)(D:Z7 W B2 t2 c2)(h:t1≠t2):B1≠B2:=by
 rintro rfl;have:=C.symm.trans D;injection this with this;injection this with _ e;exact h e
theorem V4 {B t:Nat}{cs:Array Value}{S:List (Value×Value)}(h:Z7 W B t cs)(hm:Zz W Bm S):B≠Bm:=by
 rintro rfl;obtain⟨es,C,hb,_⟩:=hm;have:=hb.symm.trans h;injection this with this;cases this
theorem Yb.Yu {b:World}{v:Value}{g:G}(f:Yb LO M Bm a b)(mk:Zj LO M Bm a v g){B t:Nat}{cs:Array Value}(h:Z7 a B t cs)(C:t≠Fq)(D:t≠Wc):Z7 b B t cs:=
 f.blk h (sH h mk.blk C) (V4 h mk.map) D
theorem Yb.TN {b:World}{v:Value}{g:G}(f:Yb LO M Bm a b)(mk:Zj LO M Bm a v g){base e s n:Nat}{u:Value} (h:a.ownsRow base e s u n xs)(J:e≠Fq)(I:e≠Wc):b.ownsRow base e s u n xs:=by
 refine⟨h.1,?_⟩;rcases h.2 with D|⟨k,cap,C,e1,e2,e3,e4⟩;·exact .inl D
 ·exact .inr ⟨k,cap,C,e1,e2,f.Yu mk (show Z7 a k e C from e3) J I,e4⟩
theorem Gl{α β:Type}(f:α->List β)(k:Nat)(hk:∀x,(f x).length=k):∀(l:List α) (i:Nat) (x:α),l[i]? =some x->∀j,j<k->(l.flatMap f)[i*k+j]? =(f x)[j]?
 |[],i,x,h,_,_=>by simp at h
 |y::l,0,x,h,j,hj=>by rw[aM] at h;cases h;rw[ace,Nat.zero_mul,ade,abc (by rw[hk];exact hj)]
 |y::l,i+1,x,h,j,hj=>by rw[aH] at h;have C:=Gl f k hk l i x h j hj;rw[ace,aad (by rw[hk,ara];omega),hk,show(i+1)*k+j-k=i*k+j by rw[ara];omega];exact C
theorem X9{α:Type}(f:α->List Value)(k:Nat)(hk:∀x,(f x).length=k) {e c n:Nat} {l:List α}(hn:l.length=n)(h:W.ownsRow LO e k (.slice ad n c) n (l.flatMap f)){i:Nat}{x:α}(hi:l[i]? =some x):
 ∃g,ad=some ⟨g,0,none⟩/\n<=c/\∀j,j<k->W.cell? ⟨g,i*k+j,none⟩=(f x)[j]? :=by
 have J:=(ak.1 hi).1;have I:=h;rcases h.2 with⟨e1,e2⟩|⟨g,cap,T,e1,_,_,e4,_⟩;·omega
 ·injection e1 with e5 _ C;subst e5 C;refine⟨g,rfl,e4,λj D=> ?_⟩
  rw[I.cellAt (i*k+j) (by have:(i+1)*k<=n*k:=aud k jO;rw[ara] at this;omega),Gl f k hk l i x hi j D]
theorem KE{l:List Nat}{a:Nat}(h:a+l.length<=ms.length):(U9 l ms a).length=l.length:=by
 unfold U9;rw[List.length_zip,aia];omega
theorem xq{l:List Nat}{a j:Nat}(h:a+l.length<=ms.length)(C:j<l.length):((U9 l ms a).getD j (0,0)).1=l.getD j 0:=by
 rw[aee,aee,aL C,aL (by rw[KE h];exact C)];simp only[Option.getD_some];unfold U9;rw[List.getElem_zip]
theorem sF{n mk a:Nat} (h:ms[a]? =some mk):U9 [n] ms a=[(n,mk)]:=by
 unfold U9;rw[drop_cons h];rfl
def UC(ms:List Nat):List Value:=ms.flatMap λm:Nat=>[Value.int .i64 m]
structure xp(LO:Nat)(W:World)(M ow tB mB oB sB wB:Nat)(tv sv:Value)(t:List Vx)(ms:List Nat):Prop where
 ht:Z7 W tB 290 #[tv]
 hm:Z7 W mB 132 #[.pointer (some ⟨M,0,none⟩)]
 ho:Z7 W oB 3 #[.int .i64 ow]
 hs:Z7 W sB 94 #[sv]
 hw:Z7 W wB 151 #[.func (.func 175) #[] #[.pointer (some ⟨tB,0,none⟩),.pointer (some ⟨mB,0,none⟩),.pointer (some ⟨oB,0,none⟩),.pointer (some ⟨sB,0,none⟩),.pointer (some ⟨wB,0,none⟩)]]
 nodes:W.ownsRow LO Pv 5 tv t.length (Uk t)
 marks:W.ownsRow LO 3 1 sv ms.length (UC ms)
theorem xp.keep{wB:Nat}{v:Value}{t:List Vx} {b:World}{g:G}(f:Yb LO M Bm a b)(mk:Zj LO M Bm a v g)(h:xp LO a M ow tB mB oB sB wB tv sv t ms):xp LO b M ow tB mB oB sB wB tv sv t ms:=
 ⟨f.Yu mk h.ht jD jD,f.Yu mk h.hm jD jD,f.Yu mk h.ho jD jD,f.Yu mk h.hs jD jD,f.Yu mk h.hw jD jD,f.TN mk h.nodes jD jD,f.TN mk h.marks jD jD⟩
theorem cell1 {B t:Nat}{u:Value}(h:Z7 W B t #[u]):W.cell? ⟨B,0,none⟩=some u:=by simpa using h.cell 0
theorem sD{LO M Bm ow tB mB oB sB wB:Nat}{tv sv:Value}{t:List Vx}{ms:List Nat}(gX:t.length<=9000)(hml:ms.length<=9000){i:Nat}{l:List Nat}{a:Nat}(hT:Ul t i l a):
 ∀(g:G) (v:Value) (w:World),a+l.length<=ms.length->xp LO w M ow tB mB oB sB wB tv sv t ms->Zj LO M Bm w v g->GB (ZH ow (U9 l ms a) g)->LO<=w.heap.size->
  Calls prog 175 #[.int .i64 i,.pointer (some ⟨tB,0,none⟩),.pointer (some ⟨mB,0,none⟩),.pointer (some ⟨oB,0,none⟩),.pointer (some ⟨sB,0,none⟩),.pointer (some ⟨wB,0,none⟩)] w
   λe w'=>e=.returned (.tuple #[])/\∃v',Zj LO M Bm w' v' (ZH ow (U9 l ms a) g)/\Yb LO M Bm w w':=by
 induction hT with
 | @leaf i n a hx=>
   intro g v w U hS hM hG VS;obtain⟨mk,zk⟩:∃m,ms[a]? =some m:=⟨_,aL (by simp at U;omega)⟩;rw[sF zk,Xz] at hG ⊢;obtain⟨TL,I⟩:∃n,t.length=n:=⟨_,rfl⟩;obtain⟨ML,nu⟩:∃n,ms.length=n:=⟨_,rfl⟩;have hit:i<TL:=by rw[<-I];exact(ak.1 hx).1
   have ham:a<ML:=by rw[<-nu];exact(ak.1 zk).1
   have D:=hS.nodes;have J:=hS.marks;rw[I] at D gX;rw[nu] at J hml U;obtain⟨ta,tc,rfl⟩:=ZI D;obtain⟨sa,sc,rfl⟩:=ZI J;obtain⟨tg,rfl,htc,C⟩:=X9 Pt 5 (λ_=>rfl) I D hx;obtain⟨sg,rfl,hsc,hcm⟩:=X9 (λm:Nat=>[Value.int .i64 m]) 1 (λ_=>rfl) nu J zk;have n0:=C 0 jD;have n1:=C 1 jD;have n2:=C 2 jD;have n3:=C 3 jD;have n4:=C 4 jD;simp only[Pt,aM,aH,aec] at n0 n1 n2 n3 n4;have t0:=cell1 hS.ht;have iz0:=jZ i;have iz1:(i:Int)<(TL:Int):=jO;have az0:=jZ a;have az1:(a:Int)<(ML:Int):=jO;have anz:¬((a:Int)<0):=jO;have f1:=Yb.alloc (LO:=LO) (M:=M) (Bm:=Bm) (a:=w) (.cells #[.bool true,.int .u32 n,.int .i64 a,.int .i64 0,.int .i64 0] Pv) VS;have HS:=aT (hS.keep f1 hM);have HM:=aT (hM.al (.cells #[.bool true,.int .u32 n,.int .i64 a,.int .i64 0,.int .i64 0] Pv));have HF:=aT f1;have HN:=aT (Z7.new w Pv #[.bool true,.int .u32 n,.int .i64 a,.int .i64 0,.int .i64 0]);have T:LO<=(w.alloc (.cells #[.bool true,.int .u32 n,.int .i64 a,.int .i64 0,.int .i64 0] Pv)).heap.size:=by rw[aj];omega
   have Li:g.l.length+1<=1000000:=by
    have h:=hG.1;have e:(g.put [ins 0x15 n mk ow]).l.length=g.l.length+1:=by show(g.l++_).length=_;rw[ay];rfl
    omega
   have HMK:=aT zk;have HTL:=aT I;have HML:=aT nu;clear hS hM f1 D J C hcm hx zk hG I nu;go_enter func175,ntmps175;go_upto_region 6 with fail;generalize w.alloc (.cells #[.bool true,.int .u32 n,.int .i64 a,.int .i64 0,.int .i64 0] Pv)=w1 at*;generalize w.heap.size=BN at*;clear n0 n1 n2 n3 n4 t0;obtain⟨z0,z1,z2⟩:=HN.q3;go_upto_region 9 with fail;have dx:Hid (∀W,Yb LO M Bm w1 W->W.cell? ⟨mB,0,none⟩=some (.pointer (some ⟨M,0,none⟩))/\W.cell? ⟨BN,1,none⟩=some (.int .u32 n)/\W.cell? ⟨sB,0,none⟩=some (.slice (some ⟨sg,0,none⟩) ML sc)/\W.cell? ⟨BN,2,none⟩=some (.int .i64 a)/\W.cell? ⟨sg,a,none⟩=some (.int .i64 mk)/\W.cell? ⟨oB,0,none⟩=some (.int .i64 ow)):=λW f=>by have h:=HS.keep f HM;have hb:=f.Yu HM HN jD jD;have J:=h.marks;rw[HML.out] at J;obtain⟨sg',e1,_,hc⟩:=X9 (λm:Nat=>[Value.int .i64 m]) 1 (λ_=>rfl) HML J HMK;cases e1;have h0:=hc 0 jD;simp only[aqa,aec,aM] at h0;exact⟨cell1 h.hm,by simpa using hb.cell 1,cell1 h.hs,by simpa using hb.cell 2,h0,cell1 h.ho⟩
   go_region_held3 (λw'=>w'.cell? ⟨mB,0,none⟩=some (.pointer (some ⟨M,0,none⟩))/\w'.cell? ⟨BN,1,none⟩=some (.int .u32 n)/\w'.cell? ⟨sB,0,none⟩=some (.slice (some ⟨sg,0,none⟩) ML sc)/\w'.cell? ⟨BN,2,none⟩=some (.int .i64 a)/\w'.cell? ⟨sg,a,none⟩=some (.int .i64 mk)/\w'.cell? ⟨oB,0,none⟩=some (.int .i64 ow)) (first|exact dx _ (Yb.refl _ _ _ _).drew|exact gV|exact dx _ ((Yb.refl LO M Bm w1).drew.trans (Yb.alloc _ T))) (first
    |(go_at_call 47
      refine(YW (xs:=[ins 0x15 n mk ow]) w1.drew HM.drew rfl rfl Li T).mono ?_;rintro e w2 ⟨rfl,v2,Z,f2⟩;have LF:=aT f2.O3;have gV:=dx _ LF;have Y:=aT Z;clear Z f2))
   go_wp2_with fail;go_end0;exact⟨rfl,v2,Y,HF.trans LF⟩
 | @node i l a lo hi Z hx Jg hhi ih1 ih2=>
   intro g v w U hS hM hG VS;rw[XU ow _ (by rw[KE U];exact Z),KE U,xx,xw,xq U jO] at hG ⊢;obtain⟨H,hH⟩:=jX (l.length/2);obtain⟨nh,hnh⟩:∃n,l.getD (l.length/2) 0=n:=⟨_,rfl⟩;rw[hnh] at hx hG ⊢;rw[hH] at ih1 ih2 hG ⊢;obtain⟨TL,I⟩:∃n,t.length=n:=⟨_,rfl⟩;have hit:i<TL:=by rw[<-I];exact(ak.1 hx).1
   have D:=hS.nodes;rw[I] at D gX;obtain⟨ta,tc,rfl⟩:=ZI D;obtain⟨tg,rfl,htc,C⟩:=X9 Pt 5 (λ_=>rfl) I D hx;have n0:=C 0 jD;have n1:=C 1 jD;have n2:=C 2 jD;have n3:=C 3 jD;have n4:=C 4 jD;simp only[Pt,aM,aH,aec] at n0 n1 n2 n3 n4;have t0:=cell1 hS.ht;have iz0:=jZ i;have iz1:(i:Int)<(TL:Int):=jO;have f1:=Yb.alloc (LO:=LO) (M:=M) (Bm:=Bm) (a:=w) (.cells #[.bool false,.int .u32 nh,.int .i64 0,.int .i64 lo,.int .i64 hi] Pv) VS;have HS:=aT (hS.keep f1 hM);have HM:=aT (hM.al (.cells #[.bool false,.int .u32 nh,.int .i64 0,.int .i64 lo,.int .i64 hi] Pv));have HF:=aT f1;have HLO:=aT VS;have HN:=aT (Z7.new w Pv #[.bool false,.int .u32 nh,.int .i64 0,.int .i64 lo,.int .i64 hi]);have T:LO<=(w.alloc (.cells #[.bool false,.int .u32 nh,.int .i64 0,.int .i64 lo,.int .i64 hi] Pv)).heap.size:=by rw[aj];omega
   obtain⟨g1,hg1⟩:=jX (ZH ow (U9 (l.take H) ms a) (g.mark.put [ins 0x35 nh ((g.n+1:Nat):Int) 0]));rw[hg1] at hG ⊢;have b2:=hG.back (WV ow _ _ _ (aR _));have b1:=b2.back (UY.here _ _);have b0:=b1;rw[<-hg1] at b0;have b0:=b0.back (WV ow _ _ _ (aR _));have zj:g.n+1<=1000000:=aO b0.2 jD;have hpl:g.mark.l.length+1<=1000000:=by
    have h:=b0.1;have e:(g.mark.put [ins 0x35 nh ((g.n+1:Nat):Int) 0]).l.length=g.mark.l.length+1:=by show(g.mark.l++_).length=_;rw[ay];rfl
    omega
   have hhl:g1.l.length+1<=1000000:=by
    have h:=b2.1;have e:(g1.here (g.n+1)).l.length=g1.l.length+1:=by show(g1.l++_).length=_;rw[ay];rfl
    omega
   have ag5:a+(l.take H).length<=ms.length:=by rw[abg];omega
   have dw:a+H+(l.drop H).length<=ms.length:=by rw[aia];omega
   have IH1:=aT (λv w h1 Z h3=>ih1 (g.mark.put [ins 0x35 nh ((g.n+1:Nat):Int) 0]) v w ag5 h1 Z (by rw[hg1];exact b1) h3);have IH2:=aT (λv w h1 Z h3=>ih2 (g1.here (g.n+1)) v w dw h1 Z hG h3);have HG1:=aT hg1;clear hS hM f1 D C hx hG b0 b1 b2 ih1 ih2 hg1 ag5 dw hH hnh Jg hhi;go_enter func175,ntmps175;go_upto_region 6 with fail;generalize w.alloc (.cells #[.bool false,.int .u32 nh,.int .i64 0,.int .i64 lo,.int .i64 hi] Pv)=w1 at*;generalize w.heap.size=BN at*;clear n0 n1 n2 n3 n4 t0;obtain⟨z0,z1⟩:=HN.q2;have m0:=cell1 HS.hm;go_wp2_with fail;refine(Vc w1 HM zj).mono ?_;rintro e w2 ⟨rfl,Z,f2⟩;have Qw:=aT (HS.keep f2 HM);have HN2:=aT (f2.Yu HM HN jD jD);have Y:=aT Z;have LF:=aT (HF.trans f2);have OZ:LO<=w2.heap.size:=aO T f2.2.1;clear Z f2 HS HN HM HF z0 z1 m0;have z1:=HN2.e1;have m0:=cell1 Qw.hm
   go_wp2_with (refine Great.wpList_buildSliceTo rfl 79 Wc 1 _ rfl _ rfl _ rfl underlying79 #[.int .i64 0,.int .u16 53,.int .u32 nh,.int .i64 ((g.n:Int)+1),.int .i64 0] jK ?_)
   refine(YW (xs:=[ins 0x35 nh ((g.n+1:Nat):Int) 0]) w2 Y rfl rfl hpl OZ).mono ?_;rintro e w3 ⟨rfl,v3,h3,f3⟩;have nr:=aT (Qw.keep f3 Y);have HN3:=aT (f3.Yu Y HN2 jD jD);have Fm:=aT h3;have zl:=aT (LF.trans f3);have xy:LO<=w3.heap.size:=aO OZ f3.2.1;clear h3 f3 Qw HN2 Y LF z1 m0;have z3:=HN3.e3;have q0:=cell1 nr.hw;go_wp2_with fail;refine(IH1 v3 w3 nr Fm xy).mono ?_;rintro e w4 ⟨rfl,v4,h4,f4⟩;rw[HG1.out] at h4;have xn:=aT (nr.keep f4 Fm);have HN4:=aT (f4.Yu Fm HN3 jD jD);have HM4:=aT h4;have xr:=aT (zl.trans f4);have dv:LO<=w4.heap.size:=aO xy f4.2.1;clear h4 f4 nr HN3 Fm zl z3 q0;have m0:=cell1 xn.hm;go_wp2_with fail;refine(TT (m:=g.n) w4 HM4 hhl dv).mono ?_;rintro e w5 ⟨rfl,v5,h5,f5⟩;have HS5:=aT (xn.keep f5 HM4);have gU:=aT (f5.Yu HM4 HN4 jD jD);have HM5:=aT h5;have tQ:=aT (xr.trans f5);have Ou:LO<=w5.heap.size:=aO dv f5.2.1;clear h5 f5 xn HN4 HM4 xr m0;have z4:=gU.e4;have q0:=cell1 HS5.hw;go_wp2_with fail;refine(IH2 v5 w5 HS5 HM5 Ou).mono ?_;rintro e w6 ⟨rfl,v6,h6,f6⟩;have HM6:=aT h6;have lZ:=aT (tQ.trans f6);clear h6 f6;go_wp2_with fail;go_end0;exact⟨rfl,v6,HM6,lZ⟩
theorem sA{wB:Nat}(g:G)(v:Value)(w:World)(hS:xp LO w M ow tB mB oB sB wB tv sv [⟨true,0,-1,0,0⟩] ms)(U:Zj LO M Bm w v g)(hG:GB (g.put [ins 0x05 0 ow 0]))(T:LO<=w.heap.size):
 Calls prog 175 #[.int .i64 0,.pointer (some ⟨tB,0,none⟩),.pointer (some ⟨mB,0,none⟩),.pointer (some ⟨oB,0,none⟩),.pointer (some ⟨sB,0,none⟩),.pointer (some ⟨wB,0,none⟩)] w
  λe w'=>e=.returned (.tuple #[])/\∃v',Zj LO M Bm w' v' (g.put [ins 0x05 0 ow 0])/\Yb LO M Bm w w':=by
 have D:=hS.nodes;change w.ownsRow LO Pv 5 tv 1 _ at D;obtain⟨ta,tc,rfl⟩:=ZI D;obtain⟨tg,rfl,htc,C⟩:=X9 Pt 5 (λ_=>rfl) rfl D (i:=0) (x:=⟨true,0,-1,0,0⟩) rfl;have n0:=C 0 jD;have n1:=C 1 jD;have n2:=C 2 jD;have n3:=C 3 jD;have n4:=C 4 jD;simp only[Pt,aM,aH,Nat.zero_mul,ade,aec] at n0 n1 n2 n3 n4;have t0:=cell1 hS.ht;have Z:=Yb.alloc (LO:=LO) (M:=M) (Bm:=Bm) (a:=w) (.cells #[.bool true,.int .u32 0,.int .i64 (-1),.int .i64 0,.int .i64 0] Pv) T;have HS:=aT (hS.keep Z U);have HM:=aT (U.al (.cells #[.bool true,.int .u32 0,.int .i64 (-1),.int .i64 0,.int .i64 0] Pv));have HF:=aT Z;have HN:=aT (Z7.new w Pv #[.bool true,.int .u32 0,.int .i64 (-1),.int .i64 0,.int .i64 0]);have I:LO<=(w.alloc (.cells #[.bool true,.int .u32 0,.int .i64 (-1),.int .i64 0,.int .i64 0] Pv)).heap.size:=by rw[aj];omega
 have Li:g.l.length+1<=1000000:=by
  have h:=hG.1;have e:(g.put [ins 0x05 0 ow 0]).l.length=g.l.length+1:=by show(g.l++_).length=_;rw[ay];rfl
  omega
 clear hS U Z D C hG;go_enter func175,ntmps175;go_upto_region 6 with fail;generalize w.alloc (.cells #[.bool true,.int .u32 0,.int .i64 (-1),.int .i64 0,.int .i64 0] Pv)=w1 at*;generalize w.heap.size=BN at*;clear n0 n1 n2 n3 n4 t0;obtain⟨z0,_,z2⟩:=HN.q3;have m0:=cell1 HS.hm;have o0:=cell1 HS.ho
 go_wp2_with (refine Great.wpList_buildSliceTo rfl 79 Wc 1 _ rfl _ rfl _ rfl underlying79 #[.int .i64 0,.int .u16 5,.int .u32 0,.int .i64 ow,.int .i64 0] jK ?_)
 refine(YW (xs:=[ins 0x05 0 ow 0]) w1 HM rfl rfl Li I).mono ?_;rintro e w2 ⟨rfl,v2,h2,f2⟩;have Y:=aT h2;have J:=aT (HF.trans f2);clear h2 f2 z0 z2 m0 o0;go_wp2_with fail;go_end0;exact⟨rfl,v2,Y,J⟩
theorem sy(ms:List Nat)(a:Nat):U9 [] ms a=[]:=rfl
theorem Lh {B e s n c:Nat}{a:Option Addr} (h:W.ownsRow B e s (.slice a n c) n xs):n<=c/\c<=9223372036854775807:=by
 rcases h.2 with⟨e1,e2⟩|⟨g,cap,C,e1,_,_,e4,e5,_⟩
 ·cases e1;omega
 ·cases e1;exact⟨e4,aO e5 jD⟩
theorem Y7 {B C e s n:Nat}{v:Value} (h:W.ownsRow B e s v n xs)(I:C<=B):W.ownsRow C e s v n xs:=by
 refine⟨h.1,?_⟩;rcases h.2 with J|⟨g,cap,D,e1,e2,e3⟩;·exact .inl J
 ·exact .inr ⟨g,cap,D,e1,aO I e2,e3⟩
theorem ZC {B e size n:Nat}{v:Value} (h:W.ownsRow B e size v n xs)(hb:Below W.heap.size W W'):W'.ownsRow B e size v n xs:=by
 refine⟨h.1,?_⟩;rcases h.2 with J|⟨g,cap,C,hv,I,D,rest⟩;·exact .inl J
 ·exact .inr ⟨g,cap,C,hv,I,(hb.block g (aac.1 D).1).trans D,rest⟩
theorem Zj.Zr {w':World}{v:Value}{g:G}(h:Zj LO M Bm w v g)(hb:Below w.heap.size w w'):Zj LO M Bm w' v g:=by
 refine⟨h.blk.below hb h.blk.lt,ZC h.own hb,?_,h.lo⟩;obtain⟨es,D,C,I⟩:=h.map;exact⟨es,D,(hb.block Bm (aac.1 C).1).trans C,I⟩
theorem KD{N L c:Nat}{v:Value}{g:G} {l:List Nat}(hL:l.length=L)(Xo:L<=4096)(hr:l.Pairwise (λa b=>a<b))(hms:ms.length=L)(w:World)(h:Zj LO M Bm w v g)(hN:TS N w ad l)(hc:L<=c)(hcm:c<=9223372036854775807)(hNs:N<=w.heap.size)
 (hS:w.ownsRow LO 3 1 sv ms.length (UC ms)) (hG:GB (ZH ow (U9 l ms 0) g)) (VS:LO<=w.heap.size):
 Calls prog 105 #[.pointer (some ⟨M,0,none⟩),.slice ad L c,sv,.int .i64 ow] w λe w'=>e=.returned (.tuple #[])/\∃v',Zj LO M Bm w' v' (ZH ow (U9 l ms 0) g)/\Yb LO M Bm w w':=by
 obtain⟨A,hA⟩:∃A:Obj,A=.cells #[.pointer (some ⟨M,0,none⟩)] 132:=⟨_,rfl⟩;obtain⟨B,hB⟩:∃B:Obj,B=.cells #[sv] 94:=⟨_,rfl⟩;obtain⟨C,hC⟩:∃C:Obj,C=.cells #[.int .i64 ow] 3:=⟨_,rfl⟩;have b3:Below w.heap.size w (((w.alloc A).alloc B).alloc C):=((((aG w.heap.size w).alloc (aR _) A).alloc (by rw[aj];omega) B).alloc (by rw[aj,aj];omega) C);have Ed:Hid (Z7 (((w.alloc A).alloc B).alloc C) w.heap.size 132 #[.pointer (some ⟨M,0,none⟩)]):=by subst hA;exact((Z7.new w _ _).alloc B).alloc C
 have lY:Hid (Z7 (((w.alloc A).alloc B).alloc C) (w.heap.size+1) 94 #[sv]):=by subst hB;have:=(Z7.new (w.alloc A) 94 #[sv]).alloc C;rwa [aj] at this
 have HBC:Hid (Z7 (((w.alloc A).alloc B).alloc C) (w.heap.size+1+1) 3 #[.int .i64 ow]):=by subst hC;have:=Z7.new ((w.alloc A).alloc B) 3 #[.int .i64 ow];rwa [aj,aj] at this
 have J:LO<=(((w.alloc A).alloc B).alloc C).heap.size:=aO VS b3.size;have hN3:N<=(((w.alloc A).alloc B).alloc C).heap.size:=aO hNs b3.size;have zl:=aT (Yb.below (LO:=LO) (M:=M) (Bm:=Bm) b3 VS);have Fm:=aT (h.Zr b3);have nr:=aT (ZC hS b3);have HN3:=aT (hN.below b3 hNs);obtain⟨ML,nu⟩:∃n,ms.length=n:=⟨_,rfl⟩;have HEQ:=aT hms;rw[nu] at nr;have HL:=aT hL;have HR:=aT hr;have HG:=aT hG;have HML:=aT nu;subst hA hB hC;obtain⟨sa,sc,rfl⟩:=ZI hS;rw[nu] at lY nr Fm HN3 Ed HBC zl J hN3 b3 ⊢;clear hS h hN hL hr hG hms nu b3 hNs VS;go_enter func105,ntmps105;go_upto_region 1 with fail;generalize ((w.alloc (.cells #[.pointer (some ⟨M,0,none⟩)] 132)).alloc (.cells #[.slice sa ML sc] 94)).alloc (.cells #[.int .i64 ow] 3)=w3 at*;generalize w.heap.size+1+1=oB at*;generalize w.heap.size+1=sB at*;generalize w.heap.size=mB at*
 go_wp2_with (first|(go_at_call 174;refine(BQ l L HL Xo HR ad c w3 HN3 hc hcm hN3).mono ?_;rintro e D ⟨tv,t,rfl,Y,T,gX,U⟩;obtain⟨ta,tc,rfl⟩:=ZI Y))
 have dv:LO<=D.heap.size:=aO J T.size;obtain⟨A1,hA1⟩:∃A:Obj,A=.cells #[.slice ta t.length tc] 290:=⟨_,rfl⟩;obtain⟨Z,sx⟩:∃A:Obj,A=.cells #[.func (.func 175) #[] #[.pointer (some ⟨D.heap.size,0,none⟩),.pointer (some ⟨mB,0,none⟩),.pointer (some ⟨oB,0,none⟩),.pointer (some ⟨sB,0,none⟩),.pointer (some ⟨D.heap.size+1,0,none⟩)]] 151:=⟨_,rfl⟩;have b5:Below D.heap.size D ((D.alloc A1).alloc Z):=((aG D.heap.size D).alloc (aR _) A1).alloc (by rw[aj];omega) Z;have HT5:Hid (Z7 ((D.alloc A1).alloc Z) D.heap.size 290 #[.slice ta t.length tc]):=by subst hA1;exact(Z7.new D _ _).alloc Z
 have dt:Hid (Z7 ((D.alloc A1).alloc Z) (D.heap.size+1) 151 #[.func (.func 175) #[] #[.pointer (some ⟨D.heap.size,0,none⟩),.pointer (some ⟨mB,0,none⟩),.pointer (some ⟨oB,0,none⟩),.pointer (some ⟨sB,0,none⟩),.pointer (some ⟨D.heap.size+1,0,none⟩)]]):=by subst sx;have:=Z7.new (D.alloc A1) 151 #[.func (.func 175) #[] #[.pointer (some ⟨D.heap.size,0,none⟩),.pointer (some ⟨mB,0,none⟩),.pointer (some ⟨oB,0,none⟩),.pointer (some ⟨sB,0,none⟩),.pointer (some ⟨D.heap.size+1,0,none⟩)]];rwa [aj] at this
 have I:Below w3.heap.size w3 ((D.alloc A1).alloc Z):=T.trans (b5.mono T.size);have Ou:LO<=((D.alloc A1).alloc Z).heap.size:=aO J I.size
 have hS5:xp LO ((D.alloc A1).alloc Z) M ow D.heap.size mB oB sB (D.heap.size+1) (.slice ta t.length tc) (.slice sa ML sc) t ms:=
  ⟨HT5,Ed.below I Ed.lt,HBC.below I HBC.lt,lY.below I lY.lt,dt,ZC (Y7 Y J) b5,by rw[HML.out];exact ZC nr I⟩
 have hM5:=Fm.Zr I;have tQ:=aT (zl.trans (Yb.below (LO:=LO) (M:=M) (Bm:=Bm) I J));have hml:ms.length<=9000:=by rw[HEQ.out];omega
 have HC:Hid (Calls prog 175 #[.int .i64 ((t.length:Int)-1),.pointer (some ⟨D.heap.size,0,none⟩),.pointer (some ⟨mB,0,none⟩),.pointer (some ⟨oB,0,none⟩),.pointer (some ⟨sB,0,none⟩),.pointer (some ⟨D.heap.size+1,0,none⟩)] ((D.alloc A1).alloc Z)
  λe w'=>e=.returned (.tuple #[])/\∃v',Zj LO M Bm w' v' (ZH ow (U9 l ms 0) g)/\Yb LO M Bm ((D.alloc A1).alloc Z) w'):=by
  have hG:=HG.out;rcases U with⟨hl,ht⟩|⟨h0,hT⟩
  ·subst hl;rw[sy,XA] at hG ⊢;rw[ht] at hS5 ⊢;exact sA g v _ hS5 hM5 hG Ou
  ·have h1:1<=t.length:=by
    cases hT with
    |leaf h=>have:=(ak.1 h).1;omega
    |node _ h _ _=>have:=(ak.1 h).1;omega
   rw[show(t.length:Int)-1=((t.length-1:Nat):Int) from jO];exact sD gX hml hT g v _ (by rw[HL.out,HEQ.out];omega) hS5 hM5 hG Ou
 subst hA1 sx;refine HC.mono ?_;rintro e w6 ⟨rfl,v6,h6,f6⟩;have HM6:=aT h6;have lZ:=aT (tQ.trans f6);clear h6 f6 hS5 hM5 Y T U HC tQ HT5 dt b5 I;go_wp2_with fail;go_end0;exact⟨rfl,v6,HM6,lZ⟩
theorem zi:(prog.info? 53).map (λi=>(i.zero,i.size,i.bytes))=some (some (.int .u32 0),1,4):=jK
theorem zh:(prog.info? 3).map (λi=>(i.zero,i.size,i.bytes))=some (some (.int .i64 0),1,8):=jK
theorem X6{P:Program}(w:World){o:Oper}{a:Act}{K:Act->World->Prop}{Q:Exit->Act->World->Prop}(s x:Operand)(t:TypeId)
 (ho:o.op=.call {callee:=.builtin .append,args:=#[s,x],argTypes:=#[t,t]})
 (base:Nat) (e:TypeId) (i:TypeInfo) (z:Value) (size bytes:Nat) (ht:P.underlying t=some (.slice e)) (hi:P.info? e=some i) (hz:i.zero=some z)
 (I:i.size=size) (Y:i.bytes=bytes) (U:z.cells.size=size) (Z:0<size)
 (v:Value) (n:Nat) (xs:List Value) (hs:a.eval s=v) (T:w.ownsRow base e size v n xs)
 (ad:Addr) (m c:Nat) (news:List Value) (hx:a.eval x=.slice (some ad) m c) (hl:news.length=m*size) (D:∀j u,news[j]? =some u->w.cell? (ad.add j)=some u) (h1:∀u∈news,u.oneCell'=true)
 (h63:n+m<=maxLen) (C:(n+m)*bytes<=140737488355328) (J:base<=w.heap.size)
 (h:∀v' w',w'.ownsRow base e size v' (n+m) (xs++news)->w.grownBy w' v.ownBlock->K (a.put o.dst v') w'):Oper.wp P o a w K Q:=by
 obtain⟨v',w',hr,h2,h3,_,_⟩:=run_append_own (P:=P) w base t o.type e i z size bytes ht hi hz I Y U Z v n xs T ad m c news hl D h1 h63 C J;unfold Oper.wp execOp;simp only[ho,resolve,invoke,builtin,Sem.run_bind,Sem.run_pure,awe,List.map_toArray,aed,aqb,hs,hx,hr];exact h v' w' h2 h3
theorem Zc {B e s n:Nat}{u:Value} (hu:W.ownsRow B e s u n xs)(C:W.grownBy W' u.ownBlock){k t:Nat}{cs:Array Value}(hk:Z7 W k t cs)(ht:e≠t):Z7 W' k t cs:=
 hk.kept C (λe2=>YQ hu hk ht e2.symm)
theorem Xn {B e s n e2 s2 n2:Nat}{u u2:Value}{xs2:List Value}(hu:W.ownsRow B e s u n xs)(I:W.grownBy W' u.ownBlock)(D:W.ownsRow B2 e2 s2 u2 n2 xs2)(ht:e≠e2):W'.ownsRow B2 e2 s2 u2 n2 xs2:=by
 refine D.kept I ?_;rcases D.2 with⟨rfl,_⟩|⟨k,cap,C,rfl,_,hk,_⟩;·exact .inl rfl
 ·exact .inr (λe3=>YQ hu (show Z7 W k e2 C from hk) ht e3.symm)
theorem Oq{v:Value}{g:G}{B e s n:Nat}{u:Value} (C:Zj LO M Bm W v g)(hu:W.ownsRow B e s u n xs)(D:W.grownBy W' u.ownBlock)(T:e≠Fq)(I:e≠Wc):Zj LO M Bm W' v g:=by
 refine⟨Zc hu D C.blk T,Xn hu D C.own I,C.map.kept D (λe2=> ?_),C.lo⟩;rcases hu.2 with⟨rfl,_⟩|⟨k,cap,J,rfl,_,hk,_⟩
 ·cases e2
 ·have e3:Bm=k:=aq e2;subst e3;obtain⟨es,U,hb,_⟩:=C.map;have:=hb.symm.trans hk;injection this with this;cases this
theorem Oo{B e s n:Nat}{u:Value} (hF:Yb LO M Bm w W)(hu:W.ownsRow B e s u n xs)(I:W.grownBy W' u.ownBlock)(U:w.heap.size<=B)(D:LO<=w.heap.size):Yb LO M Bm w W':=by
 have hb:∀k,u.ownBlock=some k->B<=k:=λk e=>(hu.lt k e).1
 refine⟨hF.1.grown I (aO D hF.2.1) (λk e=>aO D (aO U (hb k e))),aO hF.2.1 I.size,λk o hk Y T J=> ?_⟩;have C:=hF.2.2 k o hk Y T J;refine(I.block k (aac.1 C).1 (λe=> ?_)).trans C;have:=hb k e.symm;have:=(aac.1 hk).1;omega
theorem Ya(W:World)(B e s:Nat):W.ownsRow B e s (.slice none 0 0) 0 []:=⟨jS,.inl ⟨rfl,rfl⟩⟩
end Go.Proofs.YtclgigmgbebhgaaGreatDoor
namespace Go.Proofs.YtclgigmgbebhgaaGreatDoor
open Tryz
open Go Go.Proofs Go.RowKit Go.Maps Go.WideMaps Go.ChangeMaps
theorem xl{g:G}(h:V9 g){d c:Nat}(hd:look g.b d≠0):look (g.goes c).b d=look g.b d:=by
 unfold G.goes;split;·rename_i C;show look (g.b++[(c,g.n+1)]) d=_;rw[Rx _ _ _ _ C (λp hp=>(h.Fp p hp).2),aN (λe=>hd (by rw[<-e];exact C))]
 ·rfl
theorem xj{g:G}(h:V9 g)(c:Nat):look (g.goes c).b c≠0:=by
 unfold G.goes;split;·rename_i C;show look (g.b++[(c,g.n+1)]) c≠0;rw[Rx _ _ _ _ C (λp hp=>(h.Fp p hp).2),aF rfl];exact aqe _
 ·assumption
theorem Rs:∀(a b:List (Nat×Nat)) (g:G),Zw (a++b) g=Zw b (Zw a g)
 |[],_,_=>rfl
 |p::a,b,g=>Rs a b (g.goes p.2)
theorem Om{l:List (Nat×Nat)}{i:Nat}{p:Nat×Nat}(h:l[i]? =some p)(g:G):Zw (l.take (i+1)) g=(Zw (l.take i) g).goes p.2:=by
 rw[afd,h,Rs];rfl
def Vw(l:List Nat):List Value:=l.flatMap λn:Nat=>[Value.int .u32 n]
theorem ID(a b:List Nat):Vw (a++b)=Vw a++Vw b:=by unfold Vw;rw[aca]
theorem IC(a b:List Nat):UC (a++b)=UC a++UC b:=by unfold UC;rw[aca]
theorem IA{W:World}{B n c:Nat}{ad:Option Addr}{l:List Nat}(hn:l.length=n)(h:W.ownsRow B 53 1 (.slice ad n c) n (Vw l)):TS W.heap.size W ad l:=λk x hk=>by
 obtain⟨g,e,_,hc⟩:=X9 (λn:Nat=>[Value.int .u32 n]) 1 (λ_=>rfl) hn h hk;have C:=hc 0 jD;simp only[aqa,aec,aM] at C;exact⟨g,0,e,afg _ _ C,by rw[ade];exact C⟩
structure dr(LO M Bm:Nat)(w0 W:World)(v:Value)(g:G)(i:Nat)(va:Value)(xs:List Nat)(vb:Value)(ys:List Nat):Prop where
 Xc:Zj LO M Bm W v g
 fr:Yb LO M Bm w0 W
 rn:W.ownsRow w0.heap.size 53 1 va i (Vw xs)
 rm:W.ownsRow w0.heap.size 3 1 vb i (UC ys)
section
variable {LO M Bm:Nat} {w0 W:World} {v:Value} {g:G} {i:Nat} {va:Value} {xs:List Nat} {vb:Value} {ys:List Nat}
theorem Yb.Gk(h:Yb LO M Bm w0 W)(C:LO<=w0.heap.size)(o:Obj):Yb LO M Bm w0 (W.alloc o):=h.trans (Yb.alloc o (aO C h.2.1))
end
structure Yl(LO M Bm B1 k code:Nat)(w0 W:World)(v:Value)(g:G)(na:Nat)(va:Value)(xs:List Value)(nb:Nat)(vb:Value)(ys:List Value)(pa:Option Nat)(pb:Option (Nat×Value)):Prop where
 Xc:Zj LO M Bm W v g
 fr:Yb LO M Bm w0 W
 rn:W.ownsRow w0.heap.size 53 1 va na xs
 rm:W.ownsRow w0.heap.size 3 1 vb nb ys
 bx:Z7 W B1 123 #[.int .u32 k,.int .u32 code]
 ta:∀b,pa=some b->Z7 W b 53 #[.int .u32 k]
 tb:∀b u,pb=some (b,u)->Z7 W b 3 #[u]/\u.oneCell'=true
 lo:LO<=w0.heap.size
section
variable {LO M Bm B1 k code:Nat} {w0 W:World} {v:Value} {g:G} {na:Nat} {va:Value} {xs:List Value} {nb:Nat} {vb:Value} {ys:List Value} {pa:Option Nat} {pb:Option (Nat×Value)}
theorem Yl.S(h:Yl LO M Bm B1 k code w0 W v g na va xs nb vb ys pa pb):W.cell? ⟨B1,0,none⟩=some (.int .u32 k)/\W.cell? ⟨B1,1,none⟩=some (.int .u32 code):=⟨by simpa using h.bx.cell 0,by simpa using h.bx.cell 1⟩
theorem Yl.drew(h:Yl LO M Bm B1 k code w0 W v g na va xs nb vb ys pa pb):Yl LO M Bm B1 k code w0 W.drew v g na va xs nb vb ys pa pb:=⟨h.Xc.drew,h.fr.drew,h.rn.drew,h.rm.drew,h.bx,h.ta,h.tb,h.lo⟩
theorem Yl.V3(h:Yl LO M Bm B1 k code w0 W v g na va xs nb vb ys none pb):Yl LO M Bm B1 k code w0 (W.alloc (.cells #[.int .u32 k] 53)) v g na va xs nb vb ys (some W.heap.size) pb:=
 ⟨h.Xc.al _,h.fr.Gk h.lo _,h.rn.alloc _,h.rm.alloc _,h.bx.alloc _,λb e=>(by cases e;exact Z7.new W _ _),λb u e=>⟨(h.tb b u e).1.alloc _,(h.tb b u e).2⟩,h.lo⟩
theorem Yl.Xg{u:Int}(h:Yl LO M Bm B1 k code w0 W v g na va xs nb vb ys pa none):Yl LO M Bm B1 k code w0 (W.alloc (.cells #[.int .i64 u] 3)) v g na va xs nb vb ys pa (some (W.heap.size,.int .i64 u)):=
 ⟨h.Xc.al _,h.fr.Gk h.lo _,h.rn.alloc _,h.rm.alloc _,h.bx.alloc _,λb e=>(h.ta b e).alloc _,λb u e=>(by cases e;exact⟨Z7.new W _ _,rfl⟩),h.lo⟩
theorem Yl.goes(h:Yl LO M Bm B1 k code w0 W v g na va xs nb vb ys pa pb)(D:V9 g)(hc:code<4294967296)(hn:(g.goes code).n<=1000000):
 Calls prog 50 #[.pointer (some ⟨M,0,none⟩),.int .u32 code] W λe w'=>e=.returned (.int .i64 ((look (g.goes code).b code:Nat):Int))/\Yl LO M Bm B1 k code w0 w' v (g.goes code) na va xs nb vb ys pa pb:=by
 refine(TW W h.Xc D hc hn (aO h.lo h.fr.2.1)).mono ?_;rintro e w' ⟨rfl,I,C⟩;exact⟨rfl,I,h.fr.trans C,C.TN h.Xc h.rn jD jD,C.TN h.Xc h.rm jD jD,C.Yu h.Xc h.bx jD jD,λb e=>C.Yu h.Xc (h.ta b e) jD jD,λb u e=>⟨C.Yu h.Xc (h.tb b u e).1 jD jD,(h.tb b u e).2⟩,h.lo⟩
theorem Yl.Zn{ops:Array Oper}{o:Oper}{a:Act}{K:Act->World->Prop}{Q:Exit->Act->World->Prop}{E:Prop}{b:Nat}(h:Yl LO M Bm B1 k code w0 W v g na va xs nb vb ys (some b) pb)(J:o.guard=none)(s x:Operand)
 (ho:o.op=.call {callee:=.builtin .append,args:=#[s,x],argTypes:=#[100,100]}) (hs:a.eval s=va) (hx:a.eval x=.slice (some ⟨b,0,none⟩) 1 1) (Y:na<=4096)
 (hK:∀gb cap w',Yl LO M Bm B1 k code w0 w' v g (na+1) (.slice (some ⟨gb,0,none⟩) (na+1) cap) (xs++[.int .u32 k]) nb vb ys none pb->K (a.put o.dst (.slice (some ⟨gb,0,none⟩) (na+1) cap)) w'):
 if Region.wanted o (yielded ops a.tmps)=true then Oper.wp prog o a W K Q else E:=by
 obtain⟨Z,hi,I,T,U⟩:=ZP zi;refine step_append_lies W J s x 100 ho w0.heap.size 53 Z (.int .u32 0) 1 4 underlying100 hi I T U rfl jD va na xs hs h.rn ⟨b,0,none⟩ 1 1 [.int .u32 k] hx rfl ?_ ?_ jD (by unfold maxLen;omega) jO h.fr.2.1 _ rfl ?_;·exact World.news_of_block (h.ta b rfl)
 ·intro u hu;rw[aaa.1 hu];rfl
 ·intro gb cap w' C D _ _;exact hK gb cap w' ⟨Oq h.Xc h.rn D jD jD,Oo h.fr h.rn D (aR _) h.lo,C,Xn h.rn D h.rm jD,Zc h.rn D h.bx jD,λb e=>(by cases e),λb u e=>⟨Zc h.rn D (h.tb b u e).1 jD,(h.tb b u e).2⟩,h.lo⟩
theorem Yl.ag6{ops:Array Oper}{o:Oper}{a:Act}{K:Act->World->Prop}{Q:Exit->Act->World->Prop}{E:Prop}{b:Nat}{u:Value}(h:Yl LO M Bm B1 k code w0 W v g na va xs nb vb ys pa (some (b,u)))(J:o.guard=none)(s x:Operand)
 (ho:o.op=.call {callee:=.builtin .append,args:=#[s,x],argTypes:=#[94,94]}) (hs:a.eval s=vb) (hx:a.eval x=.slice (some ⟨b,0,none⟩) 1 1) (Y:nb<=4096)
 (hK:∀gb cap w',Yl LO M Bm B1 k code w0 w' v g na va xs (nb+1) (.slice (some ⟨gb,0,none⟩) (nb+1) cap) (ys++[u]) pa none->K (a.put o.dst (.slice (some ⟨gb,0,none⟩) (nb+1) cap)) w'):
 if Region.wanted o (yielded ops a.tmps)=true then Oper.wp prog o a W K Q else E:=by
 obtain⟨Z,hi,I,T,U⟩:=ZP zh;refine step_append_lies W J s x 94 ho w0.heap.size 3 Z (.int .i64 0) 1 8 underlying94 hi I T U rfl jD vb nb ys hs h.rm ⟨b,0,none⟩ 1 1 [u] hx rfl ?_ ?_ jD (by unfold maxLen;omega) jO h.fr.2.1 _ rfl ?_;·exact World.news_of_block (h.tb b u rfl).1
 ·intro x hu;rw[aaa.1 hu];exact(h.tb b u rfl).2
 ·intro gb cap w' C D _ _;exact hK gb cap w' ⟨Oq h.Xc h.rm D jD jD,Oo h.fr h.rm D (aR _) h.lo,Xn h.rm D h.rn jD,C,Zc h.rm D h.bx jD,λb e=>Zc h.rm D (h.ta b e) jD,λb u e=>(by cases e),h.lo⟩
end
theorem xi{l:List (Nat×Nat)}{ys:List Nat}{f:Nat->Nat}(hl:ys.length=l.length)(h:∀(j:Nat) (q:Nat×Nat) (y:Nat),l[j]? =some q->ys[j]? =some y->f q.2=y):U9 (l.map (·.1)) ys 0=l.map λp=>(p.1,f p.2):=by
 unfold U9;rw[auf];apply agb;intro j;rw[acd];cases C:l[j]? with
 |none=>
  rw[ahg];·rfl
  ·rw[List.length_zip,aab,hl,Nat.min_self];exact List.getElem?_eq_none_iff.1 C
 |some q=>
  have D:=(ak.1 C).1;obtain⟨y,hy⟩:∃y,ys[j]? =some y:=⟨_,aL jO⟩;have e:(List.zip (l.map (·.1)) ys)[j]? =some (q.1,y):=List.getElem?_zip_eq_some.2 ⟨by rw[acd,C];rfl,hy⟩;rw[e];show some (q.1,y)=some (q.1,f q.2);rw[h j q y C hy]
theorem Ec{LO M Bm N ow:Nat}{v va:Value}{g:G}(l:List (Nat×Nat))(Xo:l.length<=4000)(hr:l.Pairwise (λa b=>a.1<b.1))(dp:∀p∈l,p.2<4294967296)(w:World)(h:Zj LO M Bm w v g)(hg:V9 g)(hG:GB (WG ow l g))(hm:Vy N w va l)(hN:N<=LO)(T:LO<=w.heap.size):
 Calls prog 170 #[.pointer (some ⟨M,0,none⟩),va,.int .i64 ow] w λe w'=>e=.returned (.tuple #[])/\∃v',Zj LO M Bm w' v' (WG ow l g)/\Yb LO M Bm w w'/\V9 (WG ow l g):=by
 have Fo:=hm;obtain⟨aa,ac,rfl,hzz⟩:=Fo;clear hzz;obtain⟨L,hL⟩:=jX l.length;rw[hL] at Xo ⊢;obtain⟨g1,hg1⟩:=jX (g.put [ins 0x20 16 0 0]);obtain⟨gE,D⟩:=jX (Zw l g1);have hsg:WG ow l g=ZH ow (l.map λp=>(p.1,look gE.b p.2)) gE:=by unfold WG;rw[hg1,D]
 have U:V9 g1:=by rw[<-hg1];exact hg.put _
 have su:V9 (WG ow l g):=by rw[hsg,<-D];exact UD ow _ _ _ (aR _) (MD l _ U dp)
 have hbE:GB gE:=by rw[hsg] at hG;exact hG.back (WV ow _ _ _ (aR _))
 have hb1:GB g1:=by rw[<-D] at hbE;exact hbE.back (Tn l g1)
 have Li:g.l.length+1<=1000000:=by
  have h1:=hb1.1;rw[<-hg1] at h1;have e:(g.put [ins 0x20 16 0 0]).l.length=g.l.length+1:=by show(g.l++_).length=_;rw[ay];rfl
  omega
 have HL:=aT hL;have HM:=aT hm;have HR:=aT hr;have HCD:=aT dp;have HG:=aT hG;have HG1:=aT hg1;have gT:=aT D;have HSG:=aT hsg;have HBE:=aT hbE;have HH:=aT h;have nA:=aT U;have dm:=aT su;clear hL hm hr dp hG hg1 D hsg hbE hb1 h hg U su;go_enter func170,ntmps170;go_wp2_with fail;refine(zo 0 jD w).mono ?_;rintro e w1 ⟨rfl,rfl⟩
 go_wp2_with (refine Great.wpList_buildSliceTo rfl 79 Wc 1 _ rfl _ rfl _ rfl underlying79 #[.int .i64 0,.int .u16 32,.int .u32 16,.int .i64 0,.int .i64 0] jK ?_)
 refine(YW (xs:=[ins 0x20 16 0 0]) w1 HH.out rfl rfl Li T).mono ?_;rintro e w2 ⟨rfl,v2,h2,f2⟩;rw[HG1.out] at h2;have LD:=aT h2;have LF:=aT f2;clear h2 f2 HH;go_upto_region 5 with fail;go_loopg [8,9,24] (L+1) (λgg vn vm iv wr=>∃(i:Nat) (v':Value) (g':G) (ys:List Nat),i<=L/\L-i<gg/\iv=.int .i64 (i:Int)/\Hid (dr LO M Bm w1 wr v' g' i vn ((l.take i).map (·.1)) vm ys)/\Hid (V9 g')/\Hid (g'=Zw (l.take i) g1)/\Hid (ys.length=i/\∀(j:Nat) (q:Nat×Nat) (y:Nat),l[j]? =some q->ys[j]? =some y->look g'.b q.2=y/\y≠0));case atStart=>exact⟨0,v2,g1,[],abd _,jO,rfl,⟨LD.out,LF.out,Ya _ _ _ _,Ya _ _ _ _⟩,nA,rfl,rfl,λj q y _ h=>by simp at h⟩
 case round=>
  obtain⟨i,v',g',ys,sR,Vs,rfl,C,J,lX,HYS⟩:=hrel;have i0:=jZ i;by_cases hlt:i<L
  ·have Zd:(i:Int)<(L:Int):=by omega
   obtain⟨p,hp⟩:∃p,l[i]? =some p:=⟨_,aL (by rw[HL.out];exact hlt)⟩;obtain⟨a2,c2,e2,hrow⟩:=HM.out;injection e2 with e3 _ e4;subst e3 e4;obtain⟨gb,off,rfl,UW,e0,e1⟩:=hrow i p hp;have y0:=ZY C.out.fr.1 hN UW e0;have y1:=ZY C.out.fr.1 hN UW e1;obtain⟨k,code⟩:=p;have I:=HCD.out _ (ag hp);dsimp only at I y0 y1;have BW:LO<=wr.heap.size:=aO T C.out.fr.2.1;have HP:=aT hp;clear hrow e0 e1 hp;obtain⟨na,nc,rfl⟩:=ZI C.out.rn;obtain⟨ma,mc,rfl⟩:=ZI C.out.rm;have hnn:(g'.goes code).n<=1000000:=by
    have h1:=HBE.out;have e1:Zw (l.drop (i+1)) (g'.goes code)=gE:=by rw[lX.out,<-Om HP.out,<-Rs,aoa,gT.out]
    rw[<-e1] at h1;exact aO (h1.back (Tn _ _)).2 jD
   have hBx:=Z7.new wr 123 #[.int .u32 k,.int .u32 code]
   have UB:Hid (Yl LO M Bm wr.heap.size k code w1 (wr.alloc (.cells #[.int .u32 k,.int .u32 code] 123)) v' g' i (.slice na i nc) (Vw ((l.take i).map (·.1))) i (.slice ma i mc) (UC ys) none none):=
    ⟨C.out.Xc.al _,C.out.fr.Gk T _,C.out.rn.alloc _,C.out.rm.alloc _,hBx,λb e=>(by cases e),λb u e=>(by cases e),T⟩
   clear hBx C;go_upto_region 7 with fail;clear y0 y1;generalize wr.alloc (.cells #[.int .u32 k,.int .u32 code] 123)=wa at*;generalize wr.heap.size=B1 at*;have tP:=aT UB.out.drew;have Jf:=aT UB.out.V3.drew
   go_region_held_law (λw'=>w'.cell? ⟨B1,0,none⟩=some (.int .u32 k)/\w'.cell? ⟨B1,1,none⟩=some (.int .u32 code)) (exact Yl.S (aje (by (first|assumption|exact tP|exact Jf|exact aT (Yl.V3 (aje jA))|exact aT (Yl.Xg (aje jA))|exact aT (Yl.V3 (Yl.Xg (aje jA)))|exact aT (Yl.Xg (Yl.V3 (aje jA))))))) (first
    |(refine Yl.Zn (aje (by (first|assumption|exact tP|exact Jf|exact aT (Yl.V3 (aje jA))|exact aT (Yl.Xg (aje jA))|exact aT (Yl.V3 (Yl.Xg (aje jA)))|exact aT (Yl.Xg (Yl.V3 (aje jA)))))) rfl _ _ rfl rfl rfl jO ?_;intro gb2 ag7 w8 h8;have Eb:=aT h8;clear h8)
    |(refine Yl.ag6 (aje (by (first|assumption|exact tP|exact Jf|exact aT (Yl.V3 (aje jA))|exact aT (Yl.Xg (aje jA))|exact aT (Yl.V3 (Yl.Xg (aje jA)))|exact aT (Yl.Xg (Yl.V3 (aje jA)))))) rfl _ _ rfl rfl rfl jO ?_;intro gb2 ag7 w8 h8;have Eb:=aT h8;clear h8)
    |(go_at_call 50;refine(Yl.goes (aje (by (first|assumption|exact tP|exact Jf|exact aT (Yl.V3 (aje jA))|exact aT (Yl.Xg (aje jA))|exact aT (Yl.V3 (Yl.Xg (aje jA)))|exact aT (Yl.Xg (Yl.V3 (aje jA)))))) J.out I hnn).mono ?_;rintro e w7 ⟨rfl,h7⟩;have LA:=aT h7;clear h7))
   have HX:Hid (Vw ((l.take (i+1)).map (·.1))=Vw ((l.take i).map (·.1))++[.int .u32 k]):=by show _=_;rw[afd,HP.out,ada,ID];rfl
   have xh:Hid (UC (ys++[look (g'.goes code).b code])=UC ys++[.int .i64 ((look (g'.goes code).b code:Nat):Int)]):=IC _ _;have di:Hid (g'.goes code=Zw (l.take (i+1)) g1):=by show _=_;rw[Om HP.out,<-lX.out]
   have at4:Hid ((ys++[look (g'.goes code).b code]).length=i+1/\∀(j:Nat) (q:Nat×Nat) (y:Nat),l[j]? =some q->(ys++[look (g'.goes code).b code])[j]? =some y->look (g'.goes code).b q.2=y/\y≠0):=by
    obtain⟨h1,h2⟩:=HYS.out;refine⟨by rw[ay,h1];rfl,λj q y hq hy=> ?_⟩;by_cases hj:j<i;·rw[abc jO] at hy;obtain⟨h3,h4⟩:=h2 j q y hq hy;exact⟨by rw[xl J.out (by rw[h3];exact h4)];exact h3,h4⟩
    ·have dh:j=i:=by
      have:=(ak.1 hy).1;rw[ay,h1] at this;simp at this;omega
     subst dh;rw[HP.out] at hq;cases hq;rw[aad jO,h1,alc] at hy;cases hy;exact⟨rfl,xj J.out code⟩
   have iw:=jW i;have Jh:=aT (J.out.goes I);go_wp2_with fail;go_roundg (L-i);case measure=>omega
   case rel=>exact⟨i+1,v',g'.goes code,ys++[look (g'.goes code).b code],jO,jO,by go_num,⟨Eb.out.Xc,Eb.out.fr,by rw[HX.out];exact Eb.out.rn,by rw[xh.out];exact Eb.out.rm⟩,Jh,di,at4⟩
  ·obtain rfl:L=i:=by omega
   have Zd:¬(L:Int)<(L:Int):=jO;have D:g'=gE:=by rw[lX.out,abe (by rw[HL.out];exact aR _),gT.out]
   subst D;obtain⟨Vb,Tl⟩:=HYS.out;have gR:=xi (l:=l) (ys:=ys) (f:=look g'.b) (by rw[HL.out];exact Vb) (λj q y h1 h2=>(Tl j q y h1 h2).1);have BM:=C.out.rn;have hrm:=Y7 C.out.rm T;rw[abe (by rw[HL.out];exact aR _)] at BM;obtain⟨na,nc,rfl⟩:=ZI BM;obtain⟨ma,mc,rfl⟩:=ZI hrm;have hlm:(l.map (·.1)).length=L:=by rw[aab,HL.out]
   have Y:=Lh BM;have BW:LO<=wr.heap.size:=aO T C.out.fr.2.1;have Z:=aT (KD (ow:=ow) (ms:=ys) (l:=l.map (·.1)) hlm jO (afa.2 HR.out) Vb wr C.out.Xc (IA hlm BM) Y.1 Y.2 (aR _) (by rw[Vb];exact hrm) (by rw[gR,<-HSG.out];exact HG.out) BW);have HZ:=aT gR;have HFc:=aT C.out.fr;clear Vb Tl gR BM hrm Y C;go_wp2_with fail;refine Z.out.mono ?_;rintro e w5 ⟨rfl,v5,h5,f5⟩;rw[HZ.out,<-HSG.out] at h5;have HM5:=aT h5;have tQ:=aT (HFc.out.trans f5);clear h5 f5 Z;go_wp2_with fail;go_end0;exact⟨rfl,v5,HM5.out,tQ.out,dm.out⟩
end Go.Proofs.YtclgigmgbebhgaaGreatDoor
namespace Go.Proofs.YtclgigmgbebhgaaGreatDoor
open Tryz
open Go Go.Proofs Go.RowKit Go.Sort Go.Shelf
variable {α:Type} [Inhabited α]
theorem KC{enc:α->List Value}{k:Nat}(hk:∀x,(enc x).length=k)(d:Array α){t:Nat}(ht:t<d.size*k):(d.toList.flatMap enc)[t]? =some (flatK enc k d)[t]! :=by
 have C:0<k:=by
  rcases Nat.eq_zero_or_pos k with h|h;·subst h;simp at ht
  ·exact h
 have hi:t/k<d.size:=(Nat.div_lt_iff_lt_mul C).2 ht;have hm:t%k<k:=avf _ C;rw[get_flatK enc k d t ht];have hx:d.toList[t/k]? =some d[t/k]! :=by rw[aga,ang hi,azc d _ hi]
 have h:=Gl enc k hk d.toList (t/k) _ hx (t%k) hm;rw[Nat.div_add_mod'] at h;rw[h];have hl:t%k<(enc d[t/k]!).length:=by rw[hk];exact hm
 rw[azc (enc d[t/k]!) _ hl,aL hl]
theorem BK{enc:α->List Value}{k:Nat}(hk:∀x,(enc x).length=k){W:World}{base g e n cap:Nat}{l:List α}(hn:l.length=n)(h:W.ownsRow base e k (.slice (some ⟨g,0,none⟩) n cap) n (l.flatMap enc)):HoldsK enc k W g 0 l.toArray:=by
 intro j C;rw[size_flatK] at C;have D:j<n*k:=by simpa [hn] using C
 refine⟨?_,by rw[ade];exact h.frozenAt j⟩;rw[ade,h.cellAt j D];exact KC hk l.toArray (t:=j) (by simpa using C)
theorem KB{enc:α->List Value}{k:Nat}(hk:∀x,(enc x).length=k){W:World}{base g e n cap:Nat}{xs:List Value}(h:W.ownsRow base e k (.slice (some ⟨g,0,none⟩) n cap) n xs)(m:Nat)(d':Array α)(hd:d'.size=n)(os:Array Obj):
 (sortWorldK enc k W g 0 m d' os).ownsRow base e k (.slice (some ⟨g,0,none⟩) n cap) n (d'.toList.flatMap enc)/\W.heap.size<=(sortWorldK enc k W g 0 m d' os).heap.size/\∀j o,W.heap[j]? =some o->j≠g->(sortWorldK enc k W g 0 m d' os).heap[j]? =some o:=by
 have hlen:(d'.toList.flatMap enc).length=n*k:=by
  have:∀l:List α,(l.flatMap enc).length=l.length*k:=by
   intro l
   induction l with
   |nil=>simp
   |cons x l Y=>rw[ace,ay,Y,hk,ai,ara];omega
  rw[this,ane,hd]
 have C:∀j,j<W.heap.size->(sortWorldK enc k W g 0 m d' os).heap[j]? =if g=j then(W.heap[j]?).map (onCells (putCells id 0 (flatK enc k d'))) else W.heap[j]? :=by intro j I;have e:(sortWorldK enc k W g 0 m d' os).heap=W.heap.modify g (onCells (putCells id 0 (flatK enc k d')))++os:=rfl;rw[e,Array.getElem?_append_left (by simpa using I),ala]
 refine⟨⟨hlen,?_⟩,size_sortWorldK_c enc k W g 0 m d' os,λj o I J=> ?_⟩
 ·rcases h.2 with⟨e1,_⟩|⟨g1,U,D,e1,e2,e3,e4,e5,T,Z⟩
  ·cases e1
  ·cases e1;refine .inr ⟨g,cap,putCells id 0 (flatK enc k d') D,rfl,e2,?_,e4,e5,by unfold putCells;rw[Array.size_mapIdx,T],?_⟩;·rw[C g (aac.1 e3).1,aF rfl,e3];rfl
   ·apply agb;intro t;rw[aja];by_cases ht:t<n*k
    ·rw[aF ht,KC hk d' (by rw[hd];exact ht),aga]
     have hc:t<D.size:=by rw[T];exact adg ht (aud k e4)
     unfold putCells;rw[Array.getElem?_mapIdx,ang hc];simp only[avd,abd,true_and,ade,size_flatK,hd,Nat.sub_zero,id_eq];rw[aF ht]
    ·rw[aN ht,ahg (by rw[hlen];omega)]
 ·rw[C j (aac.1 I).1,aN (ame J),I]
theorem Iz{d d':Array α}(h:PermIn 0 d.size d d'):d'.toList.Perm d.toList:=by
 obtain⟨D,_,C⟩:=h;have e1:d'.extract 0 d.size=d':=by rw[<-D];simp
 have e2:d.extract 0 d.size=d:=jS;rw[e1,e2] at C;exact C
theorem Ea{lt:α->α->Bool}{d:Array α}(h:SortedIn lt 0 d.size d):d.toList.Pairwise (λa b=>lt b a=false):=by
 rw[ama];intro i j hi D C;have:=h i j (abd _) C (by simpa using D);rw[azc d i (by simpa using hi),azc d j (by simpa using D)] at this;simpa using this
theorem Gj{enc:α->List Value}{k:Nat}(hk:∀x,(enc x).length=k){W:World}{base g e n cap:Nat}{xs:List Value}(h:W.ownsRow base e k (.slice (some ⟨g,0,none⟩) n cap) n xs)(m:Nat)(d':Array α)(hd:d'.size=n)(os:Array Obj):RowKit.Below base W (sortWorldK enc k W g 0 m d' os):=by
 obtain⟨_,hs,hf⟩:=KB hk h m d' hd os;refine⟨rfl,rfl,rfl,hs,λj I=> ?_⟩;rcases h.2 with⟨e1,_⟩|⟨J,C,D,e1,e2,e3,_⟩
 ·cases e1
 ·cases e1;have hl:=(aac.1 e3).1;obtain⟨o,ho⟩:∃o,W.heap[j]? =some o:=⟨_,ang jO⟩;rw[hf j o ho jO,ho]
theorem Ol{P:Program}{ρ:Ren}(L:SlLaysF0.n6 P ρ)(k:Nat)(aE:∀w,(isAgg (ρ.t 24)).run P w=.ok true w)(zE:∀w,(Go.sizeOf (ρ.t 24)).run P w=.ok k w)(enc:α->List Value)(hk:∀x,(enc x).length=k)(h1:∀x,∀v∈enc x,v.oneCell'=true)(J:α->α->Int)(hO:SWO (ltOf J))(g:Nat)(cb:Array Value)
 (eg:∀args w,(callFunc g args).run P w=.ok (.enter g args) w) (I:∀x y W,Calls P g (#[.agg (enc x).toArray,.agg (enc y).toArray]++cb) W λe w'=>e=.returned (.int .i64 (J x y))/\∃q Y,w'=grow (W.drewN q) Y)
 {base e n:Nat} {v:Value} {d:List α} (w:World) (hn:d.length=n) (C:w.ownsRow base e k v n (d.flatMap enc)) (hsz:n<=1000000):
 Calls P (ρ.f 6) #[v,.func (.func g) #[] cb] w λU w'=>U=.returned (.tuple #[])/\∃d':List α,d'.Perm d/\d'.Pairwise (λa b=>ltOf J b a=false)/\w'.ownsRow base e k v n (d'.flatMap enc)/\RowKit.Below base w w'/\w.heap.size<=w'.heap.size/\∀j o,w.heap[j]? =some o->v.ownBlock≠some j->w'.heap[j]? =some o:=by
 rcases C.2 with⟨rfl,rfl⟩|⟨b,cap,cur,rfl,h2,h3,_⟩
 ·obtain rfl:d=[]:=alb.1 hn;refine(AnyF.slices_SortFunc_none L none 0 (.func (.func g) #[] cb) w).mono ?_;rintro U w' ⟨rfl,h⟩
  first
   |(subst h;exact⟨rfl,[],axa _,List.Pairwise.nil,C,RowKit.Below.refl _ _,aR _,λj o h _=>h⟩)
   |(obtain⟨q,rfl⟩:=h;exact⟨rfl,[],axa _,List.Pairwise.nil,C,RowKit.Below.refl _ _,aR _,λj o h _=>h⟩)
 ·have hH:=BK hk hn C;have h:=AnyQ.slices_SortFunc L k aE zE enc hk h1 J hO g cb b 0 cap d.toArray w eg (λm os dk _ x y=>I x y _) hH (aac.1 h3).1 (by simp;omega);rw[show d.toArray.size=n by simpa using hn] at h;refine h.mono ?_;rintro U w' ⟨rfl,d',m,os,hp,hs,rfl⟩;rw[<-show d.toArray.size=n by simpa using hn] at hp hs;have D:d'.size=n:=hp.1.trans (by simpa using hn);obtain⟨k1,k2,k3⟩:=KB hk C m d' D os;refine⟨rfl,d'.toList,Iz hp,?_,k1,Gj hk C m d' D os,k2,λj o Z T=>k3 j o Z (λe=>T (by rw[e];rfl))⟩;refine Ea ?_;rw[hp.1];exact hs
end Go.Proofs.YtclgigmgbebhgaaGreatDoor
namespace Go.Proofs
open Tryz
open Go.Shelf
def Tryz.Gi:Go.Shelf.Ren:=⟨fun|6=>172|15=>97|14=>244|28=>154|29=>155|20=>315|21=>316|22=>317|23=>318|24=>319|25=>320|26=>321|27=>322|46=>346|47=>226|48=>227|49=>347|50=>348|57=>359|n=>n,fun|22=>216|24=>219|25=>289|3=>3|39=>107|0=>0|53=>53|55=>23|4=>4|46=>271|45=>270|50=>110|5=>5|9=>9|66=>334|70=>338|76=>384|77=>385|n=>n,fun|n=>n⟩
theorem Tryz.sr:Go.Proofs.SlLaysF0.n6 prog Tryz.Gi:={
 mixed:=by kernel_rfl
 f6:=⟨Tryz.f172.name,by decide,func172.trans (congrArg some (by kernel_rfl))⟩
 f14:=⟨Tryz.f244.name,by decide,func244.trans (congrArg some (by kernel_rfl))⟩
 f15:=func97.trans (congrArg some (by kernel_rfl))
 f20:=⟨Tryz.f315.name,by decide,func315.trans (congrArg some (by kernel_rfl))⟩
 f21:=⟨Tryz.f316.name,by decide,func316.trans (congrArg some (by kernel_rfl))⟩
 f22:=⟨Tryz.f317.name,by decide,func317.trans (congrArg some (by kernel_rfl))⟩
 f23:=⟨Tryz.f318.name,by decide,func318.trans (congrArg some (by kernel_rfl))⟩
 f24:=⟨Tryz.f319.name,by decide,func319.trans (congrArg some (by kernel_rfl))⟩
 f25:=⟨Tryz.f320.name,by decide,func320.trans (congrArg some (by kernel_rfl))⟩
 f26:=⟨Tryz.f321.name,by decide,func321.trans (congrArg some (by kernel_rfl))⟩
 f27:=⟨Tryz.f322.name,by decide,func322.trans (congrArg some (by kernel_rfl))⟩
 f28:=func154.trans (congrArg some (by kernel_rfl))
 f29:=func155.trans (congrArg some (by kernel_rfl))
 f46:=⟨Tryz.f346.name,by decide,func346.trans (congrArg some (by kernel_rfl))⟩
 f47:=func226.trans (congrArg some (by kernel_rfl))
 f48:=func227.trans (congrArg some (by kernel_rfl))
 f49:=⟨Tryz.f347.name,by decide,func347.trans (congrArg some (by kernel_rfl))⟩
 f50:=⟨Tryz.f348.name,by decide,func348.trans (congrArg some (by kernel_rfl))⟩
 f57:=⟨Tryz.f359.name,by decide,func359.trans (congrArg some (by kernel_rfl))⟩
 t0:=underlying0
 a0:=isAgg0
 z0:=sizeOf0
 v0:=zeroValue0
 t3:=underlying3
 a3:=isAgg3
 z3:=sizeOf3
 v3:=zeroValue3
 t4:=underlying4
 a4:=isAgg4
 z4:=sizeOf4
 v4:=zeroValue4
 t5:=underlying5
 a5:=isAgg5
 z5:=sizeOf5
 v5:=zeroValue5
 t9:=underlying9
 a9:=isAgg9
 z9:=sizeOf9
 v9:=zeroValue9
 t22:=underlying216
 a22:=isAgg216
 z22:=sizeOf216
 v22:=zeroValue216
 t25:=underlying289
 a25:=isAgg289
 z25:=sizeOf289
 v25:=zeroValue289
 t39:=underlying107
 a39:=isAgg107
 z39:=sizeOf107
 v39:=zeroValue107
 t45:=underlying270
 a45:=isAgg270
 z45:=sizeOf270
 v45:=zeroValue270
 t46:=underlying271
 a46:=isAgg271
 z46:=sizeOf271
 v46:=zeroValue271
 t50:=underlying110
 a50:=isAgg110
 z50:=sizeOf110
 v50:=zeroValue110
 t53:=underlying53
 a53:=isAgg53
 z53:=sizeOf53
 v53:=zeroValue53
 t55:=underlying23
 a55:=isAgg23
 z55:=sizeOf23
 v55:=zeroValue23
 t66:=underlying334
 a66:=isAgg334
 z66:=sizeOf334
 v66:=zeroValue334
 t70:=underlying338
 a70:=isAgg338
 z70:=sizeOf338
 v70:=zeroValue338
 t76:=underlying384
 a76:=isAgg384
 z76:=sizeOf384
 v76:=zeroValue384
 t77:=underlying385
 a77:=isAgg385
 z77:=sizeOf385
 v77:=zeroValue385}
def Tryz.Je:Go.Shelf.Ren:=⟨fun|6=>42|15=>97|14=>96|28=>154|29=>155|20=>146|21=>147|22=>148|23=>149|24=>150|25=>151|26=>152|27=>153|46=>225|47=>226|48=>227|49=>228|50=>229|57=>303|n=>n,fun|22=>73|24=>119|25=>129|3=>3|39=>107|0=>0|53=>53|55=>23|4=>4|46=>271|45=>270|50=>110|5=>5|9=>9|66=>334|70=>338|76=>384|77=>385|n=>n,fun|n=>n⟩
theorem Tryz.xg:Go.Proofs.SlLaysF0.n6 prog Tryz.Je:={
 mixed:=by kernel_rfl
 f6:=⟨Tryz.f42.name,by decide,func42.trans (congrArg some (by kernel_rfl))⟩
 f14:=⟨Tryz.f96.name,by decide,func96.trans (congrArg some (by kernel_rfl))⟩
 f15:=func97.trans (congrArg some (by kernel_rfl))
 f20:=⟨Tryz.f146.name,by decide,func146.trans (congrArg some (by kernel_rfl))⟩
 f21:=⟨Tryz.f147.name,by decide,func147.trans (congrArg some (by kernel_rfl))⟩
 f22:=⟨Tryz.f148.name,by decide,func148.trans (congrArg some (by kernel_rfl))⟩
 f23:=⟨Tryz.f149.name,by decide,func149.trans (congrArg some (by kernel_rfl))⟩
 f24:=⟨Tryz.f150.name,by decide,func150.trans (congrArg some (by kernel_rfl))⟩
 f25:=⟨Tryz.f151.name,by decide,func151.trans (congrArg some (by kernel_rfl))⟩
 f26:=⟨Tryz.f152.name,by decide,func152.trans (congrArg some (by kernel_rfl))⟩
 f27:=⟨Tryz.f153.name,by decide,func153.trans (congrArg some (by kernel_rfl))⟩
 f28:=func154.trans (congrArg some (by kernel_rfl))
 f29:=func155.trans (congrArg some (by kernel_rfl))
 f46:=⟨Tryz.f225.name,by decide,func225.trans (congrArg some (by kernel_rfl))⟩
 f47:=func226.trans (congrArg some (by kernel_rfl))
 f48:=func227.trans (congrArg some (by kernel_rfl))
 f49:=⟨Tryz.f228.name,by decide,func228.trans (congrArg some (by kernel_rfl))⟩
 f50:=⟨Tryz.f229.name,by decide,func229.trans (congrArg some (by kernel_rfl))⟩
 f57:=⟨Tryz.f303.name,by decide,func303.trans (congrArg some (by kernel_rfl))⟩
 t0:=underlying0
 a0:=isAgg0
 z0:=sizeOf0
 v0:=zeroValue0
 t3:=underlying3
 a3:=isAgg3
 z3:=sizeOf3
 v3:=zeroValue3
 t4:=underlying4
 a4:=isAgg4
 z4:=sizeOf4
 v4:=zeroValue4
 t5:=underlying5
 a5:=isAgg5
 z5:=sizeOf5
 v5:=zeroValue5
 t9:=underlying9
 a9:=isAgg9
 z9:=sizeOf9
 v9:=zeroValue9
 t22:=underlying73
 a22:=isAgg73
 z22:=sizeOf73
 v22:=zeroValue73
 t25:=underlying129
 a25:=isAgg129
 z25:=sizeOf129
 v25:=zeroValue129
 t39:=underlying107
 a39:=isAgg107
 z39:=sizeOf107
 v39:=zeroValue107
 t45:=underlying270
 a45:=isAgg270
 z45:=sizeOf270
 v45:=zeroValue270
 t46:=underlying271
 a46:=isAgg271
 z46:=sizeOf271
 v46:=zeroValue271
 t50:=underlying110
 a50:=isAgg110
 z50:=sizeOf110
 v50:=zeroValue110
 t53:=underlying53
 a53:=isAgg53
 z53:=sizeOf53
 v53:=zeroValue53
 t55:=underlying23
 a55:=isAgg23
 z55:=sizeOf23
 v55:=zeroValue23
 t66:=underlying334
 a66:=isAgg334
 z66:=sizeOf334
 v66:=zeroValue334
 t70:=underlying338
 a70:=isAgg338
 z70:=sizeOf338
 v70:=zeroValue338
 t76:=underlying384
 a76:=isAgg384
 z76:=sizeOf384
 v76:=zeroValue384
 t77:=underlying385
 a77:=isAgg385
 z77:=sizeOf385
 v77:=zeroValue385}
def Tryz.D9:Go.Shelf.Ren:=⟨fun|6=>45|15=>97|14=>99|28=>154|29=>155|20=>156|21=>157|22=>158|23=>159|24=>160|25=>161|26=>162|27=>163|46=>230|47=>226|48=>227|49=>231|50=>232|57=>304|n=>n,fun|22=>75|24=>123|25=>131|3=>3|39=>107|0=>0|53=>53|55=>23|4=>4|46=>271|45=>270|50=>110|5=>5|9=>9|66=>334|70=>338|76=>384|77=>385|n=>n,fun|n=>n⟩
theorem Tryz.lW:Go.Proofs.SlLaysF0.n6 prog Tryz.D9:={
 mixed:=by kernel_rfl
 f6:=⟨Tryz.f45.name,by decide,func45.trans (congrArg some (by kernel_rfl))⟩
 f14:=⟨Tryz.f99.name,by decide,func99.trans (congrArg some (by kernel_rfl))⟩
 f15:=func97.trans (congrArg some (by kernel_rfl))
 f20:=⟨Tryz.f156.name,by decide,func156.trans (congrArg some (by kernel_rfl))⟩
 f21:=⟨Tryz.f157.name,by decide,func157.trans (congrArg some (by kernel_rfl))⟩
 f22:=⟨Tryz.f158.name,by decide,func158.trans (congrArg some (by kernel_rfl))⟩
 f23:=⟨Tryz.f159.name,by decide,func159.trans (congrArg some (by kernel_rfl))⟩
 f24:=⟨Tryz.f160.name,by decide,func160.trans (congrArg some (by kernel_rfl))⟩
 f25:=⟨Tryz.f161.name,by decide,func161.trans (congrArg some (by kernel_rfl))⟩
 f26:=⟨Tryz.f162.name,by decide,func162.trans (congrArg some (by kernel_rfl))⟩
 f27:=⟨Tryz.f163.name,by decide,func163.trans (congrArg some (by kernel_rfl))⟩
 f28:=func154.trans (congrArg some (by kernel_rfl))
 f29:=func155.trans (congrArg some (by kernel_rfl))
 f46:=⟨Tryz.f230.name,by decide,func230.trans (congrArg some (by kernel_rfl))⟩
 f47:=func226.trans (congrArg some (by kernel_rfl))
 f48:=func227.trans (congrArg some (by kernel_rfl))
 f49:=⟨Tryz.f231.name,by decide,func231.trans (congrArg some (by kernel_rfl))⟩
 f50:=⟨Tryz.f232.name,by decide,func232.trans (congrArg some (by kernel_rfl))⟩
 f57:=⟨Tryz.f304.name,by decide,func304.trans (congrArg some (by kernel_rfl))⟩
 t0:=underlying0
 a0:=isAgg0
 z0:=sizeOf0
 v0:=zeroValue0
 t3:=underlying3
 a3:=isAgg3
 z3:=sizeOf3
 v3:=zeroValue3
 t4:=underlying4
 a4:=isAgg4
 z4:=sizeOf4
 v4:=zeroValue4
 t5:=underlying5
 a5:=isAgg5
 z5:=sizeOf5
 v5:=zeroValue5
 t9:=underlying9
 a9:=isAgg9
 z9:=sizeOf9
 v9:=zeroValue9
 t22:=underlying75
 a22:=isAgg75
 z22:=sizeOf75
 v22:=zeroValue75
 t25:=underlying131
 a25:=isAgg131
 z25:=sizeOf131
 v25:=zeroValue131
 t39:=underlying107
 a39:=isAgg107
 z39:=sizeOf107
 v39:=zeroValue107
 t45:=underlying270
 a45:=isAgg270
 z45:=sizeOf270
 v45:=zeroValue270
 t46:=underlying271
 a46:=isAgg271
 z46:=sizeOf271
 v46:=zeroValue271
 t50:=underlying110
 a50:=isAgg110
 z50:=sizeOf110
 v50:=zeroValue110
 t53:=underlying53
 a53:=isAgg53
 z53:=sizeOf53
 v53:=zeroValue53
 t55:=underlying23
 a55:=isAgg23
 z55:=sizeOf23
 v55:=zeroValue23
 t66:=underlying334
 a66:=isAgg334
 z66:=sizeOf334
 v66:=zeroValue334
 t70:=underlying338
 a70:=isAgg338
 z70:=sizeOf338
 v70:=zeroValue338
 t76:=underlying384
 a76:=isAgg384
 z76:=sizeOf384
 v76:=zeroValue384
 t77:=underlying385
 a77:=isAgg385
 z77:=sizeOf385
 v77:=zeroValue385}
def Tryz.Gh:Go.Shelf.Ren:=⟨fun|6=>136|15=>97|14=>218|28=>154|29=>155|20=>292|21=>293|22=>294|23=>295|24=>296|25=>297|26=>298|27=>299|46=>341|47=>226|48=>227|49=>342|50=>343|57=>358|n=>n,fun|22=>89|24=>68|25=>263|3=>3|39=>107|0=>0|53=>53|55=>23|4=>4|46=>271|45=>270|50=>110|5=>5|9=>9|66=>334|70=>338|76=>384|77=>385|n=>n,fun|n=>n⟩
theorem Tryz.sq:Go.Proofs.SlLaysF0.n6 prog Tryz.Gh:={
 mixed:=by kernel_rfl
 f6:=⟨Tryz.f136.name,by decide,func136.trans (congrArg some (by kernel_rfl))⟩
 f14:=⟨Tryz.f218.name,by decide,func218.trans (congrArg some (by kernel_rfl))⟩
 f15:=func97.trans (congrArg some (by kernel_rfl))
 f20:=⟨Tryz.f292.name,by decide,func292.trans (congrArg some (by kernel_rfl))⟩
 f21:=⟨Tryz.f293.name,by decide,func293.trans (congrArg some (by kernel_rfl))⟩
 f22:=⟨Tryz.f294.name,by decide,func294.trans (congrArg some (by kernel_rfl))⟩
 f23:=⟨Tryz.f295.name,by decide,func295.trans (congrArg some (by kernel_rfl))⟩
 f24:=⟨Tryz.f296.name,by decide,func296.trans (congrArg some (by kernel_rfl))⟩
 f25:=⟨Tryz.f297.name,by decide,func297.trans (congrArg some (by kernel_rfl))⟩
 f26:=⟨Tryz.f298.name,by decide,func298.trans (congrArg some (by kernel_rfl))⟩
 f27:=⟨Tryz.f299.name,by decide,func299.trans (congrArg some (by kernel_rfl))⟩
 f28:=func154.trans (congrArg some (by kernel_rfl))
 f29:=func155.trans (congrArg some (by kernel_rfl))
 f46:=⟨Tryz.f341.name,by decide,func341.trans (congrArg some (by kernel_rfl))⟩
 f47:=func226.trans (congrArg some (by kernel_rfl))
 f48:=func227.trans (congrArg some (by kernel_rfl))
 f49:=⟨Tryz.f342.name,by decide,func342.trans (congrArg some (by kernel_rfl))⟩
 f50:=⟨Tryz.f343.name,by decide,func343.trans (congrArg some (by kernel_rfl))⟩
 f57:=⟨Tryz.f358.name,by decide,func358.trans (congrArg some (by kernel_rfl))⟩
 t0:=underlying0
 a0:=isAgg0
 z0:=sizeOf0
 v0:=zeroValue0
 t3:=underlying3
 a3:=isAgg3
 z3:=sizeOf3
 v3:=zeroValue3
 t4:=underlying4
 a4:=isAgg4
 z4:=sizeOf4
 v4:=zeroValue4
 t5:=underlying5
 a5:=isAgg5
 z5:=sizeOf5
 v5:=zeroValue5
 t9:=underlying9
 a9:=isAgg9
 z9:=sizeOf9
 v9:=zeroValue9
 t22:=underlying89
 a22:=isAgg89
 z22:=sizeOf89
 v22:=zeroValue89
 t25:=underlying263
 a25:=isAgg263
 z25:=sizeOf263
 v25:=zeroValue263
 t39:=underlying107
 a39:=isAgg107
 z39:=sizeOf107
 v39:=zeroValue107
 t45:=underlying270
 a45:=isAgg270
 z45:=sizeOf270
 v45:=zeroValue270
 t46:=underlying271
 a46:=isAgg271
 z46:=sizeOf271
 v46:=zeroValue271
 t50:=underlying110
 a50:=isAgg110
 z50:=sizeOf110
 v50:=zeroValue110
 t53:=underlying53
 a53:=isAgg53
 z53:=sizeOf53
 v53:=zeroValue53
 t55:=underlying23
 a55:=isAgg23
 z55:=sizeOf23
 v55:=zeroValue23
 t66:=underlying334
 a66:=isAgg334
 z66:=sizeOf334
 v66:=zeroValue334
 t70:=underlying338
 a70:=isAgg338
 z70:=sizeOf338
 v70:=zeroValue338
 t76:=underlying384
 a76:=isAgg384
 z76:=sizeOf384
 v76:=zeroValue384
 t77:=underlying385
 a77:=isAgg385
 z77:=sizeOf385
 v77:=zeroValue385}
def Tryz.MC:Go.Shelf.Ren:=⟨fun|7=>52|10=>103|n=>n,fun|23=>140|26=>3|3=>3|28=>149|0=>0|27=>148|33=>215|4=>4|n=>n,fun|n=>n⟩
theorem Tryz.zg:Go.Proofs.SlLaysZI.n7 prog Tryz.MC:={
 mixed:=by kernel_rfl
 f7:=⟨Tryz.f52.name,by decide,func52.trans (congrArg some (by kernel_rfl))⟩
 f10:=⟨Tryz.f103.name,by decide,func103.trans (congrArg some (by kernel_rfl))⟩
 t0:=underlying0
 a0:=isAgg0
 z0:=sizeOf0
 v0:=zeroValue0
 t4:=underlying4
 a4:=isAgg4
 z4:=sizeOf4
 v4:=zeroValue4
 t23:=underlying140
 a23:=isAgg140
 z23:=sizeOf140
 v23:=zeroValue140
 t26:=underlying3
 a26:=isAgg3
 z26:=sizeOf3
 v26:=zeroValue3
 t27:=underlying148
 a27:=isAgg148
 z27:=sizeOf148
 v27:=zeroValue148
 t28:=underlying149
 a28:=isAgg149
 z28:=sizeOf149
 v28:=zeroValue149
 t33:=underlying215
 a33:=isAgg215
 z33:=sizeOf215
 v33:=zeroValue215}
def Tryz.Ps:Go.Shelf.Ren:=⟨fun|6=>51|8=>101|9=>102|11=>165|13=>97|12=>166|23=>154|24=>155|14=>233|15=>234|16=>235|17=>236|18=>237|19=>238|20=>239|21=>240|22=>241|25=>305|26=>226|27=>227|28=>306|29=>307|30=>300|31=>345|n=>n,fun|26=>3|28=>149|24=>94|0=>0|3=>3|37=>107|48=>53|50=>23|4=>4|40=>271|39=>270|45=>110|5=>5|9=>9|51=>334|55=>338|57=>384|58=>385|33=>215|n=>n,fun|n=>n⟩
theorem Tryz.xe:Go.Proofs.SlLaysZI.n6 prog Tryz.Ps:={
 mixed:=by kernel_rfl
 f6:=⟨Tryz.f51.name,by decide,func51.trans (congrArg some (by kernel_rfl))⟩
 f8:=⟨Tryz.f101.name,by decide,func101.trans (congrArg some (by kernel_rfl))⟩
 f11:=⟨Tryz.f165.name,by decide,func165.trans (congrArg some (by kernel_rfl))⟩
 t0:=underlying0
 a0:=isAgg0
 z0:=sizeOf0
 v0:=zeroValue0
 t24:=underlying94
 a24:=isAgg94
 z24:=sizeOf94
 v24:=zeroValue94
 t26:=underlying3
 a26:=isAgg3
 z26:=sizeOf3
 v26:=zeroValue3
 t28:=underlying149
 a28:=isAgg149
 z28:=sizeOf149
 v28:=zeroValue149
 i26:=by kernel_rfl}
def Tryz.D8:Go.Shelf.Ren:=⟨fun|5=>102|8=>97|7=>166|19=>154|20=>155|10=>233|11=>234|12=>235|13=>236|14=>237|15=>238|16=>239|17=>240|18=>241|30=>305|31=>226|32=>227|33=>306|34=>307|35=>300|40=>345|n=>n,fun|23=>94|25=>3|3=>3|32=>107|22=>94|0=>0|44=>53|46=>23|4=>4|36=>271|35=>270|41=>110|5=>5|9=>9|53=>334|57=>338|63=>384|64=>385|n=>n,fun|n=>n⟩
theorem Tryz.sortInt:Go.Proofs.SlLaysM.n5 prog Tryz.D8:={
 mixed:=by kernel_rfl
 f5:=⟨Tryz.f102.name,by decide,func102.trans (congrArg some (by kernel_rfl))⟩
 f7:=⟨Tryz.f166.name,by decide,func166.trans (congrArg some (by kernel_rfl))⟩
 f8:=func97.trans (congrArg some (by kernel_rfl))
 f10:=⟨Tryz.f233.name,by decide,func233.trans (congrArg some (by kernel_rfl))⟩
 f11:=⟨Tryz.f234.name,by decide,func234.trans (congrArg some (by kernel_rfl))⟩
 f12:=⟨Tryz.f235.name,by decide,func235.trans (congrArg some (by kernel_rfl))⟩
 f13:=⟨Tryz.f236.name,by decide,func236.trans (congrArg some (by kernel_rfl))⟩
 f14:=⟨Tryz.f237.name,by decide,func237.trans (congrArg some (by kernel_rfl))⟩
 f15:=⟨Tryz.f238.name,by decide,func238.trans (congrArg some (by kernel_rfl))⟩
 f16:=⟨Tryz.f239.name,by decide,func239.trans (congrArg some (by kernel_rfl))⟩
 f17:=⟨Tryz.f240.name,by decide,func240.trans (congrArg some (by kernel_rfl))⟩
 f18:=⟨Tryz.f241.name,by decide,func241.trans (congrArg some (by kernel_rfl))⟩
 f19:=func154.trans (congrArg some (by kernel_rfl))
 f20:=func155.trans (congrArg some (by kernel_rfl))
 f30:=⟨Tryz.f305.name,by decide,func305.trans (congrArg some (by kernel_rfl))⟩
 f31:=func226.trans (congrArg some (by kernel_rfl))
 f32:=func227.trans (congrArg some (by kernel_rfl))
 f33:=⟨Tryz.f306.name,by decide,func306.trans (congrArg some (by kernel_rfl))⟩
 f34:=⟨Tryz.f307.name,by decide,func307.trans (congrArg some (by kernel_rfl))⟩
 f35:=⟨Tryz.f300.name,by decide,func300.trans (congrArg some (by kernel_rfl))⟩
 f40:=⟨Tryz.f345.name,by decide,func345.trans (congrArg some (by kernel_rfl))⟩
 t0:=underlying0
 a0:=isAgg0
 z0:=sizeOf0
 v0:=zeroValue0
 t3:=underlying3
 a3:=isAgg3
 z3:=sizeOf3
 v3:=zeroValue3
 t4:=underlying4
 a4:=isAgg4
 z4:=sizeOf4
 v4:=zeroValue4
 t5:=underlying5
 a5:=isAgg5
 z5:=sizeOf5
 v5:=zeroValue5
 t9:=underlying9
 a9:=isAgg9
 z9:=sizeOf9
 v9:=zeroValue9
 t22:=underlying94
 a22:=isAgg94
 z22:=sizeOf94
 v22:=zeroValue94
 t23:=underlying94
 a23:=isAgg94
 z23:=sizeOf94
 v23:=zeroValue94
 t25:=underlying3
 a25:=isAgg3
 z25:=sizeOf3
 v25:=zeroValue3
 t32:=underlying107
 a32:=isAgg107
 z32:=sizeOf107
 v32:=zeroValue107
 t35:=underlying270
 a35:=isAgg270
 z35:=sizeOf270
 v35:=zeroValue270
 t36:=underlying271
 a36:=isAgg271
 z36:=sizeOf271
 v36:=zeroValue271
 t41:=underlying110
 a41:=isAgg110
 z41:=sizeOf110
 v41:=zeroValue110
 t44:=underlying53
 a44:=isAgg53
 z44:=sizeOf53
 v44:=zeroValue53
 t46:=underlying23
 a46:=isAgg23
 z46:=sizeOf23
 v46:=zeroValue23
 t53:=underlying334
 a53:=isAgg334
 z53:=sizeOf334
 v53:=zeroValue334
 t57:=underlying338
 a57:=isAgg338
 z57:=sizeOf338
 v57:=zeroValue338
 t63:=underlying384
 a63:=isAgg384
 z63:=sizeOf384
 v63:=zeroValue384
 t64:=underlying385
 a64:=isAgg385
 z64:=sizeOf385
 v64:=zeroValue385}
def Tryz.MB:Go.Shelf.Ren:=⟨fun|7=>89|10=>142|n=>n,fun|23=>191|26=>9|3=>49|28=>198|0=>0|27=>197|33=>252|4=>4|n=>n,fun|n=>n⟩
theorem Tryz.ze:Go.Proofs.SlLaysZ.n7 prog Tryz.MB:={
 mixed:=by kernel_rfl
 f7:=⟨Tryz.f89.name,by decide,func89.trans (congrArg some (by kernel_rfl))⟩
 f10:=⟨Tryz.f142.name,by decide,func142.trans (congrArg some (by kernel_rfl))⟩
 t0:=underlying0
 a0:=isAgg0
 z0:=sizeOf0
 v0:=zeroValue0
 t4:=underlying4
 a4:=isAgg4
 z4:=sizeOf4
 v4:=zeroValue4
 t23:=underlying191
 a23:=isAgg191
 z23:=sizeOf191
 v23:=zeroValue191
 t26:=underlying9
 a26:=isAgg9
 z26:=sizeOf9
 v26:=zeroValue9
 t27:=underlying197
 a27:=isAgg197
 z27:=sizeOf197
 v27:=zeroValue197
 t28:=underlying198
 a28:=isAgg198
 z28:=sizeOf198
 v28:=zeroValue198
 t33:=underlying252
 a33:=isAgg252
 z33:=sizeOf252
 v33:=zeroValue252}
def Tryz.Pr:Go.Shelf.Ren:=⟨fun|6=>88|8=>141|9=>132|11=>222|13=>97|12=>212|23=>154|24=>155|14=>273|15=>274|16=>275|17=>276|18=>277|19=>278|20=>279|21=>280|22=>281|25=>334|26=>226|27=>227|28=>335|29=>336|30=>337|31=>357|n=>n,fun|26=>9|28=>198|24=>195|0=>0|3=>3|37=>107|48=>53|50=>23|4=>4|40=>271|39=>270|45=>110|5=>5|9=>9|51=>334|55=>338|57=>384|58=>385|33=>252|n=>n,fun|n=>n⟩
theorem Tryz.xd:Go.Proofs.SlLaysZ.n6 prog Tryz.Pr:={
 mixed:=by kernel_rfl
 f6:=⟨Tryz.f88.name,by decide,func88.trans (congrArg some (by kernel_rfl))⟩
 f8:=⟨Tryz.f141.name,by decide,func141.trans (congrArg some (by kernel_rfl))⟩
 f11:=⟨Tryz.f222.name,by decide,func222.trans (congrArg some (by kernel_rfl))⟩
 t0:=underlying0
 a0:=isAgg0
 z0:=sizeOf0
 v0:=zeroValue0
 t24:=underlying195
 a24:=isAgg195
 z24:=sizeOf195
 v24:=zeroValue195
 t26:=underlying9
 a26:=isAgg9
 z26:=sizeOf9
 v26:=zeroValue9
 t28:=underlying198
 a28:=isAgg198
 z28:=sizeOf198
 v28:=zeroValue198
 i26:=by kernel_rfl}
def Tryz.D7:Go.Shelf.Ren:=⟨fun|6=>132|8=>97|9=>212|19=>154|20=>155|21=>273|22=>274|23=>275|24=>276|25=>277|26=>278|27=>279|28=>280|29=>281|36=>334|31=>226|32=>227|37=>335|38=>336|39=>337|41=>357|n=>n,fun|27=>195|29=>9|3=>3|32=>107|26=>195|0=>0|44=>53|46=>23|4=>4|36=>271|35=>270|41=>110|5=>5|9=>9|53=>334|57=>338|63=>384|64=>385|n=>n,fun|n=>n⟩
theorem Tryz.sortStr:Go.Proofs.SlLaysM.n6 prog Tryz.D7:={
 mixed:=by kernel_rfl
 f6:=⟨Tryz.f132.name,by decide,func132.trans (congrArg some (by kernel_rfl))⟩
 f8:=func97.trans (congrArg some (by kernel_rfl))
 f9:=⟨Tryz.f212.name,by decide,func212.trans (congrArg some (by kernel_rfl))⟩
 f19:=func154.trans (congrArg some (by kernel_rfl))
 f20:=func155.trans (congrArg some (by kernel_rfl))
 f21:=⟨Tryz.f273.name,by decide,func273.trans (congrArg some (by kernel_rfl))⟩
 f22:=⟨Tryz.f274.name,by decide,func274.trans (congrArg some (by kernel_rfl))⟩
 f23:=⟨Tryz.f275.name,by decide,func275.trans (congrArg some (by kernel_rfl))⟩
 f24:=⟨Tryz.f276.name,by decide,func276.trans (congrArg some (by kernel_rfl))⟩
 f25:=⟨Tryz.f277.name,by decide,func277.trans (congrArg some (by kernel_rfl))⟩
 f26:=⟨Tryz.f278.name,by decide,func278.trans (congrArg some (by kernel_rfl))⟩
 f27:=⟨Tryz.f279.name,by decide,func279.trans (congrArg some (by kernel_rfl))⟩
 f28:=⟨Tryz.f280.name,by decide,func280.trans (congrArg some (by kernel_rfl))⟩
 f29:=⟨Tryz.f281.name,by decide,func281.trans (congrArg some (by kernel_rfl))⟩
 f31:=func226.trans (congrArg some (by kernel_rfl))
 f32:=func227.trans (congrArg some (by kernel_rfl))
 f36:=⟨Tryz.f334.name,by decide,func334.trans (congrArg some (by kernel_rfl))⟩
 f37:=⟨Tryz.f335.name,by decide,func335.trans (congrArg some (by kernel_rfl))⟩
 f38:=⟨Tryz.f336.name,by decide,func336.trans (congrArg some (by kernel_rfl))⟩
 f39:=⟨Tryz.f337.name,by decide,func337.trans (congrArg some (by kernel_rfl))⟩
 f41:=⟨Tryz.f357.name,by decide,func357.trans (congrArg some (by kernel_rfl))⟩
 t0:=underlying0
 a0:=isAgg0
 z0:=sizeOf0
 v0:=zeroValue0
 t3:=underlying3
 a3:=isAgg3
 z3:=sizeOf3
 v3:=zeroValue3
 t4:=underlying4
 a4:=isAgg4
 z4:=sizeOf4
 v4:=zeroValue4
 t5:=underlying5
 a5:=isAgg5
 z5:=sizeOf5
 v5:=zeroValue5
 t9:=underlying9
 a9:=isAgg9
 z9:=sizeOf9
 v9:=zeroValue9
 t26:=underlying195
 a26:=isAgg195
 z26:=sizeOf195
 v26:=zeroValue195
 t27:=underlying195
 a27:=isAgg195
 z27:=sizeOf195
 v27:=zeroValue195
 t29:=underlying9
 a29:=isAgg9
 z29:=sizeOf9
 v29:=zeroValue9
 t32:=underlying107
 a32:=isAgg107
 z32:=sizeOf107
 v32:=zeroValue107
 t35:=underlying270
 a35:=isAgg270
 z35:=sizeOf270
 v35:=zeroValue270
 t36:=underlying271
 a36:=isAgg271
 z36:=sizeOf271
 v36:=zeroValue271
 t41:=underlying110
 a41:=isAgg110
 z41:=sizeOf110
 v41:=zeroValue110
 t44:=underlying53
 a44:=isAgg53
 z44:=sizeOf53
 v44:=zeroValue53
 t46:=underlying23
 a46:=isAgg23
 z46:=sizeOf23
 v46:=zeroValue23
 t53:=underlying334
 a53:=isAgg334
 z53:=sizeOf334
 v53:=zeroValue334
 t57:=underlying338
 a57:=isAgg338
 z57:=sizeOf338
 v57:=zeroValue338
 t63:=underlying384
 a63:=isAgg384
 z63:=sizeOf384
 v63:=zeroValue384
 t64:=underlying385
 a64:=isAgg385
 z64:=sizeOf385
 v64:=zeroValue385}
end Go.Proofs
