/- TopFirst: part 7: TopN3 TopN4 TopSortC. -/
import Derived.Shelf.Abstract
import Derived.Laws.AppendOwn
import Derived.Laws.CopyRow
import Derived.Lib.SliceRun
import Derived.Lib.SlBytesRow
import Derived.Test.YtclgigmgbebhgaaGreatDoorF06
set_option linter.unusedVariables false
set_option linter.unusedSimpArgs false
set_option maxRecDepth 100000
set_option maxHeartbeats 16000000
namespace Go.Proofs.YtclgigmgbebhgaaGreatDoor
open Tryz
open Go Go.Proofs Go.RowKit Go.Maps Go.WideMaps Go.ChangeMaps
theorem rV(c:Z5)(h:c.right)(W:World):Calls prog (Mz c.o) #[.agg (cC c)] W (V2 (Xj c) W):=by
 obtain⟨_,ho,_,hm,hv⟩:=h;unfold Mz Xj;rcases (show c.o=1\/c.o=2\/c.o=3\/c.o=4\/c.o=5\/c.o=6\/c.o=7 from jO) with q|q|q|q|q|q|q;·rw[aF (.inl q),aF (.inl q)];exact yY c W
 ·rw[aF (.inr q),aF (.inr q)];exact yY c W
 ·rw[aN jO,aF q,aN jO,aF q];exact lS c W
 ·rw[aN jO,aN jO,aF q,aN jO,aN jO,aF q];exact lQ c hv W
 ·rw[aN jO,aN jO,aN jO,aF q,aN jO,aN jO,aN jO,aF q];exact lO c hv W
 ·rw[aN jO,aN jO,aN jO,aN jO,aF q,aN jO,aN jO,aN jO,aN jO,aF q];exact lR c W
 ·rw[aN jO,aN jO,aN jO,aN jO,aN jO,aN jO,aN jO,aN jO,aN jO,aN jO];exact wX c hm hv W
theorem wT{W:World}{P R t:Nat}{c0 c1 c2 c3:Value}(hb:Z7 W P t #[c0,c1,c2,c3])(C:P≠R)(D I J T:Value):((((W.setCell ⟨R,0,none⟩ D).setCell ⟨R,1,none⟩ I).setCell ⟨R,2,none⟩ J).setCell ⟨R,3,none⟩ T).cell? ⟨P,0,none⟩=some c0/\((((W.setCell ⟨R,0,none⟩ D).setCell ⟨R,1,none⟩ I).setCell ⟨R,2,none⟩ J).setCell ⟨R,3,none⟩ T).cell? ⟨P,1,none⟩=some c1/\((((W.setCell ⟨R,0,none⟩ D).setCell ⟨R,1,none⟩ I).setCell ⟨R,2,none⟩ J).setCell ⟨R,3,none⟩ T).cell? ⟨P,2,none⟩=some c2/\((((W.setCell ⟨R,0,none⟩ D).setCell ⟨R,1,none⟩ I).setCell ⟨R,2,none⟩ J).setCell ⟨R,3,none⟩ T).cell? ⟨P,3,none⟩=some c3:=
 (Z8 ((((hb.other C 0 D).other C 1 I).other C 2 J).other C 3 T)).1
theorem wS(o:Nat)(ho:1<=o/\o<=7):∀args w,(callFunc (Mz o) args).run prog w=.ok (.enter (Mz o) args) w:=by
 rcases (show o=1\/o=2\/o=3\/o=4\/o=5\/o=6\/o=7 from jO) with rfl|rfl|rfl|rfl|rfl|rfl|rfl;·exact enters_of func284 jK rfl
 ·exact enters_of func284 jK rfl
 ·exact enters_of func286 jK rfl
 ·exact enters_of func290 jK rfl
 ·exact enters_of func291 jK rfl
 ·exact enters_of func288 jK rfl
 ·exact enters_of func285 jK rfl
theorem BF{c:Z5}(h:c.right):ZJ.Yf (c.a:Int) (c.o:Int) (c.m:Int)=true:=by
 obtain⟨D,I,C,_,_⟩:=h;unfold ZJ.Yf;exact acb jO
theorem wR(c:Z5)(h:c.right)(w:World):Calls prog 135 #[.agg (cC c)] w (V2 (Xj c) w):=by
 obtain⟨HP,HR,HB⟩:=Xb c w 68;have HC:=aT (λW=>rV c h W);have hr:=λW=>ZJ.X0 (c.a:Int) (c.o:Int) (c.m:Int) (c.v:Int) W
 rw[BF h] at hr;have T:=aT hr;have ho:=h.2.1;have eg:=wS c.o ho;have HL:=aT (λW B (hM:Zz W B Nh)=>wW hM ho);clear hr h;generalize Xj c=S at*;obtain⟨a,o,m,v⟩:=c;unfold cC at*;dsimp only at*;generalize Mz o=fo at*;go_enter func135,ntmps135;go_upto_region 1 with fail;generalize (w.alloc (.cells #[.int .i64 a,.int .i64 o,.int .u64 m,.int .u64 v] 68)).alloc (.cells #[.int .i64 0,.int .i64 0,.int .u64 0,.int .u64 0] 68)=w1 at*;obtain⟨⟨p0,p1,p2,p3⟩,_⟩:=Z8 HP.out;obtain⟨R,hR⟩:=jX (w.heap.size+1);rw[hR] at HR ⊢;have J:w.heap.size<R:=jO;clear hR;go_wp2_with fail;refine(T.out w1).mono ?_;rintro e C ⟨rfl,hb⟩;have D:=aT (HP.out.below hb HP.out.lt);have Y:=aT (HR.out.below hb HR.out.lt);have XX:=aT (HB.out.trans (hb.mono HB.out.size));clear hb HR HB HP p0 p1 p2 p3 T;obtain⟨⟨p0,p1,p2,p3⟩,_⟩:=Z8 D.out;go_upto_region 3 with fail;have HBD:Hid (Below C.heap.size C C.drew):=(aG _ C).drew;generalize hP:w.heap.size=P at*;have U:P<C.heap.size:=D.out.lt;have hne:¬P=R:=Nat.ne_of_lt J
 go_region_held3 (λw'=>w'.cell? ⟨P,0,none⟩=some (.int .i64 a)/\w'.cell? ⟨P,1,none⟩=some (.int .i64 o)/\w'.cell? ⟨P,2,none⟩=some (.int .u64 m)/\w'.cell? ⟨P,3,none⟩=some (.int .u64 v)) (first|assumption|exact(Z8 (D.out.below (aje jA) D.out.lt)).1|exact lz.out _ _ _ _) (first
  |(go_at_call 217;refine(wV _).mono ?_;rintro e w3 ⟨B,rfl,hM,hb3⟩;have Uy:Hid (Below C.heap.size C w3):=HBD.out.trans hb3;have lk:=HL.out w3 B hM;clear hM hb3)
  |(refine(HC.out _).mono ?_;rintro e w4 ⟨rfl,Z⟩;have I:Hid (Below C.heap.size C w4):=(aje (show Hid (Below C.heap.size C w3) from jA)).trans (Z.mono (aje (show Hid (Below C.heap.size C w3) from jA)).size);clear Z;have lz:=aT (λd0 d1 d2 d3=>wT (D.out.below I.out D.out.lt) hne d0 d1 d2 d3);have gQ:=aT (Y.out.below I.out Y.out.lt);obtain⟨⟨r0,r1,r2,r3⟩,f0,f1,f2,f3⟩:=Z8 gQ.out))
 go_wp2_with fail;refine aaf (Zt rfl (ZF gQ.out _ _ _ _) rfl) rfl ?_;exact⟨rfl,by rw[hP];exact ZE (XX.out.trans (I.out.mono (acf U))) (acf J) _ _ _ _⟩
theorem eight{W:World}{P Q t:Nat}{c0 c1 c2 c3 d0 d1 d2 d3:Value}(h:Z7 W P t #[c0,c1,c2,c3])(k:Z7 W Q t #[d0,d1,d2,d3]):W.cell? ⟨P,0,none⟩=some c0/\W.cell? ⟨P,1,none⟩=some c1/\W.cell? ⟨P,2,none⟩=some c2/\W.cell? ⟨P,3,none⟩=some c3/\W.cell? ⟨Q,0,none⟩=some d0/\W.cell? ⟨Q,1,none⟩=some d1/\W.cell? ⟨Q,2,none⟩=some d2/\W.cell? ⟨Q,3,none⟩=some d3:=by
 obtain⟨⟨a0,a1,a2,a3⟩,_⟩:=Z8 h;obtain⟨⟨b0,I,D,C⟩,_⟩:=Z8 k;exact⟨a0,a1,a2,a3,b0,I,D,C⟩
theorem wQ(x y:Z5)(w:World):Calls prog 137 #[.agg (cC x),.agg (cC y)] w λe w'=>e=.returned (.int .i64 (wU x y))/\∃q os',w'=Go.Sort.grow (w.drewN q) os':=by
 have HP:Hid (Z7 ((w.alloc (.cells (cC x) 68)).alloc (.cells (cC y) 68)) w.heap.size 68 (cC x)):=(Z7.new w _ _).alloc _;have HQ:Hid (Z7 ((w.alloc (.cells (cC x) 68)).alloc (.cells (cC y) 68)) (w.heap.size+1) 68 (cC y)):=Z7.OY _ _ _ _;have HG:Hid (∃os,(w.alloc (.cells (cC x) 68)).alloc (.cells (cC y) 68)=Go.Sort.grow w os):=⟨_,by rw[Go.Sort.alloc_eq_grow,Go.Sort.alloc_eq_grow,Go.Sort.grow_grow]⟩;unfold wU;obtain⟨T,xo,Y,I⟩:=x;obtain⟨ya,Z,U,J⟩:=y;unfold cC at*;dsimp only at*;go_enter func137,ntmps137;go_upto_region 1 with fail;generalize (w.alloc (.cells #[.int .i64 T,.int .i64 xo,.int .u64 Y,.int .u64 I] 68)).alloc (.cells #[.int .i64 ya,.int .i64 Z,.int .u64 U,.int .u64 J] 68)=w1 at*;generalize w.heap.size+1=Q at*;generalize w.heap.size=P at*;obtain⟨p0,p1,p2,p3,q0,q1,q2,q3⟩:=eight HP.out HQ.out;have HI:=aT (λa b W=>rY a b W);have HW:=aT (λa b W=>rX a b W);have HO:Hid (∀a b c d:Int,Calls prog 219 #[.slice (some ⟨w1.heap.size,0,none⟩) 4 4] (w1.drew.alloc (.cells #[.int .i64 a,.int .i64 b,.int .i64 c,.int .i64 d] 3)) λe w'=>e=.returned (.int .i64 (lN [a,b,c,d]))/\w'=w1.drew.alloc (.cells #[.int .i64 a,.int .i64 b,.int .i64 c,.int .i64 d] 3)):=λa b c d=>lM (l:=[a,b,c,d]) rfl jS _ (λj x hx=>by rw[(show Z7 (w1.drew.alloc (.cells #[.int .i64 a,.int .i64 b,.int .i64 c,.int .i64 d] 3)) w1.heap.size 3 #[.int .i64 a,.int .i64 b,.int .i64 c,.int .i64 d] from Z7.new w1.drew _ _).cell j];have hj:=(ak.1 hx).1;rcases (show j=0\/j=1\/j=2\/j=3 by simp at hj;omega) with rfl|rfl|rfl|rfl<;>simp_all)
 have C:Hid (Z7 w1.drew P 68 #[.int .i64 T,.int .i64 xo,.int .u64 Y,.int .u64 I]):=HP.out;have D:Hid (Z7 w1.drew Q 68 #[.int .i64 ya,.int .i64 Z,.int .u64 U,.int .u64 J]):=HQ.out
 go_region_held3 (λw'=>w'.cell? ⟨P,0,none⟩=some (.int .i64 T)/\w'.cell? ⟨P,1,none⟩=some (.int .i64 xo)/\w'.cell? ⟨P,2,none⟩=some (.int .u64 Y)/\w'.cell? ⟨P,3,none⟩=some (.int .u64 I)/\w'.cell? ⟨Q,0,none⟩=some (.int .i64 ya)/\w'.cell? ⟨Q,1,none⟩=some (.int .i64 Z)/\w'.cell? ⟨Q,2,none⟩=some (.int .u64 U)/\w'.cell? ⟨Q,3,none⟩=some (.int .u64 J)) (first|assumption|exact eight C.out D.out|exact eight (C.out.alloc _) (D.out.alloc _)) (first
  |(go_at_call 220;refine(HI.out _ _ _).mono ?_;rintro e w7 ⟨rfl,rfl⟩)
  |(go_at_call 221;refine(HW.out _ _ _).mono ?_;rintro e w7 ⟨rfl,rfl⟩)
  |(go_at_call 219;refine(HO.out _ _ _ _).mono ?_;rintro e w7 ⟨rfl,rfl⟩))
 go_wp2_with fail;go_ret;obtain⟨os,ho⟩:=HG.out;exact⟨rfl,1,_,by rw[ho,Go.Sort.alloc_eq_grow,Go.Sort.grow_grow];rfl⟩
end Go.Proofs.YtclgigmgbebhgaaGreatDoor
namespace Go.Proofs.YtclgigmgbebhgaaGreatDoor
open Tryz
open Go Go.Proofs Go.RowKit
variable {m g cap base:Nat} {w wr:World}
abbrev TC:Nat:=68
def cL(c:Z5):List Value:=[.int .i64 c.a,.int .i64 c.o,.int .u64 c.m,.int .u64 c.v]
theorem ah4{c d:Z5}(h:c≠d)(w:World):(Go.binOp .neq TC (.agg #[.int .i64 c.a,.int .i64 c.o,.int .u64 c.m,.int .u64 c.v]) (.agg #[.int .i64 d.a,.int .i64 d.o,.int .u64 d.m,.int .u64 d.v])).run prog w=.ok (.bool true) w:=by
 have hf:¬((c.a:Int)=d.a/\(c.o:Int)=d.o/\(c.m:Int)=d.m/\(c.v:Int)=d.v):=by rintro⟨I,J,C,D⟩;apply h;cases c;cases d;simp only[Z5.mk.injEq];dsimp only at*;omega
 simp[go_sem];omega
theorem at7{c d:Z5}(h:c≠d)(w:World):(Go.binOp .eql TC (.agg #[.int .i64 c.a,.int .i64 c.o,.int .u64 c.m,.int .u64 c.v]) (.agg #[.int .i64 d.a,.int .i64 d.o,.int .u64 d.m,.int .u64 d.v])).run prog w=.ok (.bool false) w:=by
 have hf:¬((c.a:Int)=d.a/\(c.o:Int)=d.o/\(c.m:Int)=d.m/\(c.v:Int)=d.v):=by rintro⟨I,J,C,D⟩;apply h;cases c;cases d;simp only[Z5.mk.injEq];dsimp only at*;omega
 simp[go_sem];omega
theorem Rp:∀(l:List Z5) (i:Nat) (x:Z5),l[i]? =some x->∀j,j<4->(l.flatMap cL)[i*4+j]? =(cL x)[j]?
 |[],i,x,h,j,C=>by simp at h
 |y::l,0,x,h,j,C=>by
  simp at h;subst h;rw[ace,abc (by show _<4;omega)]
  congr 1
  omega
 |y::l,i+1,x,h,j,C=>by have D:=Rp l i x (by simpa using h) j C;rw[ace,aad (by show 4<=_;omega),show(i+1)*4+j-(cL y).length=i*4+j by show(i+1)*4+j-4=_;omega];exact D
theorem QK(l:List Z5):(l.flatMap cL).length=l.length*4:=by
 induction l with
 |nil=>rfl
 |cons x l C=>rw[ace,ay,C];show 4+_=(l.length+1)*4;omega
def UR(W:World)(g n cap:Nat)(f:Nat->Z5):Prop:=∃cs:Array Value,Z7 W g TC cs/\cs.size=cap*4/\∀j,j<n->∀i v,(cL (f j))[i]? =some v->cs[j*4+i]? =some v
section
variable {W W':World} {g n cap:Nat} {f:Nat->Z5}
theorem UR.cells(h:UR W g n cap f){j:Nat}(C:j<n):(W.cell? ⟨g,j*4,none⟩=some (.int .i64 ((f j).a:Int))/\W.cell? ⟨g,j*4+1,none⟩=some (.int .i64 ((f j).o:Int))/\W.cell? ⟨g,j*4+2,none⟩=some (.int .u64 ((f j).m:Int))/\W.cell? ⟨g,j*4+3,none⟩=some (.int .u64 ((f j).v:Int)))/\W.frozen? ⟨g,j*4,none⟩=false/\W.frozen? ⟨g,j*4+1,none⟩=false/\W.frozen? ⟨g,j*4+2,none⟩=false/\W.frozen? ⟨g,j*4+3,none⟩=false:=by
 obtain⟨cs,hb,hs,hc⟩:=h;exact⟨⟨(hb.cell _).trans (hc j C 0 _ rfl),(hb.cell _).trans (hc j C 1 _ rfl),(hb.cell _).trans (hc j C 2 _ rfl),(hb.cell _).trans (hc j C 3 _ rfl)⟩,hb.frozen _,hb.frozen _,hb.frozen _,hb.frozen _⟩
theorem UR.kept(h:UR W g n cap f)(hk:W'.heap[g]? =W.heap[g]?):UR W' g n cap f:=by
 obtain⟨cs,hb,hs,hc⟩:=h;exact⟨cs,hk.trans hb,hs,hc⟩
theorem UR.put(h:UR W g n cap f)(hn:n<=cap){k:Nat}(hk:k<n)(x:Z5):UR ((((W.setCell ⟨g,k*4,none⟩ (.int .i64 x.a)).setCell ⟨g,k*4+1,none⟩ (.int .i64 x.o)).setCell ⟨g,k*4+2,none⟩ (.int .u64 x.m)).setCell ⟨g,k*4+3,none⟩ (.int .u64 x.v)) g n cap (λj=>if j=k then x else f j):=by
 obtain⟨cs,hb,hs,hc⟩:=h;refine⟨_,(((hb.set (k*4) _).set (k*4+1) _).set (k*4+2) _).set (k*4+3) _,by simp[hs],λj C i v hv=> ?_⟩;have hi:i<4:=(ak.1 hv).1;have D:k*4+3<cs.size:=by rw[hs];omega
 by_cases e:j=k;·subst e;simp only[aF] at hv;rcases (show i=0\/i=1\/i=2\/i=3 from jO) with rfl|rfl|rfl|rfl<;>(unfold cL at hv;simp at hv;subst hv;simp[Array.getElem?_setIfInBounds,Array.size_setIfInBounds];omega)
 ·simp only[aN e] at hv;rw[aif jO,aif jO,aif jO,aif jO];exact hc j C i v hv
theorem cR(c:Z5):(cL c).length=4:=rfl
theorem UR.cQ{base:Nat}{l:List Z5}(h:W.ownsRow base TC 4 (.slice (some ⟨g,0,none⟩) n cap) n (l.flatMap cL))(hl:l.length=n):∃f,UR W g n cap f/\n<=cap/\base<=g/\cap<=maxLen/\∀j,j<n->l[j]? =some (f j):=by
 rcases h.2 with⟨e,_⟩|⟨g',D,C,e,h1,I,T,Z,Y,U⟩
 ·cases e
 ·cases e;refine⟨λj=>l[j]?.getD ⟨0,0,0,0⟩,⟨C,I,Y,λj J i v hv=> ?_⟩,T,h1,Z,λj J=> ?_⟩
  ·have hx:l[j]? =some (l[j]?.getD ⟨0,0,0,0⟩):=by rw[aL jO];rfl
   have hi:i<4:=(ak.1 hv).1;have hf:=Rp l j _ hx i hi;rw[hv] at hf;rw[<-U,aja] at hf;split at hf;·simpa using hf
   ·cases hf
  ·show l[j]? =some (l[j]?.getD _);rw[aL jO];rfl
theorem UR.own{base m:Nat}(h:UR W g n cap f)(hm:m<=n)(hn:n<=cap)(hb:base<=g)(C:cap<=maxLen):W.ownsRow base TC 4 (.slice (some ⟨g,0,none⟩) m cap) m (((List.range m).map f).flatMap cL):=by
 obtain⟨cs,D,hs,hc⟩:=h;refine⟨by rw[QK,aab,afe],.inr ⟨g,cap,cs,rfl,hb,D,jO,C,hs,?_⟩⟩;apply agb;intro t;rw[aja];by_cases ht:t<m*4
 ·rw[aF ht];have e:t=t/4*4+t%4:=jO;have T:t/4<m:=jO;have hx:((List.range m).map f)[t/4]? =some (f (t/4)):=by rw[acd,anf T];rfl
  have J:=Rp _ _ _ hx (t%4) jO;rw[<-e] at J;rw[J];obtain⟨v,hv⟩:∃v,(cL (f (t/4)))[t%4]? =some v:=⟨_,aL (by rw[cR];omega)⟩;have I:=hc (t/4) jO (t%4) v hv;rw[<-e] at I;rw[hv,aga,I]
 ·rw[aN ht,ahg (by rw[QK,aab,afe];omega)]
end
def Ng(f:Nat->Z5)(m k:Nat)(fk:Nat->Z5):Prop:=0<k/\k<m/\(∀j,k<=j->fk j=f j)/\∀c,(∃j,j<k/\fk j=c)↔(∃j,j<m/\f j=c)
theorem Ng.start{f:Nat->Z5}{k:Nat}(D:0<k)(h:f k=f (k-1)):Ng f (k+1) k f:=by
 refine⟨D,amd _,λ_ _=>rfl,λc=>⟨λ⟨j,C,e⟩=>⟨j,jO,e⟩,λ⟨j,C,e⟩=> ?_⟩⟩;by_cases hk:j=k;·subst hk;exact⟨j-1,jO,by rw[<-h];exact e⟩
 ·exact⟨j,jO,e⟩
theorem Ng.skip{f fk:Nat->Z5}{k:Nat}(I:Ng f m k fk)(h:f m=f (m-1)):Ng f (m+1) k fk:=by
 obtain⟨T,U,D,C⟩:=I;refine⟨T,jO,D,λc=> ?_⟩;rw[C c];constructor;·rintro⟨j,J,e⟩;exact⟨j,jO,e⟩
 ·rintro⟨j,J,e⟩;by_cases hm:j=m;·subst hm;exact⟨j-1,jO,by rw[<-h];exact e⟩
  ·exact⟨j,jO,e⟩
theorem Ng.keep{f fk:Nat->Z5}{k:Nat}(J:Ng f m k fk):Ng f (m+1) (k+1) (λj=>if j=k then f m else fk j):=by
 obtain⟨U,T,I,C⟩:=J;refine⟨jO,jO,λj D=>(aN jO).trans (I j jO),λc=>⟨?_,?_⟩⟩
 ·rintro⟨j,D,e⟩;by_cases hk:j=k;·simp only[aF hk] at e;exact⟨m,jO,e⟩
  ·simp only[aN hk] at e;obtain⟨i,hi,e2⟩:=(C c).1 ⟨j,jO,e⟩;exact⟨i,jO,e2⟩
 ·rintro⟨j,D,e⟩;by_cases hm:j=m;·subst hm;exact⟨k,jO,(aF rfl).trans e⟩
  ·obtain⟨i,hi,e2⟩:=(C c).2 ⟨j,jO,e⟩;exact⟨i,jO,(aN jO).trans e2⟩
theorem gM:∀w,(Go.sizeOf TC).run prog w=.ok 4 w:=λ_=>jK
theorem D4(W:World)(g n D k:Nat)(hk:k<=D):(Instr.slice 89 (.slice (some ⟨g,0,none⟩) n D) none (some (.int .i64 k)) none).run prog W=.ok (.slice (some ⟨g,0,none⟩) k D) W:=by
 have C:prog.underlying 89=some (.slice (prog.elem 89)):=by simp[Program.elem,underlying89]
 have I:prog.elem 89=TC:=by simp[Program.elem,underlying89]
 rw[run_slice_h W _ _ _ _ C .i64 _ jO jO,I,gM];simp[Result.andThen,sliced,Addr.add]
theorem My(W:World)(g n C k:Nat)(hk:k<n)(hn:n<=C):(Instr.slice 89 (.slice (some ⟨g,0,none⟩) n C) (some (.int .i64 k)) none none).run prog W=.ok (.slice (some ⟨g,k*4,none⟩) (n-k) (C-k)) W:=by
 have D:prog.underlying 89=some (.slice (prog.elem 89)):=by simp[Program.elem,underlying89]
 have I:prog.elem 89=TC:=by simp[Program.elem,underlying89]
 rw[run_slice_l W _ _ _ _ D .i64 _ jO jO,I,gM];have e:C≠k:=jO;simp[Result.andThen,sliced,Addr.add,e];exact λh=>h.symm
theorem cP:∀w,(zeroValue TC).run prog w=.ok (.agg #[.int .i64 0,.int .i64 0,.int .u64 0,.int .u64 0]) w:=λ_=>jK
def zC(n:Nat):List Value:=(Builtin.zeroCells #[.int .i64 0,.int .i64 0,.int .u64 0,.int .u64 0] n).toList
theorem rU(n:Nat):(zC n).length=n*4:=by simp[zC,Builtin.zeroCells]
theorem cO(n:Nat):∀v∈zC n,v.oneCell'=true:=by
 intro v hv;simp only[zC,Builtin.zeroCells,Array.toList_map,ah] at hv;obtain⟨i,hi,rfl⟩:=hv;have:i%4<4:=avf _ jD;rcases (show i%4=0\/i%4=1\/i%4=2\/i%4=3 from jO) with e|e|e|e<;>simp[e,Value.oneCell']
theorem wP{W:World}{n k:Nat}{f:Nat->Z5}(h:UR W g n cap f)(hn:n<=cap)(hk:k<n):∃W',(∀ty c,(Builtin.clear_ #[89] ty #[.slice (some ⟨g,k*4,none⟩) (n-k) c]).run prog W=.ok (.tuple #[]) W')/\UR W' g k cap f/\W.grownBy W' (some g):=by
 obtain⟨cs,hb,hs,hc⟩:=h;obtain⟨m,hm⟩:∃m,n-k=m+1:=⟨n-k-1,jO⟩;have C:=run_storeCells_at (P:=prog) g (k*4) TC (zC (m+1)) 0 cs W hb (by rw[rU,hs];omega) (cO _);have hlen:=rU (m+1);rw[hm];refine⟨_,λty c=>by simp[Builtin.clear_,ake underlying89,cP];rw[show(Builtin.zeroCells (Value.cells (.agg #[.int .i64 0,.int .i64 0,.int .u64 0,.int .u64 0])) (m+1)).toList=zC (m+1) from rfl,C];rfl,?_,?_⟩
 ·refine⟨_,setRow_heap W g cs _ TC (0,0) hb,?_,λj I i v hv=> ?_⟩;·simp only[aic,ay,abg,aia,ane,hlen,hs];omega
  ·have hi:i<4:=(ak.1 hv).1;have D:=hc j jO i v hv;rw[au,aag,abc (by rw[abg,ane,hs];omega),aja,aF jO,aga];exact D
 ·exact⟨rfl,rfl,rfl,jS,λi _ hi=>setRow_other W g i _ (λe=>hi (by rw[e]))⟩
theorem Oe {r:Option Nat}(h:w.grownBy wr r)(q:Nat):w.grownBy (wr.drewN q) r:=⟨h.os,h.tape,h.output,h.size,h.block⟩
theorem BD(h:w.grownBy wr (some g))(Y I o2 U:Nat)(Z J T D:Value):w.grownBy ((((wr.setCell ⟨g,Y,none⟩ Z).setCell ⟨g,I,none⟩ J).setCell ⟨g,o2,none⟩ T).setCell ⟨g,U,none⟩ D) (some g):=by
 have one:∀(W:World) o d,W.grownBy (W.setCell ⟨g,o,none⟩ d) (some g):=λW o d=>⟨rfl,rfl,rfl,jS,λk _ C=>afc W ⟨g,o,none⟩ d k (λe=>C (by rw[e]))⟩
 exact Zf (Zf (Zf (Zf h (one _ _ _)) (one _ _ _)) (one _ _ _)) (one _ _ _)
def D3(base n:Nat)(l:List Z5)(v:Value)(w:World):Ending->World->Prop:=λe w'=>∃(v':Value) (ns:List Z5),e=.returned v'/\w'.ownsRow base TC 4 v' ns.length (ns.flatMap cL)/\(∀c,c∈ns↔c∈l)/\ns.length<=n/\w.grownBy w' v.ownBlock
theorem Iw{f:Nat->Z5}{k:Nat}(c:Z5):c∈(List.range k).map f↔∃j,j<k/\f j=c:=by
 rw[ah];exact⟨λ⟨j,C,e⟩=>⟨j,aib.1 C,e⟩,λ⟨j,C,e⟩=>⟨j,aib.2 C,e⟩⟩
theorem wO{n:Nat}{f:Nat->Z5}(w:World)(h2:2<=n)(hn:n<=1000000)(J:n<=cap)(Jd:cap<=maxLen)(hbg:base<=g)(hR:UR w g n cap f):
 Calls prog 138 #[.slice (some ⟨g,0,none⟩) n cap] w (D3 base n ((List.range n).map f) (.slice (some ⟨g,0,none⟩) n cap) w):=by
 have HR0:=aT hR;have HG0:=aT (Tq w (some g));have h2z:¬(n:Int)<2:=jO;have Cj:=aT Jd;clear hR Jd;go_enter func138,ntmps138;go_upto_region 4 with fail;go_loopg [3] (n+1) (λgg iv wr=>∃k:Nat,1<=k/\k<=n/\n-k<gg/\iv=.int .i64 (k:Int)/\Hid (UR wr g n cap f)/\Hid (w.grownBy wr (some g)));case atStart=>exact⟨1,jO,jO,jO,rfl,HR0,HG0⟩
 case round=>
  obtain⟨k,tS,ly,Vs,rfl,HR,HG⟩:=hrel;have iwk:=jW k;by_cases hlt:k<n
  ·have Zd:(k:Int)<(n:Int):=by omega
   obtain⟨e,he⟩:=jX (k-1);have cN:IntKind.i64.wrap ((k:Int)-1)=(e:Int):=by rw[aJ _ jO];omega
   have hen:e<n:=jO;have b0:=jZ k;have b1:=jZ e;have b2:(e:Int)<(n:Int):=jO;obtain⟨⟨x0,x1,x2,x3⟩,_⟩:=HR.cells hlt;obtain⟨⟨y0,y1,y2,y3⟩,_⟩:=HR.cells hen;by_cases hd:f k=f e
   ·have HD:Hid (Ng f (k+1) k f):=Ng.start tS (by rw[he];exact hd);rw[hd] at x0 x1 x2 x3;generalize f e=x at x0 x1 x2 x3 y0 y1 y2 y3;clear he hd;go_wp2;go_quiet (fail);have T:Hid (UR (wr.drewN nq) g n cap f):=HR.kept rfl;have Y:=aT (Oe HG nq);clear x0 x1 x2 x3 y0 y1 y2 y3 HR HG;generalize wr.drewN nq=w1 at*;clear cN b1 b2 hen;obtain⟨m,hm⟩:=jX (n-k);have sl:=λW=>My W g n cap k hlt J
    rw[hm] at sl;have zk:m+k=n:=jO;clear hm;go_upto_region 9 with fail;go_loopg [3,5] (m+1) (λg2 s3 s5 wr=>∃(D C:Nat) (U:Nat->Z5),s3=.int .i64 (D:Int)/\s5=.int .i64 (C:Int)/\1<=C/\C<=m/\m-C<g2/\D<k+C/\Hid (UR wr g n cap U)/\Hid (Ng f (k+C) D U)/\Hid (w.grownBy wr (some g)));case atStart=>exact⟨k,1,f,rfl,rfl,aR _,jO,jO,jO,T,HD,Y⟩
    case round=>
     obtain⟨D,C,U,rfl,rfl,aH3,aH4,hg2,aH5,I,HI,HGk⟩:=hrel;clear T HD Y;have iw2:=jW C;have iw3:=jW D;by_cases Ro:C<m
     ·have aF3:(C:Int)<(m:Int):=by omega
      obtain⟨e2,gL⟩:∃e,C-1=e:=⟨_,rfl⟩;have cN:IntKind.i64.wrap ((C:Int)-1)=(e2:Int):=by rw[aJ _ jO];omega
      have c0:=jZ C;have c1:=jZ e2;have c2:(e2:Int)<(m:Int):=jO;have c3:=jZ D;have c4:(D:Int)<(n:Int):=jO;obtain⟨⟨x0,x1,x2,x3⟩,_⟩:=I.cells (j:=k+C) jO;obtain⟨⟨y0,y1,y2,y3⟩,_⟩:=I.cells (j:=k+e2) jO;obtain⟨⟨z0,z1,z2,z3⟩,f0,f1,f2,f3⟩:=I.cells (j:=D) jO;rw[HI.out.2.2.1 _ jO,ara] at x0 x1 x2 x3;rw[HI.out.2.2.1 _ jO,ara] at y0 y1 y2 y3;have HF:Hid (f (k+C)=f (k+C)/\k+C-1=k+e2):=⟨rfl,jO⟩;clear gL;by_cases hd:f (k+C)=f (k+e2)
      ·have lx:Hid (Ng f (k+C+1) D U):=HI.skip (by rw[HF.out.2];exact hd);rw[hd] at x0 x1 x2 x3;generalize f (k+e2)=x at x0 x1 x2 x3 y0 y1 y2 y3;clear hd;go_wp2;go_quiet (fail);have Iu:Hid (UR (wr.drewN nq) g n cap U):=I.kept rfl;have DZ:=aT (Oe HGk nq);go_wp2;go_roundg (m-C);case measure=>omega
       case rel=>exact⟨D,C+1,U,rfl,by go_num,jO,jO,jO,jO,Iu,lx,DZ⟩
      ·have hne:=ah4 hd;have lx:Hid (Ng f (k+C+1) (D+1) (λj=>if j=D then f (k+C) else U j)):=HI.keep;generalize f (k+C)=x at*;generalize f (k+e2)=y at*;clear hd HF;go_wp2;go_quiet (fail);have Iu:Hid (UR (wr.drewN nq) g n cap U):=I.kept rfl;have DZ:=aT (Oe HGk nq);have Jm:=aT (Iu.put J (show D<n from jO) x);have HG3:=aT (BD DZ (D*4) (D*4+1) (D*4+2) (D*4+3) (.int .i64 x.a) (.int .i64 x.o) (.int .u64 x.m) (.int .u64 x.v));go_wp2;go_roundg (m-C);case measure=>omega
       case rel=>exact⟨D+1,C+1,_,by go_num,by go_num,jO,jO,jO,jO,Jm,lx,HG3⟩
     ·obtain rfl:C=m:=by omega
      have Ir:¬(C:Int)<(C:Int):=jO;have aH6:=HI.1;have Z:D<n:=jO;obtain⟨wc,Ny,hRc,hGc⟩:=wP I J Z;have sl1:=λW=>My W g n cap D Z J
      have sl2:=λW=>D4 W g n cap D jO
      have HRc:=aT hRc;have HGc:=aT (Zf HGk hGc);clear hRc hGc;go_wp2;go_ret;refine⟨_,(List.range D).map U,rfl,?_,λc=> ?_,?_,HGc⟩;·rw[aab,afe];exact HRc.own (aR _) jO hbg Cj
      ·rw[Iw,Iw,HI.out.2.2.2 c,show k+C=n from jO]
      ·rw[aab,afe];omega
   ·have hne:=at7 hd;generalize f k=x at*;generalize f e=y at*;clear hd;go_wp2;go_quiet (fail);have T:Hid (UR (wr.drewN nq) g n cap f):=HR.kept rfl;have Y:=aT (Oe HG nq);go_wp2;go_roundg (n-k);case measure=>omega
    case rel=>exact⟨k+1,jO,jO,jO,by go_num,T,Y⟩
  ·obtain rfl:k=n:=by omega
   have Zd:¬(k:Int)<(k:Int):=jO;go_wp2;go_ret;refine⟨_,(List.range k).map f,rfl,?_,λc=>Iff.rfl,?_,HG⟩;·rw[aab,afe];exact HR.own (aR _) J hbg Cj
   ·rw[aab,afe];exact aR _
theorem wN{n:Nat}{v:Value}{l:List Z5}(w:World)(hl:l.length=n)(hn:n<=1000000)(C:w.ownsRow base TC 4 v n (l.flatMap cL)):
 Calls prog 138 #[v] w (D3 base n l v w):=by
 by_cases h2:n<2
 ·have I:=aT C;have Y:(n:Int)<2:=jO
  obtain⟨a,c,rfl⟩:∃a c,v=.slice a n c:=by
   rcases C.2 with⟨rfl,U⟩|⟨g,cap,D,rfl,_⟩;·exact⟨none,0,by rw[U]⟩
   ·exact⟨_,_,rfl⟩
  have J:=aT hl;clear C hl;go_enter func138,ntmps138;go_wp2;go_ret;exact⟨_,l,rfl,by rw[J.out];exact I,λc=>Iff.rfl,by rw[J.out];exact aR _,Tq _ _⟩
 ·rcases C.2 with⟨rfl,U⟩|⟨g,cap,D,rfl,_⟩;·omega
  ·obtain⟨f,hR,Z,h4,h5,h6⟩:=UR.cQ C hl
   have e:(List.range n).map f=l:=by
    apply agb;intro j;by_cases T:j<n;·rw[acd,anf T,h6 j T];rfl
    ·rw[ahg (by rw[aab,afe];omega),ahg jO]
   have:=wO (base:=base) w jO hn Z h5 h4 hR;rw[e] at this;exact this
end Go.Proofs.YtclgigmgbebhgaaGreatDoor
namespace Go.Proofs.YtclgigmgbebhgaaGreatDoor
open Tryz
open Go Go.Proofs Go.RowKit Go.Shelf
instance:Inhabited Z5:=⟨⟨0,0,0,0⟩⟩
theorem wM{base n:Nat}{v:Value}{l:List Z5}(w:World)(hl:l.length=n)(hn:n<=1000000)(C:w.ownsRow base TC 4 v n (l.flatMap cL)):
 Calls prog 136 #[v,.func (.func 137) #[] #[]] w λe w'=>e=.returned (.tuple #[])/\∃d':List Z5,d'.Perm l/\w'.ownsRow base TC 4 v n (d'.flatMap cL)/\RowKit.Below base w w'/\w.heap.size<=w'.heap.size/\∀j o,w.heap[j]? =some o->v.ownBlock≠some j->w'.heap[j]? =some o:=by
 have h:=Ol Tryz.sq 4 (λ_=>jK) (λ_=>jK) cL (λ_=>rfl) (λx v hv=>by unfold cL at hv;simp at hv;rcases hv with rfl|rfl|rfl|rfl<;>rfl) wU at6 137 #[] (enters_of func137 jK rfl) (λx y W=>wQ x y W) w hl C hn
 refine h.mono ?_;rintro e w' ⟨rfl,d',I,_,D⟩;exact⟨rfl,d',I,D⟩
end Go.Proofs.YtclgigmgbebhgaaGreatDoor
