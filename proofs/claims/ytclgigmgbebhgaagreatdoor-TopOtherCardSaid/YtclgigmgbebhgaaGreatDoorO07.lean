/- TopOther: part 7: TopN3 TopN4 TopSortC. -/
import Derived.Shelf.Abstract
import Derived.Laws.AppendOwn
import Derived.Laws.CopyRow
import Derived.Lib.SliceRun
import Derived.Lib.SlBytesRow
import Derived.Test.YtclgigmgbebhgaaGreatDoorO06
set_option linter.unusedVariables false
set_option linter.unusedSimpArgs false
set_option maxRecDepth 100000
set_option maxHeartbeats 16000000
namespace Go.Proofs.YtclgigmgbebhgaaGreatDoor
open Tryz
open Go Go.Proofs Go.RowKit Go.Maps Go.WideMaps Go.ChangeMaps
theorem sk(c:Z5)(h:c.right)(W:World):Calls prog (MJ c.o) #[.agg (cC c)] W (V8 (Xn c) W):=by
 obtain⟨_,ho,_,hm,hv⟩:=h;unfold MJ Xn;rcases (show c.o=1\/c.o=2\/c.o=3\/c.o=4\/c.o=5\/c.o=6\/c.o=7 from jO) with q|q|q|q|q|q|q;·rw[aG (.inl q),aG (.inl q)];exact yV c W
 ·rw[aG (.inr q),aG (.inr q)];exact yV c W
 ·rw[aN jO,aG q,aN jO,aG q];exact lx c W
 ·rw[aN jO,aN jO,aG q,aN jO,aN jO,aG q];exact lq c hv W
 ·rw[aN jO,aN jO,aN jO,aG q,aN jO,aN jO,aN jO,aG q];exact lp c hv W
 ·rw[aN jO,aN jO,aN jO,aN jO,aG q,aN jO,aN jO,aN jO,aN jO,aG q];exact lu c W
 ·rw[aN jO,aN jO,aN jO,aN jO,aN jO,aN jO,aN jO,aN jO,aN jO,aN jO];exact wU c hm hv W
theorem wQ{W:World}{P R t:Nat}{c0 c1 c2 c3:Value}(hb:Z7 W P t #[c0,c1,c2,c3])(A:P≠R)(I J D C:Value):((((W.setCell ⟨R,0,none⟩ I).setCell ⟨R,1,none⟩ J).setCell ⟨R,2,none⟩ D).setCell ⟨R,3,none⟩ C).cell? ⟨P,0,none⟩=some c0/\((((W.setCell ⟨R,0,none⟩ I).setCell ⟨R,1,none⟩ J).setCell ⟨R,2,none⟩ D).setCell ⟨R,3,none⟩ C).cell? ⟨P,1,none⟩=some c1/\((((W.setCell ⟨R,0,none⟩ I).setCell ⟨R,1,none⟩ J).setCell ⟨R,2,none⟩ D).setCell ⟨R,3,none⟩ C).cell? ⟨P,2,none⟩=some c2/\((((W.setCell ⟨R,0,none⟩ I).setCell ⟨R,1,none⟩ J).setCell ⟨R,2,none⟩ D).setCell ⟨R,3,none⟩ C).cell? ⟨P,3,none⟩=some c3:=
 (Z8 ((((hb.other A 0 I).other A 1 J).other A 2 D).other A 3 C)).1
theorem wP(o:Nat)(ho:1<=o/\o<=7):∀args w,(callFunc (MJ o) args).run prog w=.ok (.enter (MJ o) args) w:=by
 rcases (show o=1\/o=2\/o=3\/o=4\/o=5\/o=6\/o=7 from jO) with rfl|rfl|rfl|rfl|rfl|rfl|rfl;·exact enters_of func284 jK rfl
 ·exact enters_of func284 jK rfl
 ·exact enters_of func286 jK rfl
 ·exact enters_of func290 jK rfl
 ·exact enters_of func291 jK rfl
 ·exact enters_of func288 jK rfl
 ·exact enters_of func285 jK rfl
theorem BD{c:Z5}(h:c.right):Zh.Xr (c.a:Int) (c.o:Int) (c.m:Int)=true:=by
 obtain⟨A,C,D,_,_⟩:=h;unfold Zh.Xr;exact adb jO
theorem wO(c:Z5)(h:c.right)(w:World):Calls prog 135 #[.agg (cC c)] w (V8 (Xn c) w):=by
 obtain⟨HP,HR,HB⟩:=Xf c w 68;have HC:=aT (λW=>sk c h W);have hr:=λW=>Zh.XQ (c.a:Int) (c.o:Int) (c.m:Int) (c.v:Int) W
 rw[BD h] at hr;have T:=aT hr;have ho:=h.2.1;have eg:=wP c.o ho;have HL:=aT (λW B (hM:ZB W B Ns)=>wT hM ho);clear hr h;generalize Xn c=S at*;obtain⟨a,o,m,v⟩:=c;unfold cC at*;dsimp only at*;generalize MJ o=fo at*;go_enter func135,ntmps135;go_upto_region 1 with fail;generalize (w.alloc (.cells #[.int .i64 a,.int .i64 o,.int .u64 m,.int .u64 v] 68)).alloc (.cells #[.int .i64 0,.int .i64 0,.int .u64 0,.int .u64 0] 68)=w1 at*;obtain⟨⟨p0,p1,p2,p3⟩,_⟩:=Z8 HP.out;obtain⟨R,hR⟩:=jX (w.heap.size+1);rw[hR] at HR ⊢;have J:w.heap.size<R:=jO;clear hR;go_wp2_with fail;refine(T.out w1).mono ?_;rintro e A ⟨rfl,hb⟩;have C:=aT (HP.out.below hb HP.out.lt);have I:=aT (HR.out.below hb HR.out.lt);have XA:=aT (HB.out.trans (hb.mono HB.out.size));clear hb HR HB HP p0 p1 p2 p3 T;obtain⟨⟨p0,p1,p2,p3⟩,_⟩:=Z8 C.out;go_upto_region 3 with fail;have HBD:Hid (Below A.heap.size A A.drew):=(aH _ A).drew;generalize hP:w.heap.size=P at*;have at6:P<A.heap.size:=C.out.lt;have hne:¬P=R:=Nat.ne_of_lt J
 go_region_held3 (λw'=>w'.cell? ⟨P,0,none⟩=some (.int .i64 a)/\w'.cell? ⟨P,1,none⟩=some (.int .i64 o)/\w'.cell? ⟨P,2,none⟩=some (.int .u64 m)/\w'.cell? ⟨P,3,none⟩=some (.int .u64 v)) (first|assumption|exact(Z8 (C.out.below (ajc jA) C.out.lt)).1|exact lf.out _ _ _ _) (first
  |(go_at_call 217;refine(wS _).mono ?_;rintro e w3 ⟨B,rfl,hM,Z⟩;have Vj:Hid (Below A.heap.size A w3):=HBD.out.trans Z;have lk:=HL.out w3 B hM;clear hM Z)
  |(refine(HC.out _).mono ?_;rintro e w4 ⟨rfl,Y⟩;have D:Hid (Below A.heap.size A w4):=(ajc (show Hid (Below A.heap.size A w3) from jA)).trans (Y.mono (ajc (show Hid (Below A.heap.size A w3) from jA)).size);clear Y;have lf:=aT (λd0 d1 d2 d3=>wQ (C.out.below D.out C.out.lt) hne d0 d1 d2 d3);have U:=aT (I.out.below D.out I.out.lt);obtain⟨⟨r0,r1,r2,r3⟩,f0,f1,f2,f3⟩:=Z8 U.out))
 go_wp2_with fail;refine aag (Zv rfl (ZG U.out _ _ _ _) rfl) rfl ?_;exact⟨rfl,by rw[hP];exact ZF (XA.out.trans (D.out.mono (ace at6))) (ace J) _ _ _ _⟩
theorem eight{W:World}{P Q t:Nat}{c0 c1 c2 c3 d0 d1 d2 d3:Value}(h:Z7 W P t #[c0,c1,c2,c3])(k:Z7 W Q t #[d0,d1,d2,d3]):W.cell? ⟨P,0,none⟩=some c0/\W.cell? ⟨P,1,none⟩=some c1/\W.cell? ⟨P,2,none⟩=some c2/\W.cell? ⟨P,3,none⟩=some c3/\W.cell? ⟨Q,0,none⟩=some d0/\W.cell? ⟨Q,1,none⟩=some d1/\W.cell? ⟨Q,2,none⟩=some d2/\W.cell? ⟨Q,3,none⟩=some d3:=by
 obtain⟨⟨a0,a1,a2,a3⟩,_⟩:=Z8 h;obtain⟨⟨b0,D,A,C⟩,_⟩:=Z8 k;exact⟨a0,a1,a2,a3,b0,D,A,C⟩
theorem wN(x y:Z5)(w:World):Calls prog 137 #[.agg (cC x),.agg (cC y)] w λe w'=>e=.returned (.int .i64 (wR x y))/\∃q J,w'=Go.Sort.grow (w.drewN q) J:=by
 have HP:Hid (Z7 ((w.alloc (.cells (cC x) 68)).alloc (.cells (cC y) 68)) w.heap.size 68 (cC x)):=(Z7.new w _ _).alloc _;have HQ:Hid (Z7 ((w.alloc (.cells (cC x) 68)).alloc (.cells (cC y) 68)) (w.heap.size+1) 68 (cC y)):=Z7.O9 _ _ _ _;have HG:Hid (∃os,(w.alloc (.cells (cC x) 68)).alloc (.cells (cC y) 68)=Go.Sort.grow w os):=⟨_,by rw[Go.Sort.alloc_eq_grow,Go.Sort.alloc_eq_grow,Go.Sort.grow_grow]⟩;unfold wR;obtain⟨D,T,Y,Z⟩:=x;obtain⟨ya,yo,I,U⟩:=y;unfold cC at*;dsimp only at*;go_enter func137,ntmps137;go_upto_region 1 with fail;generalize (w.alloc (.cells #[.int .i64 D,.int .i64 T,.int .u64 Y,.int .u64 Z] 68)).alloc (.cells #[.int .i64 ya,.int .i64 yo,.int .u64 I,.int .u64 U] 68)=w1 at*;generalize w.heap.size+1=Q at*;generalize w.heap.size=P at*;obtain⟨p0,p1,p2,p3,q0,q1,q2,q3⟩:=eight HP.out HQ.out;have HI:=aT (λa b W=>su a b W);have HW:=aT (λa b W=>sr a b W);have HO:Hid (∀a b c d:Int,Calls prog 219 #[.slice (some ⟨w1.heap.size,0,none⟩) 4 4] (w1.drew.alloc (.cells #[.int .i64 a,.int .i64 b,.int .i64 c,.int .i64 d] 3)) λe w'=>e=.returned (.int .i64 (lj [a,b,c,d]))/\w'=w1.drew.alloc (.cells #[.int .i64 a,.int .i64 b,.int .i64 c,.int .i64 d] 3)):=λa b c d=>lh (l:=[a,b,c,d]) rfl jS _ (λj x hx=>by rw[(show Z7 (w1.drew.alloc (.cells #[.int .i64 a,.int .i64 b,.int .i64 c,.int .i64 d] 3)) w1.heap.size 3 #[.int .i64 a,.int .i64 b,.int .i64 c,.int .i64 d] from Z7.new w1.drew _ _).cell j];have hj:=(au.1 hx).1;rcases (show j=0\/j=1\/j=2\/j=3 by simp at hj;omega) with rfl|rfl|rfl|rfl<;>simp_all)
 have C:Hid (Z7 w1.drew P 68 #[.int .i64 D,.int .i64 T,.int .u64 Y,.int .u64 Z]):=HP.out;have A:Hid (Z7 w1.drew Q 68 #[.int .i64 ya,.int .i64 yo,.int .u64 I,.int .u64 U]):=HQ.out
 go_region_held3 (λw'=>w'.cell? ⟨P,0,none⟩=some (.int .i64 D)/\w'.cell? ⟨P,1,none⟩=some (.int .i64 T)/\w'.cell? ⟨P,2,none⟩=some (.int .u64 Y)/\w'.cell? ⟨P,3,none⟩=some (.int .u64 Z)/\w'.cell? ⟨Q,0,none⟩=some (.int .i64 ya)/\w'.cell? ⟨Q,1,none⟩=some (.int .i64 yo)/\w'.cell? ⟨Q,2,none⟩=some (.int .u64 I)/\w'.cell? ⟨Q,3,none⟩=some (.int .u64 U)) (first|assumption|exact eight C.out A.out|exact eight (C.out.alloc _) (A.out.alloc _)) (first
  |(go_at_call 220;refine(HI.out _ _ _).mono ?_;rintro e w7 ⟨rfl,rfl⟩)
  |(go_at_call 221;refine(HW.out _ _ _).mono ?_;rintro e w7 ⟨rfl,rfl⟩)
  |(go_at_call 219;refine(HO.out _ _ _ _).mono ?_;rintro e w7 ⟨rfl,rfl⟩))
 go_wp2_with fail;go_ret;obtain⟨os,ho⟩:=HG.out;exact⟨rfl,1,_,by rw[ho,Go.Sort.alloc_eq_grow,Go.Sort.grow_grow];rfl⟩
end Go.Proofs.YtclgigmgbebhgaaGreatDoor
namespace Go.Proofs.YtclgigmgbebhgaaGreatDoor
open Tryz
open Go Go.Proofs Go.RowKit
variable {m g cap base:Nat} {w wr:World}
abbrev TC:Nat:=68
def cL(c:Z5):List Value:=[.int .i64 c.a,.int .i64 c.o,.int .u64 c.m,.int .u64 c.v]
theorem ah6{c d:Z5}(h:c≠d)(w:World):(Go.binOp .neq TC (.agg #[.int .i64 c.a,.int .i64 c.o,.int .u64 c.m,.int .u64 c.v]) (.agg #[.int .i64 d.a,.int .i64 d.o,.int .u64 d.m,.int .u64 d.v])).run prog w=.ok (.bool true) w:=by
 have hf:¬((c.a:Int)=d.a/\(c.o:Int)=d.o/\(c.m:Int)=d.m/\(c.v:Int)=d.v):=by rintro⟨C,I,D,A⟩;apply h;cases c;cases d;simp only[Z5.mk.injEq];dsimp only at*;omega
 simp[go_sem];omega
theorem at7{c d:Z5}(h:c≠d)(w:World):(Go.binOp .eql TC (.agg #[.int .i64 c.a,.int .i64 c.o,.int .u64 c.m,.int .u64 c.v]) (.agg #[.int .i64 d.a,.int .i64 d.o,.int .u64 d.m,.int .u64 d.v])).run prog w=.ok (.bool false) w:=by
 have hf:¬((c.a:Int)=d.a/\(c.o:Int)=d.o/\(c.m:Int)=d.m/\(c.v:Int)=d.v):=by rintro⟨C,I,D,A⟩;apply h;cases c;cases d;simp only[Z5.mk.injEq];dsimp only at*;omega
 simp[go_sem];omega
theorem RR:∀(l:List Z5) (i:Nat) (x:Z5),l[i]? =some x->∀j,j<4->(l.flatMap cL)[i*4+j]? =(cL x)[j]?
 |[],i,x,h,j,A=>by simp at h
 |y::l,0,x,h,j,A=>by
  simp at h;subst h;rw[acd,abb (by show _<4;omega)]
  congr 1
  omega
 |y::l,i+1,x,h,j,A=>by have C:=RR l i x (by simpa using h) j A;rw[acd,aae (by show 4<=_;omega),show(i+1)*4+j-(cL y).length=i*4+j by show(i+1)*4+j-4=_;omega];exact C
theorem Q2(l:List Z5):(l.flatMap cL).length=l.length*4:=by
 induction l with
 |nil=>rfl
 |cons x l A=>rw[acd,ay,A];show 4+_=(l.length+1)*4;omega
def U3(W:World)(g n cap:Nat)(f:Nat->Z5):Prop:=∃cs:Array Value,Z7 W g TC cs/\cs.size=cap*4/\∀j,j<n->∀i v,(cL (f j))[i]? =some v->cs[j*4+i]? =some v
section
variable {W W':World} {g n cap:Nat} {f:Nat->Z5}
theorem U3.cells(h:U3 W g n cap f){j:Nat}(A:j<n):(W.cell? ⟨g,j*4,none⟩=some (.int .i64 ((f j).a:Int))/\W.cell? ⟨g,j*4+1,none⟩=some (.int .i64 ((f j).o:Int))/\W.cell? ⟨g,j*4+2,none⟩=some (.int .u64 ((f j).m:Int))/\W.cell? ⟨g,j*4+3,none⟩=some (.int .u64 ((f j).v:Int)))/\W.frozen? ⟨g,j*4,none⟩=false/\W.frozen? ⟨g,j*4+1,none⟩=false/\W.frozen? ⟨g,j*4+2,none⟩=false/\W.frozen? ⟨g,j*4+3,none⟩=false:=by
 obtain⟨cs,hb,hs,hc⟩:=h;exact⟨⟨(hb.cell _).trans (hc j A 0 _ rfl),(hb.cell _).trans (hc j A 1 _ rfl),(hb.cell _).trans (hc j A 2 _ rfl),(hb.cell _).trans (hc j A 3 _ rfl)⟩,hb.frozen _,hb.frozen _,hb.frozen _,hb.frozen _⟩
theorem U3.kept(h:U3 W g n cap f)(hk:W'.heap[g]? =W.heap[g]?):U3 W' g n cap f:=by
 obtain⟨cs,hb,hs,hc⟩:=h;exact⟨cs,hk.trans hb,hs,hc⟩
theorem U3.put(h:U3 W g n cap f)(hn:n<=cap){k:Nat}(hk:k<n)(x:Z5):U3 ((((W.setCell ⟨g,k*4,none⟩ (.int .i64 x.a)).setCell ⟨g,k*4+1,none⟩ (.int .i64 x.o)).setCell ⟨g,k*4+2,none⟩ (.int .u64 x.m)).setCell ⟨g,k*4+3,none⟩ (.int .u64 x.v)) g n cap (λj=>if j=k then x else f j):=by
 obtain⟨cs,hb,hs,hc⟩:=h;refine⟨_,(((hb.set (k*4) _).set (k*4+1) _).set (k*4+2) _).set (k*4+3) _,by simp[hs],λj C i v hv=> ?_⟩;have hi:i<4:=(au.1 hv).1;have A:k*4+3<cs.size:=by rw[hs];omega
 by_cases e:j=k;·subst e;simp only[aG] at hv;rcases (show i=0\/i=1\/i=2\/i=3 from jO) with rfl|rfl|rfl|rfl<;>(unfold cL at hv;simp at hv;subst hv;simp[Array.getElem?_setIfInBounds,Array.size_setIfInBounds];omega)
 ·simp only[aN e] at hv;rw[aid jO,aid jO,aid jO,aid jO];exact hc j C i v hv
theorem cy(c:Z5):(cL c).length=4:=rfl
theorem U3.cx{base:Nat}{l:List Z5}(h:W.ownsRow base TC 4 (.slice (some ⟨g,0,none⟩) n cap) n (l.flatMap cL))(hl:l.length=n):∃f,U3 W g n cap f/\n<=cap/\base<=g/\cap<=maxLen/\∀j,j<n->l[j]? =some (f j):=by
 rcases h.2 with⟨e,_⟩|⟨g',C,A,e,D,Z,J,T,I,Y⟩
 ·cases e
 ·cases e;refine⟨λj=>l[j]?.getD ⟨0,0,0,0⟩,⟨A,Z,I,λj U i v hv=> ?_⟩,J,D,T,λj U=> ?_⟩
  ·have hx:l[j]? =some (l[j]?.getD ⟨0,0,0,0⟩):=by rw[aM jO];rfl
   have hi:i<4:=(au.1 hv).1;have hf:=RR l j _ hx i hi;rw[hv] at hf;rw[<-Y,aie] at hf;split at hf;·simpa using hf
   ·cases hf
  ·show l[j]? =some (l[j]?.getD _);rw[aM jO];rfl
theorem U3.own{base m:Nat}(h:U3 W g n cap f)(hm:m<=n)(hn:n<=cap)(hb:base<=g)(A:cap<=maxLen):W.ownsRow base TC 4 (.slice (some ⟨g,0,none⟩) m cap) m (((List.range m).map f).flatMap cL):=by
 obtain⟨cs,C,hs,hc⟩:=h;refine⟨by rw[Q2,aad,afc],.inr ⟨g,cap,cs,rfl,hb,C,jO,A,hs,?_⟩⟩;apply agd;intro t;rw[aie];by_cases ht:t<m*4
 ·rw[aG ht];have e:t=t/4*4+t%4:=jO;have J:t/4<m:=jO;have hx:((List.range m).map f)[t/4]? =some (f (t/4)):=by rw[ada,aoa J];rfl
  have D:=RR _ _ _ hx (t%4) jO;rw[<-e] at D;rw[D];obtain⟨v,hv⟩:∃v,(cL (f (t/4)))[t%4]? =some v:=⟨_,aM (by rw[cy];omega)⟩;have I:=hc (t/4) jO (t%4) v hv;rw[<-e] at I;rw[hv,aff,I]
 ·rw[aN ht,ahe (by rw[Q2,aad,afc];omega)]
end
def Nr(f:Nat->Z5)(m k:Nat)(fk:Nat->Z5):Prop:=0<k/\k<m/\(∀j,k<=j->fk j=f j)/\∀c,(∃j,j<k/\fk j=c)↔(∃j,j<m/\f j=c)
theorem Nr.start{f:Nat->Z5}{k:Nat}(A:0<k)(h:f k=f (k-1)):Nr f (k+1) k f:=by
 refine⟨A,amg _,λ_ _=>rfl,λc=>⟨λ⟨j,C,e⟩=>⟨j,jO,e⟩,λ⟨j,C,e⟩=> ?_⟩⟩;by_cases hk:j=k;·subst hk;exact⟨j-1,jO,by rw[<-h];exact e⟩
 ·exact⟨j,jO,e⟩
theorem Nr.skip{f fk:Nat->Z5}{k:Nat}(I:Nr f m k fk)(h:f m=f (m-1)):Nr f (m+1) k fk:=by
 obtain⟨C,T,J,D⟩:=I;refine⟨C,jO,J,λc=> ?_⟩;rw[D c];constructor;·rintro⟨j,A,e⟩;exact⟨j,jO,e⟩
 ·rintro⟨j,A,e⟩;by_cases hm:j=m;·subst hm;exact⟨j-1,jO,by rw[<-h];exact e⟩
  ·exact⟨j,jO,e⟩
theorem Nr.keep{f fk:Nat->Z5}{k:Nat}(D:Nr f m k fk):Nr f (m+1) (k+1) (λj=>if j=k then f m else fk j):=by
 obtain⟨T,J,I,C⟩:=D;refine⟨jO,jO,λj A=>(aN jO).trans (I j jO),λc=>⟨?_,?_⟩⟩
 ·rintro⟨j,A,e⟩;by_cases hk:j=k;·simp only[aG hk] at e;exact⟨m,jO,e⟩
  ·simp only[aN hk] at e;obtain⟨i,hi,e2⟩:=(C c).1 ⟨j,jO,e⟩;exact⟨i,jO,e2⟩
 ·rintro⟨j,A,e⟩;by_cases hm:j=m;·subst hm;exact⟨k,jO,(aG rfl).trans e⟩
  ·obtain⟨i,hi,e2⟩:=(C c).2 ⟨j,jO,e⟩;exact⟨i,jO,(aN jO).trans e2⟩
theorem gh:∀w,(Go.sizeOf TC).run prog w=.ok 4 w:=λ_=>jK
theorem D6(W:World)(g n A k:Nat)(hk:k<=A):(Instr.slice 89 (.slice (some ⟨g,0,none⟩) n A) none (some (.int .i64 k)) none).run prog W=.ok (.slice (some ⟨g,0,none⟩) k A) W:=by
 have C:prog.underlying 89=some (.slice (prog.elem 89)):=by simp[Program.elem,underlying89]
 have D:prog.elem 89=TC:=by simp[Program.elem,underlying89]
 rw[run_slice_h W _ _ _ _ C .i64 _ jO jO,D,gh];simp[Result.andThen,sliced,Addr.add]
theorem MI(W:World)(g n A k:Nat)(hk:k<n)(hn:n<=A):(Instr.slice 89 (.slice (some ⟨g,0,none⟩) n A) (some (.int .i64 k)) none none).run prog W=.ok (.slice (some ⟨g,k*4,none⟩) (n-k) (A-k)) W:=by
 have C:prog.underlying 89=some (.slice (prog.elem 89)):=by simp[Program.elem,underlying89]
 have D:prog.elem 89=TC:=by simp[Program.elem,underlying89]
 rw[run_slice_l W _ _ _ _ C .i64 _ jO jO,D,gh];have e:A≠k:=jO;simp[Result.andThen,sliced,Addr.add,e];exact λh=>h.symm
theorem cw:∀w,(zeroValue TC).run prog w=.ok (.agg #[.int .i64 0,.int .i64 0,.int .u64 0,.int .u64 0]) w:=λ_=>jK
def zC(n:Nat):List Value:=(Builtin.zeroCells #[.int .i64 0,.int .i64 0,.int .u64 0,.int .u64 0] n).toList
theorem sj(n:Nat):(zC n).length=n*4:=by simp[zC,Builtin.zeroCells]
theorem cu(n:Nat):∀v∈zC n,v.oneCell'=true:=by
 intro v hv;simp only[zC,Builtin.zeroCells,Array.toList_map,ai] at hv;obtain⟨i,hi,rfl⟩:=hv;have:i%4<4:=awa _ jD;rcases (show i%4=0\/i%4=1\/i%4=2\/i%4=3 from jO) with e|e|e|e<;>simp[e,Value.oneCell']
theorem wM{W:World}{n k:Nat}{f:Nat->Z5}(h:U3 W g n cap f)(hn:n<=cap)(hk:k<n):∃W',(∀ty c,(Builtin.clear_ #[89] ty #[.slice (some ⟨g,k*4,none⟩) (n-k) c]).run prog W=.ok (.tuple #[]) W')/\U3 W' g k cap f/\W.grownBy W' (some g):=by
 obtain⟨cs,hb,hs,hc⟩:=h;obtain⟨m,hm⟩:∃m,n-k=m+1:=⟨n-k-1,jO⟩;have A:=run_storeCells_at (P:=prog) g (k*4) TC (zC (m+1)) 0 cs W hb (by rw[sj,hs];omega) (cu _);have hlen:=sj (m+1);rw[hm];refine⟨_,λty c=>by simp[Builtin.clear_,ajb underlying89,cw];rw[show(Builtin.zeroCells (Value.cells (.agg #[.int .i64 0,.int .i64 0,.int .u64 0,.int .u64 0])) (m+1)).toList=zC (m+1) from rfl,A];rfl,?_,?_⟩
 ·refine⟨_,setRow_heap W g cs _ TC (0,0) hb,?_,λj D i v hv=> ?_⟩;·simp only[aib,ay,abg,ahg,ang,hlen,hs];omega
  ·have hi:i<4:=(au.1 hv).1;have C:=hc j jO i v hv;rw[ak,aba,abb (by rw[abg,ang,hs];omega),aie,aG jO,aff];exact C
 ·exact⟨rfl,rfl,rfl,jS,λi _ hi=>setRow_other W g i _ (λe=>hi (by rw[e]))⟩
theorem Ow {r:Option Nat}(h:w.grownBy wr r)(q:Nat):w.grownBy (wr.drewN q) r:=⟨h.os,h.tape,h.output,h.size,h.block⟩
theorem BC(h:w.grownBy wr (some g))(D C Y Z:Nat)(J T I U:Value):w.grownBy ((((wr.setCell ⟨g,D,none⟩ J).setCell ⟨g,C,none⟩ T).setCell ⟨g,Y,none⟩ I).setCell ⟨g,Z,none⟩ U) (some g):=by
 have one:∀(W:World) o d,W.grownBy (W.setCell ⟨g,o,none⟩ d) (some g):=λW o d=>⟨rfl,rfl,rfl,jS,λk _ A=>aef W ⟨g,o,none⟩ d k (λe=>A (by rw[e]))⟩
 exact Zj (Zj (Zj (Zj h (one _ _ _)) (one _ _ _)) (one _ _ _)) (one _ _ _)
def D5(base n:Nat)(l:List Z5)(v:Value)(w:World):Ending->World->Prop:=λe w'=>∃(v':Value) (ns:List Z5),e=.returned v'/\w'.ownsRow base TC 4 v' ns.length (ns.flatMap cL)/\(∀c,c∈ns↔c∈l)/\ns.length<=n/\w.grownBy w' v.ownBlock
theorem IJ{f:Nat->Z5}{k:Nat}(c:Z5):c∈(List.range k).map f↔∃j,j<k/\f j=c:=by
 rw[ai];exact⟨λ⟨j,A,e⟩=>⟨j,aia.1 A,e⟩,λ⟨j,A,e⟩=>⟨j,aia.2 A,e⟩⟩
theorem wL{n:Nat}{f:Nat->Z5}(w:World)(h2:2<=n)(hn:n<=1000000)(I:n<=cap)(Y:cap<=maxLen)(hbg:base<=g)(hR:U3 w g n cap f):
 Calls prog 138 #[.slice (some ⟨g,0,none⟩) n cap] w (D5 base n ((List.range n).map f) (.slice (some ⟨g,0,none⟩) n cap) w):=by
 have HR0:=aT hR;have HG0:=aT (TG w (some g));have h2z:¬(n:Int)<2:=jO;have Ci:=aT Y;clear hR Y;go_enter func138,ntmps138;go_upto_region 4 with fail;go_loopg [3] (n+1) (λgg iv wr=>∃k:Nat,1<=k/\k<=n/\n-k<gg/\iv=.int .i64 (k:Int)/\Hid (U3 wr g n cap f)/\Hid (w.grownBy wr (some g)));case atStart=>exact⟨1,jO,jO,jO,rfl,HR0,HG0⟩
 case round=>
  obtain⟨k,kZ,kY,VP,rfl,HR,HG⟩:=hrel;have iwk:=jW k;by_cases hlt:k<n
  ·have Y8:(k:Int)<(n:Int):=by omega
   obtain⟨e,he⟩:=jX (k-1);have ct:IntKind.i64.wrap ((k:Int)-1)=(e:Int):=by rw[aJ _ jO];omega
   have hen:e<n:=jO;have b0:=jZ k;have b1:=jZ e;have b2:(e:Int)<(n:Int):=jO;obtain⟨⟨x0,x1,x2,x3⟩,_⟩:=HR.cells hlt;obtain⟨⟨y0,y1,y2,y3⟩,_⟩:=HR.cells hen;by_cases hd:f k=f e
   ·have HD:Hid (Nr f (k+1) k f):=Nr.start kZ (by rw[he];exact hd);rw[hd] at x0 x1 x2 x3;generalize f e=x at x0 x1 x2 x3 y0 y1 y2 y3;clear he hd;go_wp2;go_quiet (fail);have U:Hid (U3 (wr.drewN nq) g n cap f):=HR.kept rfl;have J:=aT (Ow HG nq);clear x0 x1 x2 x3 y0 y1 y2 y3 HR HG;generalize wr.drewN nq=w1 at*;clear ct b1 b2 hen;obtain⟨m,hm⟩:=jX (n-k);have sl:=λW=>MI W g n cap k hlt I
    rw[hm] at sl;have zj:m+k=n:=jO;clear hm;go_upto_region 9 with fail;go_loopg [3,5] (m+1) (λg2 s3 s5 wr=>∃(C A:Nat) (T:Nat->Z5),s3=.int .i64 (C:Int)/\s5=.int .i64 (A:Int)/\1<=A/\A<=m/\m-A<g2/\C<k+A/\Hid (U3 wr g n cap T)/\Hid (Nr f (k+A) C T)/\Hid (w.grownBy wr (some g)));case atStart=>exact⟨k,1,f,rfl,rfl,aR _,jO,jO,jO,U,HD,J⟩
    case round=>
     obtain⟨C,A,T,rfl,rfl,aH0,aH1,hg2,aH2,D,HI,HGk⟩:=hrel;clear U HD J;have iw2:=jW A;have iw3:=jW C;by_cases RQ:A<m
     ·have aE9:(A:Int)<(m:Int):=by omega
      obtain⟨e2,fZ⟩:∃e,A-1=e:=⟨_,rfl⟩;have ct:IntKind.i64.wrap ((A:Int)-1)=(e2:Int):=by rw[aJ _ jO];omega
      have c0:=jZ A;have c1:=jZ e2;have c2:(e2:Int)<(m:Int):=jO;have c3:=jZ C;have c4:(C:Int)<(n:Int):=jO;obtain⟨⟨x0,x1,x2,x3⟩,_⟩:=D.cells (j:=k+A) jO;obtain⟨⟨y0,y1,y2,y3⟩,_⟩:=D.cells (j:=k+e2) jO;obtain⟨⟨z0,z1,z2,z3⟩,f0,f1,f2,f3⟩:=D.cells (j:=C) jO;rw[HI.out.2.2.1 _ jO,arc] at x0 x1 x2 x3;rw[HI.out.2.2.1 _ jO,arc] at y0 y1 y2 y3;have HF:Hid (f (k+A)=f (k+A)/\k+A-1=k+e2):=⟨rfl,jO⟩;clear fZ;by_cases hd:f (k+A)=f (k+e2)
      ·have kX:Hid (Nr f (k+A+1) C T):=HI.skip (by rw[HF.out.2];exact hd);rw[hd] at x0 x1 x2 x3;generalize f (k+e2)=x at x0 x1 x2 x3 y0 y1 y2 y3;clear hd;go_wp2;go_quiet (fail);have KJ:Hid (U3 (wr.drewN nq) g n cap T):=D.kept rfl;have KH:=aT (Ow HGk nq);go_wp2;go_roundg (m-A);case measure=>omega
       case rel=>exact⟨C,A+1,T,rfl,by go_num,jO,jO,jO,jO,KJ,kX,KH⟩
      ·have hne:=ah6 hd;have kX:Hid (Nr f (k+A+1) (C+1) (λj=>if j=C then f (k+A) else T j)):=HI.keep;generalize f (k+A)=x at*;generalize f (k+e2)=y at*;clear hd HF;go_wp2;go_quiet (fail);have KJ:Hid (U3 (wr.drewN nq) g n cap T):=D.kept rfl;have KH:=aT (Ow HGk nq);have JA:=aT (KJ.put I (show C<n from jO) x);have HG3:=aT (BC KH (C*4) (C*4+1) (C*4+2) (C*4+3) (.int .i64 x.a) (.int .i64 x.o) (.int .u64 x.m) (.int .u64 x.v));go_wp2;go_roundg (m-A);case measure=>omega
       case rel=>exact⟨C+1,A+1,_,by go_num,by go_num,jO,jO,jO,jO,JA,kX,HG3⟩
     ·obtain rfl:A=m:=by omega
      have II:¬(A:Int)<(A:Int):=jO;have aH3:=HI.1;have Z:C<n:=jO;obtain⟨wc,IG,hRc,hGc⟩:=wM D I Z;have sl1:=λW=>MI W g n cap C Z I
      have sl2:=λW=>D6 W g n cap C jO
      have HRc:=aT hRc;have HGc:=aT (Zj HGk hGc);clear hRc hGc;go_wp2;go_ret;refine⟨_,(List.range C).map T,rfl,?_,λc=> ?_,?_,HGc⟩;·rw[aad,afc];exact HRc.own (aR _) jO hbg Ci
      ·rw[IJ,IJ,HI.out.2.2.2 c,show k+A=n from jO]
      ·rw[aad,afc];omega
   ·have hne:=at7 hd;generalize f k=x at*;generalize f e=y at*;clear hd;go_wp2;go_quiet (fail);have U:Hid (U3 (wr.drewN nq) g n cap f):=HR.kept rfl;have J:=aT (Ow HG nq);go_wp2;go_roundg (n-k);case measure=>omega
    case rel=>exact⟨k+1,jO,jO,jO,by go_num,U,J⟩
  ·obtain rfl:k=n:=by omega
   have Y8:¬(k:Int)<(k:Int):=jO;go_wp2;go_ret;refine⟨_,(List.range k).map f,rfl,?_,λc=>Iff.rfl,?_,HG⟩;·rw[aad,afc];exact HR.own (aR _) I hbg Ci
   ·rw[aad,afc];exact aR _
theorem wK{n:Nat}{v:Value}{l:List Z5}(w:World)(hl:l.length=n)(hn:n<=1000000)(A:w.ownsRow base TC 4 v n (l.flatMap cL)):
 Calls prog 138 #[v] w (D5 base n l v w):=by
 by_cases h2:n<2
 ·have C:=aT A;have U:(n:Int)<2:=jO
  obtain⟨a,c,rfl⟩:∃a c,v=.slice a n c:=by
   rcases A.2 with⟨rfl,I⟩|⟨g,cap,D,rfl,_⟩;·exact⟨none,0,by rw[I]⟩
   ·exact⟨_,_,rfl⟩
  have J:=aT hl;clear A hl;go_enter func138,ntmps138;go_wp2;go_ret;exact⟨_,l,rfl,by rw[J.out];exact C,λc=>Iff.rfl,by rw[J.out];exact aR _,TG _ _⟩
 ·rcases A.2 with⟨rfl,I⟩|⟨g,cap,D,rfl,_⟩;·omega
  ·obtain⟨f,hR,Z,h4,Y,h6⟩:=U3.cx A hl
   have e:(List.range n).map f=l:=by
    apply agd;intro j;by_cases T:j<n;·rw[ada,aoa T,h6 j T];rfl
    ·rw[ahe (by rw[aad,afc];omega),ahe jO]
   have:=wL (base:=base) w jO hn Z Y h4 hR;rw[e] at this;exact this
end Go.Proofs.YtclgigmgbebhgaaGreatDoor
namespace Go.Proofs.YtclgigmgbebhgaaGreatDoor
open Tryz
open Go Go.Proofs Go.RowKit Go.Shelf
instance:Inhabited Z5:=⟨⟨0,0,0,0⟩⟩
theorem wJ{base n:Nat}{v:Value}{l:List Z5}(w:World)(hl:l.length=n)(hn:n<=1000000)(A:w.ownsRow base TC 4 v n (l.flatMap cL)):
 Calls prog 136 #[v,.func (.func 137) #[] #[]] w λe w'=>e=.returned (.tuple #[])/\∃d':List Z5,d'.Perm l/\w'.ownsRow base TC 4 v n (d'.flatMap cL)/\RowKit.Below base w w'/\w.heap.size<=w'.heap.size/\∀j o,w.heap[j]? =some o->v.ownBlock≠some j->w'.heap[j]? =some o:=by
 have h:=Oz Tryz.sJ 4 (λ_=>jK) (λ_=>jK) cL (λ_=>rfl) (λx v hv=>by unfold cL at hv;simp at hv;rcases hv with rfl|rfl|rfl|rfl<;>rfl) wR at5 137 #[] (enters_of func137 jK rfl) (λx y W=>wN x y W) w hl A hn
 refine h.mono ?_;rintro e w' ⟨rfl,d',C,_,D⟩;exact⟨rfl,d',C,D⟩
end Go.Proofs.YtclgigmgbebhgaaGreatDoor
