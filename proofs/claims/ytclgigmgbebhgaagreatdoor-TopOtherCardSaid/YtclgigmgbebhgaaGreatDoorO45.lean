/- TopOther: part 45: Lift Open TopOpen TopOpen2 SysOpen LiftC. -/
import Derived.Test.YtclgigmgbebhgaaGreatDoorRows
import Derived.ProofKit
import Derived.OpenShut
import Derived.SizedLaws
import Derived.Deep.Slices
import Derived.Deep.Strs
import Derived.Test.YtclgigmgbebhgaaGreatDoorCards
import Derived.Test.YtclgigmgbebhgaaGreatDoorTie
import Derived.Deep.DeepHandedRow
import Derived.Lib.LaidTab
import Derived.Test.YtclgigmgbebhgaaGreatDoorO43
set_option linter.unusedVariables false
set_option linter.unusedSimpArgs false
set_option maxRecDepth 100000
set_option maxHeartbeats 16000000
namespace Go.Proofs.YtclgigmgbebhgaaGreatDoor
open Go.Proofs.Tryz
open Go Go.Proofs Go.ChangeShapes Go.WideShapes Go.ChangeAt Go.RowKit
theorem Pt{H:Type}{enc:TypeId×Value->H}{P:Program}(hl:laidOutB P=true){W W':World}(hb:Below W.heap.size W W'):
 ∀{ts:List TypeId} {vs:List Value} {ds:List (DataW H)} {ps:List MemPlace},(∀t∈ts,P.readableRec t=true/\t<P.types.size)->
  DataW.TrodAll enc P W 0 (λ_=>true) true ts vs ds ps->(∀x∈ps,x.block<W.heap.size)->
  DataW.TrodAll enc P W' 0 (λb=>decide (b<W.heap.size)) true ts vs ds ps
 |[],[],[],_,_,h,_=>h
 |t::ts,v::vs,d::ds,_,hr,⟨p,q,h1,h2,e⟩,hlt=>by subst e;exact⟨p,q,Below.trod hl (hr t jS).1 (hr t jS).2 h1 hb (λx hx=>hlt x (by simp[hx])),Pt hl hb (λu hu=>hr u (by simp[hu])) h2 (λx hx=>hlt x (by simp[hx])),rfl⟩
 |[],[],_::_,_,_,h,_=>h.elim
 |[],_::_,_,_,_,h,_=>by cases ‹List (DataW H)›<;>exact h.elim
 |_::_,[],_,_,_,h,_=>by cases ‹List (DataW H)›<;>exact h.elim
 |_::_,_::_,[],_,_,h,_=>h.elim
theorem LV{H:Type}{enc:TypeId×Value->H}{P:Program}{W:World}{b:Nat}{sp:Nat->Bool}{hd:Bool}:
 ∀{ts:List TypeId} {vs:List Value} {ds:List (DataW H)} {ps:List MemPlace},DataW.TrodAll enc P W b sp hd ts vs ds ps->ds.length=ts.length
 |[],[],[],_,_=>rfl
 |_::_,_::_,_::_,_,⟨_,_,_,h2,_⟩=>by simp[LV h2]
 |[],[],_::_,_,h=>h.elim
 |[],_::_,_,_,h=>by cases ‹List (DataW H)›<;>exact h.elim
 |_::_,[],_,_,h=>by cases ‹List (DataW H)›<;>exact h.elim
 |_::_,_::_,[],_,h=>h.elim
section
variable {H:Type} {enc:TypeId×Value->H} {P:Program} {w:World} {base:Nat} {spare:Nat->Bool} {held:Bool}
theorem I6{n m:Nat}{e:TypeId}{k:IntKind}{cs:List Value}{xs:List (DataW H×List MemPlace)}(I:P.underlying e=some (.int k))(hl:cs.length=n)(hx:xs.length=n)
 (h:∀i,i<n->DataW.trod enc P w base spare held m e ((cs.drop i).take 1)=xs[i]?):∃A:List Int,A.length=n/\cs=A.map (Value.int k)/\∀z∈A,(Lit.int k z).wf=true:=by
 induction n generalizing cs xs with
 |zero=>exact⟨[],rfl,by simpa using hl,jS⟩
 |succ n D=>
  cases cs with
  |nil=>simp at hl
  |cons c cs=>
   cases xs with
   |nil=>simp at hx
   |cons x xs=>
    have C:=h 0 jO;simp only[aug,List.take_succ_cons,List.take_zero,aL] at C;obtain⟨z,e0,_,J⟩:=ane I C;obtain⟨A,hz,hc,hw⟩:=D (cs:=cs) (xs:=xs) (by simpa using hl) (by simpa using hx) (λi hi=>by simpa using h (i+1) jO);refine⟨z::A,by simp[hz],?_,?_⟩;·simp only[List.cons.injEq,and_true] at e0;rw[e0,hc];rfl
    ·intro y hy;rcases abf.1 hy with rfl|hy;·exact J
     ·exact hw y hy
end
end Go.Proofs.YtclgigmgbebhgaaGreatDoor
namespace Go.Proofs.YtclgigmgbebhgaaGreatDoor.Z0
open Go.Proofs.Tryz
open Go Go.Proofs Go.ChangeShapes Go.WideShapes Go.ChangeAt Go.RowKit Go.Deep
section
variable {H:Type} {enc:TypeId×Value->H} {w:World} {base:Nat} {spare:Nat->Bool} {held:Bool}
theorem Rf{α:Type}(R:Nat->α)(n:Nat):∃l:List α,l.length=n/\∀j,j<n->l[j]? =some (R j):=
 ⟨(List.range n).map R,jS,λj A=>by simp[A]⟩
theorem GM{a:Addr}{v:Value}(h:w.cell? a=some v):∃b off,a=⟨b,off,none⟩/\b<w.heap.size:=by
 obtain⟨b,off,spot⟩:=a;have hs:spot=none:=by
  cases spot with
  |none=>rfl
  |some q=>
   simp only[World.cell?] at h;split at h<;>simp at h
 subst hs;refine⟨b,off,rfl,?_⟩;simp only[World.cell?] at h;split at h;·rename_i hb;exact(aaa.1 hb).1
 ·cases h
def LU(c:YK):Prop:=(0<=c.m/\c.m<18446744073709551616)/\(0<=c.v/\c.v<18446744073709551616)
theorem Fy{fuel:Nat}{cs:List Value}{x:DataW H×List MemPlace}(h:DataW.trod enc prog w base spare held fuel 27 cs=some x):∃c:YK,cs=G3 c/\LU c:=by
 obtain⟨xs,n,_,_,hlen,J,I⟩:=DataW.trod_struct underlying27 h;have T:prog.cellsOf 27=4:=jK;have hi:prog.cellsOf 3=1:=jK;have hu:prog.cellsOf 23=1:=jK;rw[T] at hlen
 match cs,hlen with
 |[c0,c1,D,C],_=>
 match xs,J with
 |[x0,x1,x2,x3],_=>
 have g0:DataW.trod enc prog w base spare held n 3 [c0]=some x0:=by have A:DataW.trod enc prog w base spare held n 3 (([c0,c1,D,C].drop 0).take (prog.cellsOf 3))=some x0:=I 0 _ rfl;rw[hi] at A;exact A
 have g1:DataW.trod enc prog w base spare held n 3 [c1]=some x1:=by have A:DataW.trod enc prog w base spare held n 3 (([c0,c1,D,C].drop 1).take (prog.cellsOf 3))=some x1:=I 1 _ rfl;rw[hi] at A;exact A
 have g2:DataW.trod enc prog w base spare held n 23 [D]=some x2:=by have A:DataW.trod enc prog w base spare held n 23 (([c0,c1,D,C].drop 2).take (prog.cellsOf 23))=some x2:=I 2 _ rfl;rw[hu] at A;exact A
 have g3:DataW.trod enc prog w base spare held n 23 [C]=some x3:=by have A:DataW.trod enc prog w base spare held n 23 (([c0,c1,D,C].drop 3).take (prog.cellsOf 23))=some x3:=I 3 _ rfl;rw[hu] at A;exact A
 obtain⟨a,ea,_,_⟩:=ane underlying3 g0;obtain⟨o,eo,_,_⟩:=ane underlying3 g1;obtain⟨m,Y,_,gm⟩:=ane underlying23 g2;obtain⟨v,ev,_,gv⟩:=ane underlying23 g3;simp only[List.cons.injEq,_root_.and_true] at ea eo Y ev;subst ea eo Y ev;have U:=bounds_u64 gm;have Z:=bounds_u64 gv;exact⟨⟨a,o,m,v⟩,rfl,⟨U.1,Int.lt_of_le_of_lt U.2 jD⟩,⟨Z.1,Int.lt_of_le_of_lt Z.2 jD⟩⟩
theorem I5{fuel:Nat}{cl:List Value}{x:DataW H×List MemPlace}(hf:DataW.trod enc prog w base spare held fuel 22 cl=some x):∃(cs:List YK) (ua:Option Addr) (uc:Nat),cl=[.slice ua cs.length uc]/\Xv w.heap.size w ua cs/\∀c∈cs,LU c:=by
 rcases open_slice underlying22 hf with⟨A,_⟩|⟨a,len,cap,m,n,D,Pl,A,_,hle,_,hm,_,hx⟩;·exact⟨[],none,0,A,λk c hk=>by simp at hk,λc hc=>by cases hc⟩
 ·have lH:len<=m:=by rw[hm];split<;>omega
  have Y:prog.cellsOf 27=4:=jK
  haveI:Inhabited YK:=⟨⟨0,0,0,0⟩⟩
  obtain⟨R,T⟩:=choose_lt (α:=YK) (p:=λi c=>LU c/\∀j u,(G3 c)[j]? =some u->w.cell? (a.add (i*4+j))=some u) (n:=len) (λi hi=>by obtain⟨cs',Z,h3⟩:=hx i jO;rw[Y] at Z;obtain⟨_,hl,hc⟩:=World.cells?_some Z;obtain⟨r,rfl,hb⟩:=Fy h3;refine⟨r,hb,λj u hu=> ?_⟩;have J:j<4:=(au.1 hu).1;have:=hc j J;rw[add_add] at this;exact this.trans hu)
  obtain⟨l,hl,I⟩:=Rf R len;refine⟨l,some a,cap,by rw[hl];exact A,λk c hk=> ?_,λx hx=> ?_⟩
  ·have C:k<len:=by rw[<-hl];exact(au.1 hk).1
   have A:=I k C;rw[hk] at A;obtain rfl:=ax A;have h0:=(T k C).2;have U:w.cell? a=some (.int .i64 (R 0).a):=by simpa [Addr.add] using (T 0 jO).2 0 _ rfl
   obtain⟨b,off,rfl,hb⟩:=GM U;have e:∀j u,(G3 (R k))[j]? =some u->w.cell? ⟨b,off+k*4+j,none⟩=some u:=λj u hu=>by have:=h0 j u hu;rw[Addr.add_lit,<-amd] at this;exact this
   exact⟨b,off,rfl,hb,e 0 _ rfl,e 1 _ rfl,e 2 _ rfl,e 3 _ rfl⟩
  ·obtain⟨j,J,rfl⟩:=agb.1 hx;have A:=I j jO;rw[aM J] at A;rw[ax A];exact(T j jO).1
structure Re where
 r:ZJ
 ua:Option Addr
 uc:Nat
instance:Inhabited Re:=⟨⟨⟨⟨#[]⟩,0,0,[]⟩,none,0⟩⟩
def Re.cells(o:Re):List Value:=[.string o.r.name,.int .i64 o.r.k,.int .i64 o.r.n,.slice o.ua o.r.conds.length o.uc]
theorem NI{fuel:Nat}{cs:List Value}{x:DataW H×List MemPlace}(h:DataW.trod enc prog w base spare held fuel 34 cs=some x):∃o:Re,cs=o.cells/\Xv w.heap.size w o.ua o.r.conds/\∀c∈o.r.conds,LU c:=by
 obtain⟨xs,n,_,_,hlen,T,hg⟩:=DataW.trod_struct underlying34 h;have hc4:prog.cellsOf 34=4:=jK;have hst:prog.cellsOf 9=1:=jK;have Y:prog.cellsOf 32=2:=jK;have lJ:prog.cellsOf 22=1:=jK;have hi:prog.cellsOf 3=1:=jK;rw[hc4] at hlen
 match cs,hlen with
 |[c0,c1,C,I],_=>
 match xs,T with
 |[x0,x1,x2],_=>
 have g0:DataW.trod enc prog w base spare held n 9 [c0]=some x0:=by have A:DataW.trod enc prog w base spare held n 9 (([c0,c1,C,I].drop 0).take (prog.cellsOf 9))=some x0:=hg 0 _ rfl;rw[hst] at A;exact A
 have g1:DataW.trod enc prog w base spare held n 32 [c1,C]=some x1:=by have A:DataW.trod enc prog w base spare held n 32 (([c0,c1,C,I].drop 1).take (prog.cellsOf 32))=some x1:=hg 1 _ rfl;rw[Y] at A;exact A
 have g2:DataW.trod enc prog w base spare held n 22 [I]=some x2:=by have A:DataW.trod enc prog w base spare held n 22 (([c0,c1,C,I].drop 3).take (prog.cellsOf 22))=some x2:=hg 2 _ rfl;rw[lJ] at A;exact A
 obtain⟨s,es,_,_⟩:=DataW.trod_string underlying9 g0;obtain⟨ys,n2,_,_,U,hyl,D⟩:=DataW.trod_struct underlying32 g1
 match ys,hyl with
 |[y0,y1],_=>
 have g3:DataW.trod enc prog w base spare held n2 3 [c1]=some y0:=by have A:DataW.trod enc prog w base spare held n2 3 (([c1,C].drop 0).take (prog.cellsOf 3))=some y0:=D 0 _ rfl;rw[hi] at A;exact A
 have g4:DataW.trod enc prog w base spare held n2 3 [C]=some y1:=by have A:DataW.trod enc prog w base spare held n2 3 (([c1,C].drop 1).take (prog.cellsOf 3))=some y1:=D 1 _ rfl;rw[hi] at A;exact A
 obtain⟨k,ek,_,_⟩:=ane underlying3 g3;obtain⟨m,em,_,_⟩:=ane underlying3 g4;obtain⟨cds,ua,uc,ec,J,Z⟩:=I5 g2;simp only[List.cons.injEq,_root_.and_true] at es ek em ec;subst es ek em ec;exact⟨⟨⟨s,k,m,cds⟩,ua,uc⟩,rfl,J,Z⟩
theorem I4{fuel:Nat}{cl:List Value}{x:DataW H×List MemPlace}(hf:DataW.trod enc prog w base spare held fuel 35 cl=some x):∃(rs:List ZJ) (v:Value),cl=[v]/\Yd w.heap.size w v rs/\∀r∈rs,∀c∈r.conds,LU c:=by
 rcases open_slice underlying35 hf with⟨A,_⟩|⟨a,len,cap,m,n,D,Pl,A,_,hle,_,hm,_,hx⟩;·exact⟨[],_,A,⟨none,0,rfl,λi r hr=>by simp at hr⟩,λr hr=>by cases hr⟩
 ·have lH:len<=m:=by rw[hm];split<;>omega
  have Z:prog.cellsOf 34=4:=jK;obtain⟨R,J⟩:=choose_lt (α:=Re) (p:=λi o=>(Xv w.heap.size w o.ua o.r.conds/\∀c∈o.r.conds,LU c)/\∀j u,o.cells[j]? =some u->w.cell? (a.add (i*4+j))=some u) (n:=len) (λi hi=>by obtain⟨cs',h2,h3⟩:=hx i jO;rw[Z] at h2;obtain⟨_,hl,hc⟩:=World.cells?_some h2;obtain⟨o,rfl,hb,Y⟩:=NI h3;refine⟨o,⟨hb,Y⟩,λj u hu=> ?_⟩;have T:j<4:=(au.1 hu).1;have:=hc j T;rw[add_add] at this;exact this.trans hu)
  obtain⟨l,hl,I⟩:=Rf (λi=>(R i).r) len;refine⟨l,_,A,⟨some a,cap,by rw[hl],λk r hk=> ?_⟩,λr hr=> ?_⟩
  ·have C:k<len:=by rw[<-hl];exact(au.1 hk).1
   have A:=I k C;rw[hk] at A;obtain rfl:=ax A;have h0:=(J k C).2;have U:w.cell? a=some (.string (R 0).r.name):=by simpa [Addr.add] using (J 0 jO).2 0 _ rfl
   obtain⟨b,off,rfl,hb⟩:=GM U;have e:∀j u,(R k).cells[j]? =some u->w.cell? ⟨b,off+k*4+j,none⟩=some u:=λj u hu=>by have:=h0 j u hu;rw[Addr.add_lit,<-amd] at this;exact this
   exact⟨b,off,(R k).ua,(R k).uc,rfl,hb,e 0 _ rfl,e 1 _ rfl,e 2 _ rfl,e 3 _ rfl,(J k C).1.1⟩
  ·obtain⟨j,T,rfl⟩:=agb.1 hr;have A:=I j jO;rw[aM T] at A;rw[ax A];exact(J j jO).1.2
end
open Go.Joins
section
variable {H:Type} {enc:TypeId×Value->H} {w:World} {base:Nat} {spare:Nat->Bool} {held:Bool}
theorem Cp{fuel:Nat}{cs:List Value}{x:DataW H×List MemPlace}(h:DataW.trod enc prog w base spare held fuel 37 cs=some x):∃(q:PSt) (vr:Value),cs=[.int .i64 q.k,.int .i64 q.n,.bool q.x,vr]/\Yd w.heap.size w vr q.rules/\∀r∈q.rules,∀c∈r.conds,LU c:=by
 obtain⟨xs,n,_,_,hlen,J,hg⟩:=DataW.trod_struct underlying37 h;have hc4:prog.cellsOf 37=4:=jK;have U:prog.cellsOf 32=2:=jK;have Z:prog.cellsOf 4=1:=jK;have cG:prog.cellsOf 35=1:=jK;have hi:prog.cellsOf 3=1:=jK;rw[hc4] at hlen
 match cs,hlen with
 |[c0,c1,I,D],_=>
 match xs,J with
 |[x0,x1,x2],_=>
 have g0:DataW.trod enc prog w base spare held n 32 [c0,c1]=some x0:=by have A:DataW.trod enc prog w base spare held n 32 (([c0,c1,I,D].drop 0).take (prog.cellsOf 32))=some x0:=hg 0 _ rfl;rw[U] at A;exact A
 have g1:DataW.trod enc prog w base spare held n 4 [I]=some x1:=by have A:DataW.trod enc prog w base spare held n 4 (([c0,c1,I,D].drop 2).take (prog.cellsOf 4))=some x1:=hg 1 _ rfl;rw[Z] at A;exact A
 have g2:DataW.trod enc prog w base spare held n 35 [D]=some x2:=by have A:DataW.trod enc prog w base spare held n 35 (([c0,c1,I,D].drop 3).take (prog.cellsOf 35))=some x2:=hg 2 _ rfl;rw[cG] at A;exact A
 obtain⟨ys,n2,_,_,T,hyl,C⟩:=DataW.trod_struct underlying32 g0
 match ys,hyl with
 |[y0,y1],_=>
 have g3:DataW.trod enc prog w base spare held n2 3 [c0]=some y0:=by have A:DataW.trod enc prog w base spare held n2 3 (([c0,c1].drop 0).take (prog.cellsOf 3))=some y0:=C 0 _ rfl;rw[hi] at A;exact A
 have g4:DataW.trod enc prog w base spare held n2 3 [c1]=some y1:=by have A:DataW.trod enc prog w base spare held n2 3 (([c0,c1].drop 1).take (prog.cellsOf 3))=some y1:=C 1 _ rfl;rw[hi] at A;exact A
 obtain⟨k,ek,_,_⟩:=ane underlying3 g3;obtain⟨m,em,_,_⟩:=ane underlying3 g4;obtain⟨b,eb,_⟩:=DataW.trod_bool underlying4 g1;obtain⟨rs,vr,ev,hri,Y⟩:=I4 g2;simp only[List.cons.injEq,_root_.and_true] at ek em eb ev;subst ek em eb ev;exact⟨⟨k,m,b,rs⟩,_,rfl,hri,Y⟩
theorem nE{r:Reach}{b0:Nat}{v:Value}{d:DataW H}{p:List MemPlace}(hv:Value.okWide prog w r b0 37 v)(h:DataW.Trod enc prog w base spare held 37 v d p):
 ∃(q:PSt) (C:Value),v=iG q.k q.n q.x C/\Yd w.heap.size w C q.rules/\∀r∈q.rules,∀c∈r.conds,LU c:=by
 obtain⟨cs,rfl,A⟩:=okWide_struct underlying37 hv;obtain⟨c0,c1,T,I,rfl⟩:=array4 (A.trans (show prog.cellsOf 37=4 from jK));obtain⟨fuel,hf⟩:=h;have hf:DataW.trod enc prog w base spare held fuel 37 [c0,c1,T,I]=some (d,p):=hf;obtain⟨q,C,e,D,J⟩:=Cp hf;simp only[List.cons.injEq,_root_.and_true] at e;obtain⟨rfl,rfl,rfl,rfl⟩:=e;exact⟨q,_,rfl,D,J⟩
end
end Go.Proofs.YtclgigmgbebhgaaGreatDoor.Z0
namespace Go.Proofs.YtclgigmgbebhgaaGreatDoor.Z0
open Go.Proofs.Tryz
open Go Go.Proofs Go.ChangeShapes Go.WideShapes Go.ChangeAt Go.RowKit Go.Deep Go.Joins
section
variable {H:Type} {enc:TypeId×Value->H} {w:World} {base:Nat} {spare:Nat->Bool} {held:Bool}
theorem zx{r:Reach}{b0:Nat}{v:Value}{d:DataW H}{p:List MemPlace}(hv:Value.okWide prog w r b0 34 v)(h:DataW.Trod enc prog w base spare held 34 v d p):
 ∃(nm:ByteArray) (k n:Int) (cs:List YK) (ua:Option Addr) (uc:Nat),v=.agg #[.string nm,.int .i64 k,.int .i64 n,.slice ua cs.length uc]/\Xv w.heap.size w ua cs/\∀c∈cs,Pv c:=by
 obtain⟨cs,rfl,A⟩:=okWide_struct underlying34 hv;obtain⟨c0,c1,D,C,rfl⟩:=array4 (A.trans (show prog.cellsOf 34=4 from jK));obtain⟨fuel,hf⟩:=h;have hf:DataW.trod enc prog w base spare held fuel 34 [c0,c1,D,C]=some (d,p):=hf;obtain⟨o,e,I,J⟩:=NI hf;obtain⟨⟨nm,k,n,cs⟩,ua,uc⟩:=o;have e:[c0,c1,D,C]=[.string nm,.int .i64 k,.int .i64 n,.slice ua cs.length uc]:=e;simp only[List.cons.injEq,_root_.and_true] at e;obtain⟨rfl,rfl,rfl,rfl⟩:=e;exact⟨nm,k,n,cs,ua,uc,rfl,I,J⟩
theorem I3{fuel:Nat}{v:Value}{x:DataW H×List MemPlace}(hf:DataW.trod enc prog w base spare held fuel 35 [v]=some x):∀a n c,v=.slice a n c->Cv a n c:=by
 rintro a n c rfl;rcases open_slice underlying35 hf with⟨A,_⟩|⟨I,len,cap,m,k,D,J,A,_,C,_⟩;·exact .inl (Value.slice.inj (List.cons.inj A).1)
 ·obtain⟨rfl,rfl,rfl⟩:=Value.slice.inj (List.cons.inj A).1;exact .inr ⟨I,rfl,C⟩
theorem ub{k n:Int}{b:Bool}{vr:Value}{d:DataW H}{p:List MemPlace}(h:DataW.Trod enc prog w base spare held 37 (iG k n b vr) d p):∀a n c,vr=.slice a n c->Cv a n c:=by
 obtain⟨fuel,hf⟩:=h;have hf:DataW.trod enc prog w base spare held fuel 37 [.int .i64 k,.int .i64 n,.bool b,vr]=some (d,p):=hf;obtain⟨xs,m,_,_,hlen,A,J⟩:=DataW.trod_struct underlying37 hf;have C:prog.cellsOf 35=1:=jK
 match xs,A with
 |[Y,U,I],_=>
 have T:DataW.trod enc prog w base spare held m 35 [vr]=some I:=by have D:DataW.trod enc prog w base spare held m 35 (([.int .i64 k,.int .i64 n,.bool b,vr].drop 3).take (prog.cellsOf 35))=some I:=J 2 _ rfl;rw[C] at D;exact D
 exact I3 T
end
end Go.Proofs.YtclgigmgbebhgaaGreatDoor.Z0
namespace Go.Proofs.YtclgigmgbebhgaaGreatDoor.Z4
open Go.Proofs.Tryz
open Go Go.Proofs Go.ChangeShapes Go.WideShapes Go.ChangeAt Go.RowKit Go.Deep
section
variable {H:Type} {enc:TypeId×Value->H} {w:World} {base:Nat} {spare:Nat->Bool} {held:Bool}
theorem Co{fuel:Nat}{cs:List Value}{x:DataW H×List MemPlace}(h:DataW.trod enc prog w base spare held fuel 65 cs=some x):∃r:Z2,cs=r.cells:=by
 obtain⟨xs,n,_,_,hlen,j7,hg⟩:=DataW.trod_struct underlying65 h;have fu:prog.cellsOf 65=8:=jK;have hc1:prog.cellsOf 9=1:=jK;have fw:prog.cellsOf 38=5:=jK;have C:prog.cellsOf 3=1:=jK;rw[fu] at hlen
 match cs,hlen with
 |[c0,c1,T,J,D,I,Z,U],_=>
 match xs,j7 with
 |[x0,x1,x2,x3],_=>
 have g0:DataW.trod enc prog w base spare held n 9 [c0]=some x0:=by have A:DataW.trod enc prog w base spare held n 9 (([c0,c1,T,J,D,I,Z,U].drop 0).take (prog.cellsOf 9))=some x0:=hg 0 _ rfl;rw[hc1] at A;exact A
 have g1:DataW.trod enc prog w base spare held n 38 [c1,T,J,D,I]=some x1:=by have A:DataW.trod enc prog w base spare held n 38 (([c0,c1,T,J,D,I,Z,U].drop 1).take (prog.cellsOf 38))=some x1:=hg 1 _ rfl;rw[fw] at A;exact A
 have g2:DataW.trod enc prog w base spare held n 3 [Z]=some x2:=by have A:DataW.trod enc prog w base spare held n 3 (([c0,c1,T,J,D,I,Z,U].drop 6).take (prog.cellsOf 3))=some x2:=hg 2 _ rfl;rw[C] at A;exact A
 have g3:DataW.trod enc prog w base spare held n 3 [U]=some x3:=by have A:DataW.trod enc prog w base spare held n 3 (([c0,c1,T,J,D,I,Z,U].drop 7).take (prog.cellsOf 3))=some x3:=hg 3 _ rfl;rw[C] at A;exact A
 obtain⟨s0,e0,_,_⟩:=DataW.trod_string underlying9 g0;obtain⟨n6,e6,_,_⟩:=ane underlying3 g2;obtain⟨n7,e7,_,_⟩:=ane underlying3 g3;obtain⟨ys,m,_,_,hyl,hyx,hi⟩:=DataW.trod_array underlying38 g1;obtain⟨zs,hz,Y,_⟩:=I6 (cs:=[c1,T,J,D,I]) underlying3 rfl hyx (λi hlt=>by simpa [C] using hi i hlt)
 match zs,hz with
 |[z0,z1,z2,z3,z4],_=>
 simp only[aec,apb,List.cons.injEq,and_true] at Y e0 e6 e7;obtain⟨rfl,rfl,rfl,rfl,rfl⟩:=Y;subst e0 e6 e7;exact⟨⟨s0,z0,z1,z2,z3,z4,n6,n7⟩,rfl⟩
theorem I2{P:Program}{r:Reach}{b0:Nat}{t e:TypeId}{cs:Array Value}(ht:P.underlying t=some (.slice e)):¬Value.okWide P w r b0 t (.agg cs):=by
 intro h;simp only[Value.okWide,ht] at h;simp[Cell.okWide,Cell.ok,ht] at h
theorem I1{α:Type}[Inhabited α](R:Nat->α)(n:Nat):∃l:List α,l.length=n/\∀j,j<n->l[j]! =R j:=
 ⟨(List.range n).map R,jS,λj A=>by simp[A]⟩
theorem tZ{v:Value}{d:DataW H}{p:List MemPlace}(h:DataW.Trod enc prog w base spare held 61 v d p)(hn:∀cs,v≠.agg cs):∃l:List Z2,X2 w v l:=by
 obtain⟨fuel,hf⟩:=h;have hv:v.cells.toList=[v]:=by cases v<;>first|rfl|exact absurd rfl (hn _)
 rw[hv] at hf;rcases open_slice underlying61 hf with⟨I,_⟩|⟨a,len,cap,m,n,D,Pl,I,_,hle,_,hm,_,hx⟩
 ·obtain rfl:v=.slice none 0 0:=by simpa using I
  exact⟨[],none,0,rfl,.inl rfl⟩
 ·obtain rfl:v=.slice (some a) len cap:=by simpa using I
  have lH:len<=m:=by rw[hm];split<;>omega
  have T:prog.cellsOf 65=8:=jK;obtain⟨R,U⟩:=choose_lt (α:=Z2) (p:=λi r=>∀j u,r.cells[j]? =some u->w.cell? (a.add (i*8+j))=some u) (n:=len) (λi hi=>by obtain⟨cs',Y,h3⟩:=hx i jO;rw[T] at Y;obtain⟨_,hl,hc⟩:=World.cells?_some Y;obtain⟨r,rfl⟩:=Co h3;refine⟨r,λj u hu=> ?_⟩;have C:j<8:=(au.1 hu).1;have:=hc j C;rw[add_add] at this;exact this.trans hu)
  obtain⟨l,hl,J⟩:=I1 R len;refine⟨l,some a,cap,by rw[hl],?_⟩;by_cases Z:len=0
  ·left
   exact akc (by rw[hl,Z])
  ·right
   obtain⟨b,off,spot⟩:=a;have A:=U 0 jO 0 _ rfl;have hs:spot=none:=by
    cases spot with
    |none=>rfl
    |some q=>
     simp only[World.cell?,Addr.add] at A;split at A<;>simp at A
   subst hs;refine⟨b,off,rfl,?_,λj C i u hu=> ?_⟩
   ·simp only[World.cell?,Addr.add] at A;split at A;·rename_i hb;exact(aaa.1 hb).1
    ·cases A
   ·rw[hl] at C;rw[J j C] at hu;have:=U j C i u hu;rw[Addr.add_lit,<-amd] at this;exact this
end
end Go.Proofs.YtclgigmgbebhgaaGreatDoor.Z4
namespace Go.Proofs.YtclgigmgbebhgaaGreatDoor
open Go.Proofs.Tryz
open Go Go.Proofs Go.ChangeShapes Go.WideShapes Go.ChangeAt Go.RowKit
theorem nD{C:Checked}{f:FuncId}{fn:Func}{s:ChangeSpec}{os:Os}{H:Type}{enc:TypeId×Value->H}{tb:TypeId}{F:Stop.Interp}{laid:List (String×DataW Unit)}
 (own:ownKnob C.prog.godebug=none) (started:os.Started) (J:C.prog.inits.idxOf? f=none) (hfn:C.prog.funcs[f]? =some fn)
 (witness:∃(w:World) (tape:Tape) (i:Input),w.os=os/\(w.forCall tape i).Shaped C.prog/\i.vars=[]/\Input.okWide C.prog (w.forCall tape i) .any w.heap.size f i/\
   (OpenSpec.ofChange s).preRow enc C.prog fn [] false laid (w.forCall tape i).memory i.args/\({}:Assume).holds C.prog (lone (Frame.enter C.prog f i.args .normal) [] (w.forCall tape i)))
 (A:s.vars=[]) (hpv:s.plain.varTypes C.prog=[]) (hl:laidOutB C.prog=true) (U:∀t∈fn.params.toList,C.prog.readableRec t=true/\t<C.prog.types.size)
 (hs:∀ds:List (DataW H),ds.length=fn.params.toList.length->s.fn H (ds++[])={results:=[.lit (.bool true)],args:=ds})
 (hres:fn.resultTypes=#[tb]) (hb:C.prog.underlying tb=some .bool)
 (walk:∀(W:World) (base:Nat) (args:Array Value) (ds:List (DataW H)) (p:List MemPlace),
   (∀(j:Nat) t v,fn.params[j]? =some t->args[j]? =some v->Value.okWide C.prog W .any base t v)->
   DataW.TrodAll enc C.prog W 0 (λ_=>true) true fn.params.toList args.toList ds p->(∀x∈p,x.block<W.heap.size)->
   (DataW.weightsEach C.prog fn.params.toList ds).all (·<=reachBytes)=true->laidMetH C.prog laid W->W.ShapedOpen C.prog->
   Calls C.prog f args W λe W'=>e=.returned (.bool true)/\Below W.heap.size W W'):
 ReturnsInHanded {} C os f .any ((OpenSpec.ofChange s).preRow enc C.prog fn [] false laid) (((OpenSpec.ofChange s).at F).post enc C.prog fn false true false false):=by
 refine returnsInHanded_of_row (s:=OpenSpec.ofChange s) own started J hfn witness ?_;intro W base args ds gs before hval hW _ _ hsz Z I _;have T:=hW;obtain⟨p,q,hA,hV,rfl,_,_⟩:=hW;have D:(OpenSpec.ofChange s).vars=[]:=A;rw[D] at hV;obtain⟨rfl,rfl⟩:=trodVars_none hV;have aE8:(OpenSpec.ofChange s).bare.plain.varTypes C.prog=[]:=hpv;simp only[ade,aE8] at T hsz;have hlt:∀x∈p,x.block<W.heap.size:=λx hx=>by simpa using T.lt x hx
 refine(walk W base args ds p hval hA hlt hsz Z I).mono λe W' ⟨he,hB⟩=> ?_
 subst he;have Y:=hs ds (LV hA);show ∃v,_/\s.post enc C.prog fn false true false false W args v W';refine⟨_,rfl,ds,[],p,[],p,[],T,?_,?_,?_,hB.frame _,λh=>by cases h⟩;·rw[Y,hres];exact trodAll_mk1 (shut_bool hb _)
 ·rw[Y];exact Pt hl hB U hA hlt
 ·rw[Y,A];rfl
end Go.Proofs.YtclgigmgbebhgaaGreatDoor
