/- TopAsks: part 44: Lift Open LiftC TopOpen. -/
import Derived.Test.YtclgigmgbebhgaaGreatDoorRows
import Derived.ProofKit
import Derived.OpenShut
import Derived.SizedLaws
import Derived.Test.YtclgigmgbebhgaaGreatDoorCards
import Derived.Test.YtclgigmgbebhgaaGreatDoorTie
import Derived.Deep.DeepHandedRow
import Derived.Lib.LaidTab
import Derived.Deep.Slices
import Derived.Deep.Strs
import Derived.Test.YtclgigmgbebhgaaGreatDoorA40
set_option linter.unusedVariables false
set_option linter.unusedSimpArgs false
set_option maxRecDepth 100000
set_option maxHeartbeats 16000000
namespace Go.Proofs.YtclgigmgbebhgaaGreatDoor
open Go.Proofs.Tryz
open Go Go.Proofs Go.ChangeShapes Go.WideShapes Go.ChangeAt Go.RowKit
theorem Pt{H:Type}{enc:TypeId×Value->H}{P:Program}(hl:laidOutB P=true){W W':World}(hb:Below W.heap.size W W'):
 ∀{ts:List TypeId} {vs:List Value} {ds:List (DataW H)} {ps:List MemPlace},(∀t∈ts,P.readableRec t=true/\t<P.types.size)->
  DataW.TrodAll enc P W 0 (λ_=>true) true ts vs ds ps->(∀x∈ps,x.block<W.heap.size)->
  DataW.TrodAll enc P W' 0 (λb=>decide (b<W.heap.size)) true ts vs ds ps
 |[],[],[],_,_,h,_=>h
 |t::ts,v::vs,d::ds,_,hr,⟨p,q,h1,h2,e⟩,hlt=>by subst e;exact⟨p,q,Below.trod hl (hr t jS).1 (hr t jS).2 h1 hb (λx hx=>hlt x (by simp[hx])),Pt hl hb (λu hu=>hr u (by simp[hu])) h2 (λx hx=>hlt x (by simp[hx])),rfl⟩
 |[],[],_::_,_,_,h,_=>h.elim
 |[],_::_,_,_,_,h,_=>by cases ‹List (DataW H)›<;>exact h.elim
 |_::_,[],_,_,_,h,_=>by cases ‹List (DataW H)›<;>exact h.elim
 |_::_,_::_,[],_,_,h,_=>h.elim
theorem Ma{H:Type}{enc:TypeId×Value->H}{P:Program}{W:World}{b:Nat}{sp:Nat->Bool}{hd:Bool}:
 ∀{ts:List TypeId} {vs:List Value} {ds:List (DataW H)} {ps:List MemPlace},DataW.TrodAll enc P W b sp hd ts vs ds ps->ds.length=ts.length
 |[],[],[],_,_=>rfl
 |_::_,_::_,_::_,_,⟨_,_,_,h2,_⟩=>by simp[Ma h2]
 |[],[],_::_,_,h=>h.elim
 |[],_::_,_,_,h=>by cases ‹List (DataW H)›<;>exact h.elim
 |_::_,[],_,_,h=>by cases ‹List (DataW H)›<;>exact h.elim
 |_::_,_::_,[],_,h=>h.elim
section
variable {H:Type} {enc:TypeId×Value->H} {P:Program} {w:World} {base:Nat} {spare:Nat->Bool} {held:Bool}
theorem Jo{n m:Nat}{e:TypeId}{k:IntKind}{cs:List Value}{xs:List (DataW H×List MemPlace)}(I:P.underlying e=some (.int k))(hl:cs.length=n)(hx:xs.length=n)
 (h:∀i,i<n->DataW.trod enc P w base spare held m e ((cs.drop i).take 1)=xs[i]?):∃A:List Int,A.length=n/\cs=A.map (Value.int k)/\∀z∈A,(Lit.int k z).wf=true:=by
 induction n generalizing cs xs with
 |zero=>exact⟨[],rfl,by simpa using hl,jS⟩
 |succ n J=>
  cases cs with
  |nil=>simp at hl
  |cons c cs=>
   cases xs with
   |nil=>simp at hx
   |cons x xs=>
    have C:=h 0 jO;simp only[aud,List.take_succ_cons,List.take_zero,aL] at C;obtain⟨z,e0,_,D⟩:=azg I C;obtain⟨A,hz,hc,hw⟩:=J (cs:=cs) (xs:=xs) (by simpa using hl) (by simpa using hx) (λi hi=>by simpa using h (i+1) jO);refine⟨z::A,by simp[hz],?_,?_⟩;·simp only[List.cons.injEq,and_true] at e0;rw[e0,hc];rfl
    ·intro y hy;rcases abf.1 hy with rfl|hy;·exact D
     ·exact hw y hy
theorem JX{n:Nat}{t e:TypeId}{k:IntKind}{v:Value}{d:DataW H}{p:List MemPlace}{r:Reach}{b0:Nat}(ht:P.underlying t=some (.array n e))(U:P.underlying e=some (.int k))(hc:P.cellsOf e=1)(J:P.cellsOf t=n)
 (hv:Value.okWide P w r b0 t v) (h:DataW.Trod enc P w base spare held t v d p):∃A:List Int,A.length=n/\v=.agg (A.map (Value.int k)).toArray/\∀z∈A,(Lit.int k z).wf=true:=by
 simp only[Value.okWide,ht] at hv;obtain⟨cs,rfl,T,_⟩:=hv;obtain⟨fuel,hf⟩:=h;obtain⟨xs,m,_,_,hlen,D,hi⟩:=DataW.trod_array ht hf;have hcs:(Value.agg cs).cells=cs:=rfl;rw[hcs] at hlen hi;obtain⟨A,hz,I,hw⟩:=Jo (cs:=cs.toList) U (by rw[hlen,J]) D (λi C=>by simpa [hc] using hi i C);exact⟨A,hz,by rw[<-I],hw⟩
end
theorem nJ{C:Checked}{f:FuncId}{fn:Func}{s:ChangeSpec}{os:Os}{H:Type}{enc:TypeId×Value->H}{tb:TypeId}{F:Stop.Interp}{laid:List (String×DataW Unit)}
 (own:ownKnob C.prog.godebug=none) (started:os.Started) (D:C.prog.inits.idxOf? f=none) (hfn:C.prog.funcs[f]? =some fn)
 (witness:∃(w:World) (tape:Tape) (i:Input),w.os=os/\(w.forCall tape i).Shaped C.prog/\i.vars=[]/\Input.okWide C.prog (w.forCall tape i) .any w.heap.size f i/\
   (OpenSpec.ofChange s).preRow enc C.prog fn [] false laid (w.forCall tape i).memory i.args/\({}:Assume).holds C.prog (lone (Frame.enter C.prog f i.args .normal) [] (w.forCall tape i)))
 (A:s.vars=[]) (hpv:s.plain.varTypes C.prog=[]) (hl:laidOutB C.prog=true) (Y:∀t∈fn.params.toList,C.prog.readableRec t=true/\t<C.prog.types.size)
 (hs:∀ds:List (DataW H),ds.length=fn.params.toList.length->s.fn H (ds++[])={results:=[.lit (.bool true)],args:=ds})
 (hres:fn.resultTypes=#[tb]) (hb:C.prog.underlying tb=some .bool)
 (walk:∀(W:World) (base:Nat) (args:Array Value) (ds:List (DataW H)) (p:List MemPlace),
   (∀(j:Nat) t v,fn.params[j]? =some t->args[j]? =some v->Value.okWide C.prog W .any base t v)->
   DataW.TrodAll enc C.prog W 0 (λ_=>true) true fn.params.toList args.toList ds p->(∀x∈p,x.block<W.heap.size)->
   (DataW.weightsEach C.prog fn.params.toList ds).all (·<=reachBytes)=true->laidMetH C.prog laid W->W.ShapedOpen C.prog->
   Calls C.prog f args W λe W'=>e=.returned (.bool true)/\Below W.heap.size W W'):
 ReturnsInHanded {} C os f .any ((OpenSpec.ofChange s).preRow enc C.prog fn [] false laid) (((OpenSpec.ofChange s).at F).post enc C.prog fn false true false false):=by
 refine returnsInHanded_of_row (s:=OpenSpec.ofChange s) own started D hfn witness ?_;intro W base args ds gs before hval hW _ _ hsz U J _;have T:=hW;obtain⟨p,q,hA,hV,rfl,_,_⟩:=hW;have I:(OpenSpec.ofChange s).vars=[]:=A;rw[I] at hV;obtain⟨rfl,rfl⟩:=trodVars_none hV;have aA2:(OpenSpec.ofChange s).bare.plain.varTypes C.prog=[]:=hpv;simp only[ade,aA2] at T hsz;have hlt:∀x∈p,x.block<W.heap.size:=λx hx=>by simpa using T.lt x hx
 refine(walk W base args ds p hval hA hlt hsz U J).mono λe W' ⟨he,hB⟩=> ?_
 subst he;have Z:=hs ds (Ma hA);show ∃v,_/\s.post enc C.prog fn false true false false W args v W';refine⟨_,rfl,ds,[],p,[],p,[],T,?_,?_,?_,hB.frame _,λh=>by cases h⟩;·rw[Z,hres];exact trodAll_mk1 (shut_bool hb _)
 ·rw[Z];exact Pt hl hB Y hA hlt
 ·rw[Z,A];rfl
end Go.Proofs.YtclgigmgbebhgaaGreatDoor
namespace Go.Proofs.YtclgigmgbebhgaaGreatDoor.ZJ
open Go.Proofs.Tryz
open Go Go.Proofs Go.ChangeShapes Go.WideShapes Go.ChangeAt Go.RowKit Go.Deep
section
variable {H:Type} {enc:TypeId×Value->H} {w:World} {base:Nat} {spare:Nat->Bool} {held:Bool}
theorem JW{α:Type}(R:Nat->α)(n:Nat):∃l:List α,l.length=n/\∀j,j<n->l[j]? =some (R j):=
 ⟨(List.range n).map R,jS,λj A=>by simp[A]⟩
theorem uA{a:Addr}{v:Value}(h:w.cell? a=some v):∃b off,a=⟨b,off,none⟩/\b<w.heap.size:=by
 obtain⟨b,off,spot⟩:=a;have hs:spot=none:=by
  cases spot with
  |none=>rfl
  |some q=>
   simp only[World.cell?] at h;split at h<;>simp at h
 subst hs;refine⟨b,off,rfl,?_⟩;simp only[World.cell?] at h;split at h;·rename_i hb;exact(aab.1 hb).1
 ·cases h
def nI(c:Y4):Prop:=(0<=c.m/\c.m<18446744073709551616)/\(0<=c.v/\c.v<18446744073709551616)
theorem F2{fuel:Nat}{cs:List Value}{x:DataW H×List MemPlace}(h:DataW.trod enc prog w base spare held fuel 27 cs=some x):∃c:Y4,cs=Ic c/\nI c:=by
 obtain⟨xs,n,_,_,hlen,J,I⟩:=DataW.trod_struct underlying27 h;have T:prog.cellsOf 27=4:=jK;have hi:prog.cellsOf 3=1:=jK;have hu:prog.cellsOf 23=1:=jK;rw[T] at hlen
 match cs,hlen with
 |[c0,c1,D,C],_=>
 match xs,J with
 |[x0,x1,U,x3],_=>
 have g0:DataW.trod enc prog w base spare held n 3 [c0]=some x0:=by have A:DataW.trod enc prog w base spare held n 3 (([c0,c1,D,C].drop 0).take (prog.cellsOf 3))=some x0:=I 0 _ rfl;rw[hi] at A;exact A
 have g1:DataW.trod enc prog w base spare held n 3 [c1]=some x1:=by have A:DataW.trod enc prog w base spare held n 3 (([c0,c1,D,C].drop 1).take (prog.cellsOf 3))=some x1:=I 1 _ rfl;rw[hi] at A;exact A
 have g2:DataW.trod enc prog w base spare held n 23 [D]=some U:=by have A:DataW.trod enc prog w base spare held n 23 (([c0,c1,D,C].drop 2).take (prog.cellsOf 23))=some U:=I 2 _ rfl;rw[hu] at A;exact A
 have g3:DataW.trod enc prog w base spare held n 23 [C]=some x3:=by have A:DataW.trod enc prog w base spare held n 23 (([c0,c1,D,C].drop 3).take (prog.cellsOf 23))=some x3:=I 3 _ rfl;rw[hu] at A;exact A
 obtain⟨a,ea,_,_⟩:=azg underlying3 g0;obtain⟨o,Z,_,_⟩:=azg underlying3 g1;obtain⟨m,em,_,gm⟩:=azg underlying23 g2;obtain⟨v,ev,_,gv⟩:=azg underlying23 g3;simp only[List.cons.injEq,_root_.and_true] at ea Z em ev;subst ea Z em ev;have Y:=bounds_u64 gm;have bv:=bounds_u64 gv;exact⟨⟨a,o,m,v⟩,rfl,⟨Y.1,Int.lt_of_le_of_lt Y.2 jD⟩,⟨bv.1,Int.lt_of_le_of_lt bv.2 jD⟩⟩
theorem Jn{fuel:Nat}{cl:List Value}{x:DataW H×List MemPlace}(hf:DataW.trod enc prog w base spare held fuel 22 cl=some x):∃(cs:List Y4) (ua:Option Addr) (uc:Nat),cl=[.slice ua cs.length uc]/\Up w.heap.size w ua cs/\∀c∈cs,nI c:=by
 rcases open_slice underlying22 hf with⟨A,_⟩|⟨a,len,cap,m,n,D,Pl,A,_,hle,_,hm,_,hx⟩;·exact⟨[],none,0,A,λk c hk=>by simp at hk,λc hc=>by cases hc⟩
 ·have dH:len<=m:=by rw[hm];split<;>omega
  have J:prog.cellsOf 27=4:=jK
  haveI:Inhabited Y4:=⟨⟨0,0,0,0⟩⟩
  obtain⟨R,T⟩:=choose_lt (α:=Y4) (p:=λi c=>nI c/\∀j u,(Ic c)[j]? =some u->w.cell? (a.add (i*4+j))=some u) (n:=len) (λi hi=>by obtain⟨cs',Z,h3⟩:=hx i jO;rw[J] at Z;obtain⟨_,hl,hc⟩:=World.cells?_some Z;obtain⟨r,rfl,hb⟩:=F2 h3;refine⟨r,hb,λj u hu=> ?_⟩;have U:j<4:=(aq.1 hu).1;have:=hc j U;rw[add_add] at this;exact this.trans hu)
  obtain⟨l,hl,C⟩:=JW R len;refine⟨l,some a,cap,by rw[hl];exact A,λk c hk=> ?_,λx hx=> ?_⟩
  ·have I:k<len:=by rw[<-hl];exact(aq.1 hk).1
   have A:=C k I;rw[hk] at A;obtain rfl:=au A;have h0:=(T k I).2;have Y:w.cell? a=some (.int .i64 (R 0).a):=by simpa [Addr.add] using (T 0 jO).2 0 _ rfl
   obtain⟨b,off,rfl,hb⟩:=uA Y;have e:∀j u,(Ic (R k))[j]? =some u->w.cell? ⟨b,off+k*4+j,none⟩=some u:=λj u hu=>by have:=h0 j u hu;rw[Addr.add_lit,<-aya] at this;exact this
   exact⟨b,off,rfl,hb,e 0 _ rfl,e 1 _ rfl,e 2 _ rfl,e 3 _ rfl⟩
  ·obtain⟨j,U,rfl⟩:=ahd.1 hx;have A:=C j jO;rw[aM U] at A;rw[au A];exact(T j jO).1
structure nH where
 r:YR
 ua:Option Addr
 uc:Nat
instance:Inhabited nH:=⟨⟨⟨⟨#[]⟩,0,0,[]⟩,none,0⟩⟩
end
open Go.Joins
section
variable {H:Type} {enc:TypeId×Value->H} {w:World} {base:Nat} {spare:Nat->Bool} {held:Bool}
theorem JV{P:Program}{r:Reach}{b0:Nat}{t e:TypeId}{cs:Array Value}(ht:P.underlying t=some (.slice e)):¬Value.okWide P w r b0 t (.agg cs):=by
 intro h;simp only[Value.okWide,ht] at h;simp[Cell.okWide,Cell.ok,ht] at h
theorem CW{r:Reach}{b0:Nat}{v:Value}{d:DataW H}{p:List MemPlace}(hv:Value.okWide prog w r b0 22 v)(h:DataW.Trod enc prog w base spare held 22 v d p):∃(cs:List Y4) (ua:Option Addr) (uc:Nat),v=.slice ua cs.length uc/\Up w.heap.size w ua cs/\∀c∈cs,NY c:=by
 have hn:∀cs,v≠.agg cs:=by rintro cs rfl;exact JV underlying22 hv
 obtain⟨fuel,hf⟩:=h;have hc:v.cells.toList=[v]:=by cases v<;>first|rfl|exact absurd rfl (hn _)
 rw[hc] at hf;obtain⟨cs,ua,uc,e,C,A⟩:=Jn hf;exact⟨cs,ua,uc,by simpa using e,C,A⟩
end
end Go.Proofs.YtclgigmgbebhgaaGreatDoor.ZJ
