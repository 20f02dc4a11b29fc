/- TopFirst: part 44: Lift Open TopOpen PolApp TopOpen2 LiftC. -/
import Derived.Test.YtclgigmgbebhgaaGreatDoorRows
import Derived.ProofKit
import Derived.OpenShut
import Derived.SizedLaws
import Derived.Deep.Slices
import Derived.Deep.Strs
import Derived.Test.YtclgigmgbebhgaaGreatDoorCards
import Derived.Test.YtclgigmgbebhgaaGreatDoorTie
import Derived.Deep.DeepHandedRow
import Derived.Lib.LaidTab
import Derived.Test.YtclgigmgbebhgaaGreatDoorF40
set_option linter.unusedVariables false
set_option linter.unusedSimpArgs false
set_option maxRecDepth 100000
set_option maxHeartbeats 16000000
namespace Go.Proofs.YtclgigmgbebhgaaGreatDoor
open Go.Proofs.Tryz
open Go Go.Proofs Go.ChangeShapes Go.WideShapes Go.ChangeAt Go.RowKit
theorem Pe{H:Type}{enc:TypeId×Value->H}{P:Program}(hl:laidOutB P=true){W W':World}(hb:Below W.heap.size W W'):
 ∀{ts:List TypeId} {vs:List Value} {ds:List (DataW H)} {ps:List MemPlace},(∀t∈ts,P.readableRec t=true/\t<P.types.size)->
  DataW.TrodAll enc P W 0 (λ_=>true) true ts vs ds ps->(∀x∈ps,x.block<W.heap.size)->
  DataW.TrodAll enc P W' 0 (λb=>decide (b<W.heap.size)) true ts vs ds ps
 |[],[],[],_,_,h,_=>h
 |t::ts,v::vs,d::ds,_,hr,⟨p,q,h1,h2,e⟩,hlt=>by subst e;exact⟨p,q,Below.trod hl (hr t jS).1 (hr t jS).2 h1 hb (λx hx=>hlt x (by simp[hx])),Pe hl hb (λu hu=>hr u (by simp[hu])) h2 (λx hx=>hlt x (by simp[hx])),rfl⟩
 |[],[],_::_,_,_,h,_=>h.elim
 |[],_::_,_,_,_,h,_=>by cases ‹List (DataW H)›<;>exact h.elim
 |_::_,[],_,_,_,h,_=>by cases ‹List (DataW H)›<;>exact h.elim
 |_::_,_::_,[],_,_,h,_=>h.elim
theorem LH{H:Type}{enc:TypeId×Value->H}{P:Program}{W:World}{b:Nat}{sp:Nat->Bool}{hd:Bool}:
 ∀{ts:List TypeId} {vs:List Value} {ds:List (DataW H)} {ps:List MemPlace},DataW.TrodAll enc P W b sp hd ts vs ds ps->ds.length=ts.length
 |[],[],[],_,_=>rfl
 |_::_,_::_,_::_,_,⟨_,_,_,h2,_⟩=>by simp[LH h2]
 |[],[],_::_,_,h=>h.elim
 |[],_::_,_,_,h=>by cases ‹List (DataW H)›<;>exact h.elim
 |_::_,[],_,_,h=>by cases ‹List (DataW H)›<;>exact h.elim
 |_::_,_::_,[],_,h=>h.elim
section
variable {H:Type} {enc:TypeId×Value->H} {P:Program} {w:World} {base:Nat} {spare:Nat->Bool} {held:Bool}
theorem IP{n m:Nat}{e:TypeId}{k:IntKind}{cs:List Value}{xs:List (DataW H×List MemPlace)}(J:P.underlying e=some (.int k))(hl:cs.length=n)(hx:xs.length=n)
 (h:∀i,i<n->DataW.trod enc P w base spare held m e ((cs.drop i).take 1)=xs[i]?):∃C:List Int,C.length=n/\cs=C.map (Value.int k)/\∀z∈C,(Lit.int k z).wf=true:=by
 induction n generalizing cs xs with
 |zero=>exact⟨[],rfl,by simpa using hl,jS⟩
 |succ n I=>
  cases cs with
  |nil=>simp at hl
  |cons c cs=>
   cases xs with
   |nil=>simp at hx
   |cons x xs=>
    have D:=h 0 jO;simp only[auf,List.take_succ_cons,List.take_zero,aM] at D;obtain⟨z,e0,_,T⟩:=azf J D;obtain⟨C,hz,hc,hw⟩:=I (cs:=cs) (xs:=xs) (by simpa using hl) (by simpa using hx) (λi hi=>by simpa using h (i+1) jO);refine⟨z::C,by simp[hz],?_,?_⟩;·simp only[List.cons.injEq,and_true] at e0;rw[e0,hc];rfl
    ·intro y hy;rcases abb.1 hy with rfl|hy;·exact T
     ·exact hw y hy
theorem Jo{n:Nat}{t e:TypeId}{k:IntKind}{v:Value}{d:DataW H}{p:List MemPlace}{r:Reach}{b0:Nat}(ht:P.underlying t=some (.array n e))(U:P.underlying e=some (.int k))(hc:P.cellsOf e=1)(D:P.cellsOf t=n)
 (hv:Value.okWide P w r b0 t v) (h:DataW.Trod enc P w base spare held t v d p):∃C:List Int,C.length=n/\v=.agg (C.map (Value.int k)).toArray/\∀z∈C,(Lit.int k z).wf=true:=by
 simp only[Value.okWide,ht] at hv;obtain⟨cs,rfl,Y,_⟩:=hv;obtain⟨fuel,hf⟩:=h;obtain⟨xs,m,_,_,hlen,T,hi⟩:=DataW.trod_array ht hf;have hcs:(Value.agg cs).cells=cs:=rfl;rw[hcs] at hlen hi;obtain⟨C,hz,J,hw⟩:=IP (cs:=cs.toList) U (by rw[hlen,D]) T (λi I=>by simpa [hc] using hi i I);exact⟨C,hz,by rw[<-J],hw⟩
end
end Go.Proofs.YtclgigmgbebhgaaGreatDoor
namespace Go.Proofs.YtclgigmgbebhgaaGreatDoor.ZX
open Go.Proofs.Tryz
open Go Go.Proofs Go.ChangeShapes Go.WideShapes Go.ChangeAt Go.RowKit Go.Deep
section
variable {H:Type} {enc:TypeId×Value->H} {w:World} {base:Nat} {spare:Nat->Bool} {held:Bool}
def ar4(c:YO):Prop:=(0<=c.m/\c.m<18446744073709551616)/\(0<=c.v/\c.v<18446744073709551616)
theorem Fs{fuel:Nat}{cs:List Value}{x:DataW H×List MemPlace}(h:DataW.trod enc prog w base spare held fuel 27 cs=some x):∃c:YO,cs=xX c/\ar4 c:=by
 obtain⟨xs,n,_,_,hlen,U,J⟩:=DataW.trod_struct underlying27 h;have T:prog.cellsOf 27=4:=jK;have hi:prog.cellsOf 3=1:=jK;have hu:prog.cellsOf 23=1:=jK;rw[T] at hlen
 match cs,hlen with
 |[c0,c1,I,D],_=>
 match xs,U with
 |[x0,x1,Y,Z],_=>
 have g0:DataW.trod enc prog w base spare held n 3 [c0]=some x0:=by have C:DataW.trod enc prog w base spare held n 3 (([c0,c1,I,D].drop 0).take (prog.cellsOf 3))=some x0:=J 0 _ rfl;rw[hi] at C;exact C
 have g1:DataW.trod enc prog w base spare held n 3 [c1]=some x1:=by have C:DataW.trod enc prog w base spare held n 3 (([c0,c1,I,D].drop 1).take (prog.cellsOf 3))=some x1:=J 1 _ rfl;rw[hi] at C;exact C
 have g2:DataW.trod enc prog w base spare held n 23 [I]=some Y:=by have C:DataW.trod enc prog w base spare held n 23 (([c0,c1,I,D].drop 2).take (prog.cellsOf 23))=some Y:=J 2 _ rfl;rw[hu] at C;exact C
 have g3:DataW.trod enc prog w base spare held n 23 [D]=some Z:=by have C:DataW.trod enc prog w base spare held n 23 (([c0,c1,I,D].drop 3).take (prog.cellsOf 23))=some Z:=J 3 _ rfl;rw[hu] at C;exact C
 obtain⟨a,ea,_,_⟩:=azf underlying3 g0;obtain⟨o,eo,_,_⟩:=azf underlying3 g1;obtain⟨m,em,_,gm⟩:=azf underlying23 g2;obtain⟨v,ev,_,gv⟩:=azf underlying23 g3;simp only[List.cons.injEq,_root_.and_true] at ea eo em ev;subst ea eo em ev;have bm:=bounds_u64 gm;have bv:=bounds_u64 gv;exact⟨⟨a,o,m,v⟩,rfl,⟨bm.1,Int.lt_of_le_of_lt bm.2 jD⟩,⟨bv.1,Int.lt_of_le_of_lt bv.2 jD⟩⟩
structure nH where
 r:Zo
 ua:Option Addr
 uc:Nat
instance:Inhabited nH:=⟨⟨⟨⟨#[]⟩,0,0,[]⟩,none,0⟩⟩
end
open Go.Joins
section
variable {H:Type} {enc:TypeId×Value->H} {w:World} {base:Nat} {spare:Nat->Bool} {held:Bool}
end
end Go.Proofs.YtclgigmgbebhgaaGreatDoor.ZX
namespace Go.Proofs.YtclgigmgbebhgaaGreatDoor.ZX
open Go.Proofs.Tryz
open Go Go.Proofs Go.RowKit Go.Deep
theorem Z0{W:World}{B e s n m:Nat}{v:Value}{xs:List Value}(h:W.ownsRow B e s v n xs)(hm:n=m):∃a c,v=.slice a m c:=by
 subst hm;rcases h.2 with⟨rfl,rfl⟩|⟨g,c,_,rfl,_⟩;·exact⟨_,_,rfl⟩
 ·exact⟨_,_,rfl⟩
end Go.Proofs.YtclgigmgbebhgaaGreatDoor.ZX
namespace Go.Proofs.YtclgigmgbebhgaaGreatDoor.ZX
open Go.Proofs.Tryz
open Go Go.Proofs Go.ChangeShapes Go.WideShapes Go.ChangeAt Go.RowKit Go.Deep Go.Joins
section
variable {H:Type} {enc:TypeId×Value->H} {w:World} {base:Nat} {spare:Nat->Bool} {held:Bool}
theorem zA{r:Reach}{b0:Nat}{v:Value}{d:DataW H}{p:List MemPlace}(hv:Value.okWide prog w r b0 27 v)(h:DataW.Trod enc prog w base spare held 27 v d p):
 ∃A O M V:Int,v=.agg #[.int .i64 A,.int .i64 O,.int .u64 M,.int .u64 V]/\WK ⟨A,O,M,V⟩:=by
 obtain⟨cs,rfl,C⟩:=okWide_struct underlying27 hv;obtain⟨c0,c1,D,I,rfl⟩:=array4 (C.trans (show prog.cellsOf 27=4 from jK));obtain⟨fuel,hf⟩:=h;have hf:DataW.trod enc prog w base spare held fuel 27 [c0,c1,D,I]=some (d,p):=hf;obtain⟨c,e,hb⟩:=Fs hf;obtain⟨A,O,M,V⟩:=c;have e:[c0,c1,D,I]=[.int .i64 A,.int .i64 O,.int .u64 M,.int .u64 V]:=e;simp only[List.cons.injEq,_root_.and_true] at e;obtain⟨rfl,rfl,rfl,rfl⟩:=e;exact⟨A,O,M,V,rfl,hb⟩
end
end Go.Proofs.YtclgigmgbebhgaaGreatDoor.ZX
namespace Go.Proofs.YtclgigmgbebhgaaGreatDoor
open Go.Proofs.Tryz
open Go Go.Proofs Go.ChangeShapes Go.WideShapes Go.ChangeAt Go.RowKit
theorem nG{C:Checked}{f:FuncId}{fn:Func}{s:ChangeSpec}{os:Os}{H:Type}{enc:TypeId×Value->H}{tb:TypeId}{F:Stop.Interp}{laid:List (String×DataW Unit)}
 (own:ownKnob C.prog.godebug=none) (started:os.Started) (J:C.prog.inits.idxOf? f=none) (hfn:C.prog.funcs[f]? =some fn)
 (witness:∃(w:World) (tape:Tape) (i:Input),w.os=os/\(w.forCall tape i).Shaped C.prog/\i.vars=[]/\Input.okWide C.prog (w.forCall tape i) .any w.heap.size f i/\
   (OpenSpec.ofChange s).preRow enc C.prog fn [] false laid (w.forCall tape i).memory i.args/\({}:Assume).holds C.prog (lone (Frame.enter C.prog f i.args .normal) [] (w.forCall tape i)))
 (D:s.vars=[]) (hpv:s.plain.varTypes C.prog=[]) (hl:laidOutB C.prog=true) (Z:∀t∈fn.params.toList,C.prog.readableRec t=true/\t<C.prog.types.size)
 (hs:∀ds:List (DataW H),ds.length=fn.params.toList.length->s.fn H (ds++[])={results:=[.lit (.bool true)],args:=ds})
 (hres:fn.resultTypes=#[tb]) (hb:C.prog.underlying tb=some .bool)
 (walk:∀(W:World) (base:Nat) (args:Array Value) (ds:List (DataW H)) (p:List MemPlace),
   (∀(j:Nat) t v,fn.params[j]? =some t->args[j]? =some v->Value.okWide C.prog W .any base t v)->
   DataW.TrodAll enc C.prog W 0 (λ_=>true) true fn.params.toList args.toList ds p->(∀x∈p,x.block<W.heap.size)->
   (DataW.weightsEach C.prog fn.params.toList ds).all (·<=reachBytes)=true->laidMetH C.prog laid W->W.ShapedOpen C.prog->
   Calls C.prog f args W λe W'=>e=.returned (.bool true)/\Below W.heap.size W W'):
 ReturnsInHanded {} C os f .any ((OpenSpec.ofChange s).preRow enc C.prog fn [] false laid) (((OpenSpec.ofChange s).at F).post enc C.prog fn false true false false):=by
 refine returnsInHanded_of_row (s:=OpenSpec.ofChange s) own started J hfn witness ?_;intro W base args ds gs before hval hW _ _ hsz U I _;have Y:=hW;obtain⟨p,q,hA,hV,rfl,_,_⟩:=hW;have T:(OpenSpec.ofChange s).vars=[]:=D;rw[T] at hV;obtain⟨rfl,rfl⟩:=trodVars_none hV;have aF2:(OpenSpec.ofChange s).bare.plain.varTypes C.prog=[]:=hpv;simp only[adb,aF2] at Y hsz;have hlt:∀x∈p,x.block<W.heap.size:=λx hx=>by simpa using Y.lt x hx
 refine(walk W base args ds p hval hA hlt hsz U I).mono λe W' ⟨he,hB⟩=> ?_
 subst he;have hsd:=hs ds (LH hA);show ∃v,_/\s.post enc C.prog fn false true false false W args v W';refine⟨_,rfl,ds,[],p,[],p,[],Y,?_,?_,?_,hB.frame _,λh=>by cases h⟩;·rw[hsd,hres];exact trodAll_mk1 (shut_bool hb _)
 ·rw[hsd];exact Pe hl hB Z hA hlt
 ·rw[hsd,D];rfl
end Go.Proofs.YtclgigmgbebhgaaGreatDoor
