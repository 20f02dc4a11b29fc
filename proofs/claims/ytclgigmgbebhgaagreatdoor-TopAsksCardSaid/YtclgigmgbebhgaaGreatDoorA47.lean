/- TopAsks: the given statement of every condition in each ABI, proved of the program. Conditions: none. -/
import Derived.Test.YtclgigmgbebhgaaGreatDoorA46
set_option linter.unusedVariables false
set_option linter.unusedSimpArgs false
set_option maxRecDepth 100000
set_option maxHeartbeats 16000000
namespace Go.Proofs.YtclgigmgbebhgaaGreatDoor.lawTopAsks
open Go.Proofs.Tryz
open Go Go.Proofs Go.ChangeShapes Go.WideShapes Go.ChangeAt Go.RowKit Go.Joins Go.ChangeMaps Go.Proofs.YtclgigmgbebhgaaGreatDoor
theorem said:Rows.TopAsksSaid:=
 OpenClaim.holds_of_cond 3 Tryz.f3 rfl rfl rfl rfl rfl rfl rfl ⟨rfl,rfl,rfl,rfl,rfl⟩ rfl rfl rfl rfl rfl jK func3 closed
  (ahf jK) (by unfold Func.isWrapper;first|(rw[aH (by decide+kernel)];kernel_rfl)|(rw[aN (by decide+kernel)];exact⟨rfl,rfl⟩))
  (λos started H enc _ F=>by rw[OpenClaim.pre_eq_preRow];exact lifted os started H enc F)
theorem plain(f:FuncId)(fn:Func)(hf:Tryz.pinned.checked.prog.funcNamed "strainer/strainertop.TopAsks" =some f)(A:Tryz.pinned.checked.prog.funcs[f]? =some fn):
 true=Tryz.pinned.checked.prog.looks []/\∀(j:Nat) t,fn.params[j]? =some t->Tryz.pinned.checked.prog.wantsStandIn t=false:=by
 obtain rfl:f=3:=au ((show prog.funcNamed "strainer/strainertop.TopAsks" =some 3 from jK).symm.trans hf) |>.symm;obtain rfl:fn=Tryz.f3:=(au (func3.symm.trans A)).symm;refine⟨jK,λj t ht=> ?_⟩;rw[params3] at ht;have hm:=Array.mem_of_getElem? ht;simp only[List.mem_toArray,abf,akf,auf] at hm;rcases hm with rfl|rfl|rfl;·exact(show prog.wantsStandIn 22=false from jK)
 ·exact(show prog.wantsStandIn 5=false from jK)
 ·exact(show prog.wantsStandIn 24=false from jK)
theorem card:Rows.TopAsksCardSaid:=
 Claim7.holds_tied_plain_at .later [] _ _ _ _ said (λ_ h=>by cases h) jK (λ_ h=>by cases h) topAsks_row_tie rfl ⟨rfl,rfl⟩ jK rfl plain jK
#print axioms card
end Go.Proofs.YtclgigmgbebhgaaGreatDoor.lawTopAsks
