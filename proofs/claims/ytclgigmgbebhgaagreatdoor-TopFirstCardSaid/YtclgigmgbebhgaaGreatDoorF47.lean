/- TopFirst: the given statement that the first rule that holds decides, proved of the program. Conditions: none. -/
import Derived.Test.YtclgigmgbebhgaaGreatDoorF46
set_option linter.unusedVariables false
set_option linter.unusedSimpArgs false
set_option maxRecDepth 100000
set_option maxHeartbeats 16000000
namespace Go.Proofs.YtclgigmgbebhgaaGreatDoor.lawTopFirst
open Go.Proofs.Tryz
open Go Go.Proofs Go.ChangeShapes Go.WideShapes Go.ChangeAt Go.RowKit Go.Joins Go.ChangeMaps Go.Proofs.YtclgigmgbebhgaaGreatDoor
theorem said:Rows.TopFirstSaid:=
 OpenClaim.holds_of_cond 5 Tryz.f5 rfl rfl rfl rfl rfl rfl rfl ⟨rfl,rfl,rfl,rfl,rfl⟩ rfl rfl rfl rfl rfl jK func5 closed
  (agc jK) (by unfold Func.isWrapper;first|(rw[aF (by decide+kernel)];kernel_rfl)|(rw[aN (by decide+kernel)];exact⟨rfl,rfl⟩))
  (λos started H enc _ F=>by rw[OpenClaim.pre_eq_preRow];exact lifted os started H enc F)
theorem plain(f:FuncId)(fn:Func)(hf:Tryz.pinned.checked.prog.funcNamed "strainer/strainertop.TopFirst" =some f)(C:Tryz.pinned.checked.prog.funcs[f]? =some fn):
 true=Tryz.pinned.checked.prog.looks []/\∀(j:Nat) t,fn.params[j]? =some t->Tryz.pinned.checked.prog.wantsStandIn t=false:=by
 obtain rfl:f=5:=aq ((show prog.funcNamed "strainer/strainertop.TopFirst" =some 5 from jK).symm.trans hf) |>.symm;obtain rfl:fn=Tryz.f5:=(aq (func5.symm.trans C)).symm;refine⟨jK,λj t ht=> ?_⟩;rw[params5] at ht;have hm:=Array.mem_of_getElem? ht;simp only[List.mem_toArray,abb,ahd,arc] at hm;rcases hm with rfl|rfl|rfl;·exact(show prog.wantsStandIn 27=false from jK)
 ·exact(show prog.wantsStandIn 5=false from jK)
 ·exact(show prog.wantsStandIn 24=false from jK)
theorem card:Rows.TopFirstCardSaid:=
 Claim7.holds_tied_plain_at .later [] _ _ _ _ said (λ_ h=>by cases h) jK (λ_ h=>by cases h) topFirst_row_tie rfl ⟨rfl,rfl⟩ jK rfl plain jK
#print axioms card
end Go.Proofs.YtclgigmgbebhgaaGreatDoor.lawTopFirst
