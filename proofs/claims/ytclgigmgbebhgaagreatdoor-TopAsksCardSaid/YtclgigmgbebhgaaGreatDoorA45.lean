/- TopAsks: part 45: TopAskC. -/
import Derived.Deep.DeepWitnessRowRef
import Derived.ChangeMaps5
import Derived.LaidSub
import Derived.Lay
import Derived.Test.YtclgigmgbebhgaaGreatDoorA44
set_option linter.unusedVariables false
set_option linter.unusedSimpArgs false
set_option maxRecDepth 100000
set_option maxHeartbeats 16000000
namespace Go.Proofs.YtclgigmgbebhgaaGreatDoor.lawTopAsks
open Go.Proofs.Tryz
open Go Go.Proofs Go.ChangeShapes Go.WideShapes Go.ChangeAt Go.RowKit Go.Joins Go.ChangeMaps Go.Proofs.YtclgigmgbebhgaaGreatDoor
theorem an4{a b:Bool}(h:a=true)(k:b=true):(a&&b)=true:=by rw[h,k];rfl
theorem closed:joinedFacts prog 3 Tryz.f3 (OpenSpec.ofChange Rows.topAsksSpec).bare Rows.topAsksRow=true:=by
 unfold joinedFacts
 repeat' with_reducible refine an4 ?_ ?_
 all_goals (as_aux_lemma=>kernel_rfl)
end Go.Proofs.YtclgigmgbebhgaaGreatDoor.lawTopAsks
