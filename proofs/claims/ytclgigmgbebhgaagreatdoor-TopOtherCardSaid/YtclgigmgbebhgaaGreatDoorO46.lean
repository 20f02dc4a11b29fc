/- TopOther: part 46: TopOthC. -/
import Derived.Deep.DeepWitnessRowRef
import Derived.ChangeMaps5
import Derived.LaidSub
import Derived.Lay
import Derived.Test.YtclgigmgbebhgaaGreatDoorO45
set_option linter.unusedVariables false
set_option linter.unusedSimpArgs false
set_option maxRecDepth 100000
set_option maxHeartbeats 16000000
namespace Go.Proofs.YtclgigmgbebhgaaGreatDoor.lawTopOther
open Go.Proofs.Tryz
open Go Go.Proofs Go.ChangeShapes Go.WideShapes Go.ChangeAt Go.RowKit Go.Joins Go.ChangeMaps Go.Proofs.YtclgigmgbebhgaaGreatDoor
theorem ar3{a b:Bool}(h:a=true)(k:b=true):(a&&b)=true:=by rw[h,k];rfl
theorem closed:joinedFacts prog 4 Tryz.f4 (OpenSpec.ofChange Rows.topOtherSpec).bare Rows.topOtherRow=true:=by
 unfold joinedFacts
 repeat' with_reducible refine ar3 ?_ ?_
 all_goals (as_aux_lemma=>kernel_rfl)
end Go.Proofs.YtclgigmgbebhgaaGreatDoor.lawTopOther
