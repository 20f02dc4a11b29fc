/- list.need. -/
import Derived.Test.YtokehnclakedeaaGreatDoorBlk
import Derived.Test.YtokehnclakedeaaGreatDoorShelf
import Derived.WalkLawsBesides
import Derived.Lib.Hide
import Derived.WalkKit
namespace Go.Proofs.YtokehnclakedeaaGreatDoor
open Go Go.Proofs Go.RowKit Go.Shelf

/-- How a wrong line ends: the program's own panic. -/
def wrongP : List PanicEntry := [{ v := .iface 48 (.agg #[]), recovered := false }]
set_option maxRecDepth 100000 in
theorem need_true (w : World) : Calls Tryz.prog 33 #[.bool true] w fun e w' => e = .returned (.tuple #[]) ∧ w = w' := by
  go_enter Tryz.func33, Tryz.ntmps33
  go_wp2
  first
    | (go_end0; exact ⟨rfl, rfl⟩)
    | (refine bodyPost_ret (results_none rfl _ _ _) rfl ?_; exact ⟨rfl, rfl⟩)
set_option maxRecDepth 100000 in
theorem need_false (w : World) : Calls Tryz.prog 33 #[.bool false] w fun e w' => e = .panicked wrongP ∧ w = w' := by
  go_enter Tryz.func33, Tryz.ntmps33
  go_wp2
  exact ⟨rfl, rfl, rfl⟩
end Go.Proofs.YtokehnclakedeaaGreatDoor
