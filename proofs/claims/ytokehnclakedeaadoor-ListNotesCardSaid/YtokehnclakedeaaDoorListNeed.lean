/- list.need. -/
import Derived.Test.YtokehnclakedeaaDoorBlk
import Derived.Test.YtokehnclakedeaaDoorShelf
import Derived.WalkLawsBesides
import Derived.Lib.Hide
import Derived.WalkKit
namespace Go.Proofs.YtokehnclakedeaaDoor
open Go Go.Proofs Go.RowKit Go.Shelf

/-- How a wrong line ends: the program's own panic. -/
def wrongP : List PanicEntry := [{ v := .iface 51 (.agg #[]), recovered := false }]
set_option maxRecDepth 100000 in
theorem need_true (w : World) : Calls Tryd.prog 32 #[.bool true] w fun e w' => e = .returned (.tuple #[]) ∧ w = w' := by
  go_enter Tryd.func32, Tryd.ntmps32
  go_wp2
  first
    | (go_end0; exact ⟨rfl, rfl⟩)
    | (refine bodyPost_ret (results_none rfl _ _ _) rfl ?_; exact ⟨rfl, rfl⟩)
set_option maxRecDepth 100000 in
theorem need_false (w : World) : Calls Tryd.prog 32 #[.bool false] w fun e w' => e = .panicked wrongP ∧ w = w' := by
  go_enter Tryd.func32, Tryd.ntmps32
  go_wp2
  exact ⟨rfl, rfl, rfl⟩
end Go.Proofs.YtokehnclakedeaaDoor
