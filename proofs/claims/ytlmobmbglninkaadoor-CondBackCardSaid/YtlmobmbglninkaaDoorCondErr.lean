/- What the rows say of strconv.ErrRange. -/
import Derived.Test.YtlmobmbglninkaaDoorCondNum
import Derived.Stop.LaidErr
import Derived.LaidSub
namespace Go.Proofs.YtlmobmbglninkaaDoor
open Go Go.Proofs Go.RowKit Go.Shelf

theorem star : "*" ++ "errors.errorString" = "*errors.errorString" := by decide
theorem errRow (u : TypeId) (h : Tryd.prog.typeName? 3 u = some "*errors.errorString") : u = 121 :=
  typeName_ptr_named (nm := "errors.errorString") (by rw [star]; kernel_rfl) (by kernel_rfl) (by decide) u (by rw [star]; exact h)
theorem errV_laid {r : List (String × DataW Unit)} {text : List UInt8} (W : World) (hL : laidMet Tryd.prog (("strconv.ErrRange", .iface "*errors.errorString" (.ptr (.agg [.lit (.string text)]))) :: r) W) : ErrV W := by
  have hg : Tryd.prog.globalNamed "strconv.ErrRange" = some 1 := by kernel_rfl
  obtain ⟨a0, s0, hv0, -, -, -⟩ := laid_sentinel hL hg (show (Tryd.prog.globals[1]?).map (·.type) = some 64 by kernel_rfl) Tryd.underlying64 errRow Tryd.underlying121 Tryd.underlying123 rfl rfl Tryd.underlying9 (by kernel_rfl) (by kernel_rfl)
  exact ⟨_, (by have h0 := World.var?_cell hg hv0 0; simpa using h0), Or.inr ⟨_, _, rfl⟩⟩
end Go.Proofs.YtlmobmbglninkaaDoor
