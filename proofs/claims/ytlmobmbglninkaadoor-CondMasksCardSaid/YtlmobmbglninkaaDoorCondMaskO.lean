/- CondMasks: its argument opened. -/
import Derived.Test.YtlmobmbglninkaaDoorOpen
import Derived.Lib.SmallJoins
namespace Go.Proofs.YtlmobmbglninkaaDoor
open Go Go.Proofs Go.ChangeShapes Go.WideShapes Go.ChangeAt Go.RowKit Go.Joins
variable {H : Type} {enc : TypeId × Value → H} {w : World} {base : Nat} {spare : Nat → Bool} {held : Bool}

theorem list9 {α : Type} {l : List α} (h : l.length = 9) : ∃ c0 c1 c2 c3 c4 c5 c6 c7 c8, l = [c0, c1, c2, c3, c4, c5, c6, c7, c8] := by
  match l, h with
  | [c0, c1, c2, c3, c4, c5, c6, c7, c8], _ => exact ⟨c0, c1, c2, c3, c4, c5, c6, c7, c8, rfl⟩
theorem list6 {α : Type} {l : List α} (h : l.length = 6) : ∃ c0 c1 c2 c3 c4 c5, l = [c0, c1, c2, c3, c4, c5] := by
  match l, h with
  | [c0, c1, c2, c3, c4, c5], _ => exact ⟨c0, c1, c2, c3, c4, c5, rfl⟩
set_option maxRecDepth 100000 in
theorem open_masks {v : Value} {d : DataW H} {p : List MemPlace} {r : Reach} {b0 : Nat}
    (hv : Value.okWide Tryd.prog w r b0 42 v) (h : DataW.Trod enc Tryd.prog w base spare held 42 v d p) :
    ∃ (ar m u x0 x1 x2 x3 x4 x5 : Int), v = .agg #[.int .u8 ar, .int .u64 m, .int .u64 u, .int .u64 x0, .int .u64 x1, .int .u64 x2, .int .u64 x3, .int .u64 x4, .int .u64 x5] ∧ (Lit.int .u8 ar).wf = true ∧ (Lit.int .u64 m).wf = true ∧ (Lit.int .u64 u).wf = true ∧ (Lit.int .u64 x0).wf = true ∧ (Lit.int .u64 x1).wf = true ∧ (Lit.int .u64 x2).wf = true ∧ (Lit.int .u64 x3).wf = true ∧ (Lit.int .u64 x4).wf = true ∧ (Lit.int .u64 x5).wf = true := by
  have hs := Tryd.underlying42
  have k5 : Tryd.prog.cellsOf 5 = 1 := by kernel_rfl
  have k23 : Tryd.prog.cellsOf 23 = 1 := by kernel_rfl
  have k37 : Tryd.prog.cellsOf 37 = 6 := by kernel_rfl
  have kM : Tryd.prog.cellsOf 42 = 9 := by kernel_rfl
  obtain ⟨cs, rfl, hsz⟩ := okWide_struct hs hv
  obtain ⟨fuel, hf⟩ := h
  obtain ⟨y0, y1, y2, y3, n, hx, _, h0, h1, h2, h3⟩ := trod_struct4 hs hf
  obtain ⟨l⟩ := cs
  have hl : l.length = 9 := by rw [← kM]; simpa using hsz
  obtain ⟨c0, c1, c2, c3, c4, c5, c6, c7, c8, rfl⟩ := list9 hl
  · simp [Value.cells, k5, k23, k37] at h0 h1 h2 h3
    obtain ⟨ar, e0, _, g0⟩ := DataW.trod_int Tryd.underlying5 h0
    obtain ⟨m, e1, _, g1⟩ := DataW.trod_int Tryd.underlying23 h1
    obtain ⟨u, e2, _, g2⟩ := DataW.trod_int Tryd.underlying23 h2
    obtain ⟨xs, q, _, _, hlen, hxl, hi⟩ := DataW.trod_array Tryd.underlying37 h3
    obtain ⟨zs, hz, hzc, hw⟩ := ints_of_cells (cs := [c3, c4, c5, c6, c7, c8]) (n := 6) Tryd.underlying23 rfl hxl (fun i hlt => by simpa [k23] using hi i hlt)
    obtain ⟨x0, x1, x2, x3, x4, x5, rfl⟩ := list6 hz
    · simp only [List.map_cons, List.map_nil, List.cons.injEq, and_true] at hzc e0 e1 e2
      obtain ⟨rfl, rfl, rfl, rfl, rfl, rfl⟩ := hzc
      subst e0 e1 e2
      exact ⟨ar, m, u, x0, x1, x2, x3, x4, x5, rfl, g0, g1, g2, hw _ (by simp), hw _ (by simp), hw _ (by simp), hw _ (by simp), hw _ (by simp), hw _ (by simp)⟩
end Go.Proofs.YtlmobmbglninkaaDoor
