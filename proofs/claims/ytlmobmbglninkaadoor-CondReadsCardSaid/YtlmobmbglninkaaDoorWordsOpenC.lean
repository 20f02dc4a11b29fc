/- A slice of strings that came in, opened. -/
import Derived.Test.YtlmobmbglninkaaDoorCondReadsW
import Derived.Test.YtlmobmbglninkaaDoorOpen
import Derived.Deep.Slices
import Derived.Deep.Strs
import Derived.Lib.SmallJoins
namespace Go.Proofs.YtlmobmbglninkaaDoor
open Go Go.Proofs Go.ChangeShapes Go.WideShapes Go.ChangeAt Go.RowKit Go.Deep
section
variable {H : Type} {enc : TypeId × Value → H} {w : World} {base : Nat} {spare : Nat → Bool} {held : Bool}

theorem strs_not_agg {P : Program} {r : Reach} {b0 : Nat} {t e : TypeId} {cs : Array Value} (ht : P.underlying t = some (.slice e)) : ¬ Value.okWide P w r b0 t (.agg cs) := by
  intro h
  simp only [Value.okWide, ht] at h
  simp [Cell.okWide, Cell.ok, ht] at h

theorem open_words {v : Value} {d : DataW H} {p : List MemPlace} (h : DataW.Trod enc Tryd.prog w base spare held 22 v d p) (hn : ∀ cs, v ≠ .agg cs) : ∃ ws : List ByteArray, WordsV w v ws := by
  obtain ⟨fuel, hf⟩ := h
  have hv : v.cells.toList = [v] := by
    cases v <;> first | rfl | exact absurd rfl (hn _)
  rw [hv] at hf
  rcases open_strs Tryd.underlying22 Tryd.underlying9 (by kernel_rfl) hf with ⟨h1, _⟩ | ⟨a, len, cap, m, Sx, h1, _, _, _, hm, _, hx⟩
  · obtain rfl : v = .slice none 0 0 := by simpa using h1
    exact ⟨[], none, 0, rfl, .inl rfl⟩
  · obtain rfl : v = .slice (some a) len cap := by simpa using h1
    have hlm : len ≤ m := by rw [hm]; split <;> omega
    refine ⟨(List.range len).map Sx, some a, cap, by simp, ?_⟩
    by_cases h0 : len = 0
    · left
      rw [h0]
      rfl
    · right
      obtain ⟨b, off, spot⟩ := a
      have hc0 := (hx 0 (by omega)).1
      have hs : spot = none := by
        cases spot with
        | none => rfl
        | some q =>
          simp only [World.cell?, Addr.add] at hc0
          split at hc0 <;> simp at hc0
      subst hs
      have hc1 : w.cell? ⟨b, off + 0, none⟩ = some (.string (Sx 0)) := hc0
      refine ⟨b, off, rfl, World.block_lt_of_cell? _ _ hc1, fun j s hs => ?_⟩
      have hj : j < len := by
        have := (List.getElem?_eq_some_iff.1 hs).1
        simpa using this
      have e : s = Sx j := by
        simp [hj] at hs
        exact hs.symm
      rw [e]
      have := (hx j (by omega)).1
      rw [Addr.add_lit] at this
      exact this
end
end Go.Proofs.YtlmobmbglninkaaDoor
