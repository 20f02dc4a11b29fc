/- Arguments opened: an array of integers by value. -/
import Derived.Test.YtmjipkdejggbfaaGreatDoorQLift
namespace Go.Proofs.YtmjipkdejggbfaaGreatDoor
open Go Go.Proofs Go.ChangeShapes Go.WideShapes Go.ChangeAt Go.RowKit
section
variable {H : Type} {enc : TypeId × Value → H} {P : Program} {w : World} {base : Nat} {spare : Nat → Bool} {held : Bool}

theorem ints_of_cells {n m : Nat} {e : TypeId} {k : IntKind} {cs : List Value} {xs : List (DataW H × List MemPlace)} (he : P.underlying e = some (.int k)) (hl : cs.length = n) (hx : xs.length = n)
    (h : ∀ i, i < n → DataW.trod enc P w base spare held m e ((cs.drop i).take 1) = xs[i]?) : ∃ zs : List Int, zs.length = n ∧ cs = zs.map (Value.int k) ∧ ∀ z ∈ zs, (Lit.int k z).wf = true := by
  induction n generalizing cs xs with
  | zero => exact ⟨[], rfl, by simpa using hl, by simp⟩
  | succ n ih =>
    cases cs with
    | nil => simp at hl
    | cons c cs =>
      cases xs with
      | nil => simp at hx
      | cons x xs =>
        have h0 := h 0 (by omega)
        simp only [List.drop_zero, List.take_succ_cons, List.take_zero, List.getElem?_cons_zero] at h0
        obtain ⟨z, e0, _, wz⟩ := DataW.trod_int he h0
        obtain ⟨zs, hz, hc, hw⟩ := ih (cs := cs) (xs := xs) (by simpa using hl) (by simpa using hx) (fun i hi => by simpa using h (i + 1) (by omega))
        refine ⟨z :: zs, by simp [hz], ?_, ?_⟩
        · simp only [List.cons.injEq, and_true] at e0
          rw [e0, hc]; rfl
        · intro y hy
          rcases List.mem_cons.1 hy with rfl | hy
          · exact wz
          · exact hw y hy

theorem open_int_array {n : Nat} {t e : TypeId} {k : IntKind} {v : Value} {d : DataW H} {p : List MemPlace} {r : Reach} {b0 : Nat} (ht : P.underlying t = some (.array n e)) (he : P.underlying e = some (.int k)) (hc : P.cellsOf e = 1) (hct : P.cellsOf t = n)
    (hv : Value.okWide P w r b0 t v) (h : DataW.Trod enc P w base spare held t v d p) : ∃ zs : List Int, zs.length = n ∧ v = .agg (zs.map (Value.int k)).toArray ∧ ∀ z ∈ zs, (Lit.int k z).wf = true := by
  simp only [Value.okWide, ht] at hv
  obtain ⟨cs, rfl, hsz, _⟩ := hv
  obtain ⟨fuel, hf⟩ := h
  obtain ⟨xs, m, _, _, hlen, hxl, hi⟩ := DataW.trod_array ht hf
  have hcs : (Value.agg cs).cells = cs := rfl
  rw [hcs] at hlen hi
  obtain ⟨zs, hz, hzc, hw⟩ := ints_of_cells (cs := cs.toList) he (by rw [hlen, hct]) hxl (fun i hlt => by simpa [hc] using hi i hlt)
  exact ⟨zs, hz, by rw [← hzc], hw⟩
end
end Go.Proofs.YtmjipkdejggbfaaGreatDoor
