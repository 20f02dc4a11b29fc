/- A slice of rows that came in, opened. -/
import Derived.Test.YtakmbmlpgmppiaaDoorSysLaw
import Derived.Test.YtakmbmlpgmppiaaDoorOpen
import Derived.Deep.Slices
import Derived.Lib.SmallJoins
namespace Go.Proofs.YtakmbmlpgmppiaaDoor
open Go Go.Proofs Go.ChangeShapes Go.WideShapes Go.ChangeAt Go.RowKit Go.Deep
section
variable {H : Type} {enc : TypeId × Value → H} {w : World} {base : Nat} {spare : Nat → Bool} {held : Bool}

theorem row_of_trod {fuel : Nat} {cs : List Value} {x : DataW H × List MemPlace} (h : DataW.trod enc Tryd.prog w base spare held fuel 37 cs = some x) : ∃ r : SRow, cs = r.cells := by
  obtain ⟨xs, n, _, _, hlen, hxl, hg⟩ := DataW.trod_struct Tryd.underlying37 h
  have hc8 : Tryd.prog.cellsOf 37 = 8 := by kernel_rfl
  have hc1 : Tryd.prog.cellsOf 9 = 1 := by kernel_rfl
  have hc5 : Tryd.prog.cellsOf 34 = 5 := by kernel_rfl
  have hci : Tryd.prog.cellsOf 3 = 1 := by kernel_rfl
  rw [hc8] at hlen
  match cs, hlen with
  | [c0, c1, c2, c3, c4, c5, c6, c7], _ =>
  match xs, hxl with
  | [x0, x1, x2, x3], _ =>
  have g0 : DataW.trod enc Tryd.prog w base spare held n 9 [c0] = some x0 := by
    have hh : DataW.trod enc Tryd.prog w base spare held n 9 (([c0, c1, c2, c3, c4, c5, c6, c7].drop 0).take (Tryd.prog.cellsOf 9)) = some x0 := hg 0 _ rfl
    rw [hc1] at hh
    exact hh
  have g1 : DataW.trod enc Tryd.prog w base spare held n 34 [c1, c2, c3, c4, c5] = some x1 := by
    have hh : DataW.trod enc Tryd.prog w base spare held n 34 (([c0, c1, c2, c3, c4, c5, c6, c7].drop 1).take (Tryd.prog.cellsOf 34)) = some x1 := hg 1 _ rfl
    rw [hc5] at hh
    exact hh
  have g2 : DataW.trod enc Tryd.prog w base spare held n 3 [c6] = some x2 := by
    have hh : DataW.trod enc Tryd.prog w base spare held n 3 (([c0, c1, c2, c3, c4, c5, c6, c7].drop 6).take (Tryd.prog.cellsOf 3)) = some x2 := hg 2 _ rfl
    rw [hci] at hh
    exact hh
  have g3 : DataW.trod enc Tryd.prog w base spare held n 3 [c7] = some x3 := by
    have hh : DataW.trod enc Tryd.prog w base spare held n 3 (([c0, c1, c2, c3, c4, c5, c6, c7].drop 7).take (Tryd.prog.cellsOf 3)) = some x3 := hg 3 _ rfl
    rw [hci] at hh
    exact hh
  obtain ⟨s0, e0, _, _⟩ := DataW.trod_string Tryd.underlying9 g0
  obtain ⟨n6, e6, _, _⟩ := DataW.trod_int Tryd.underlying3 g2
  obtain ⟨n7, e7, _, _⟩ := DataW.trod_int Tryd.underlying3 g3
  obtain ⟨ys, m, _, _, hyl, hyx, hi⟩ := DataW.trod_array Tryd.underlying34 g1
  obtain ⟨zs, hz, hzc, _⟩ := ints_of_cells (cs := [c1, c2, c3, c4, c5]) Tryd.underlying3 rfl hyx (fun i hlt => by simpa [hci] using hi i hlt)
  match zs, hz with
  | [z0, z1, z2, z3, z4], _ =>
  simp only [List.map_cons, List.map_nil, List.cons.injEq, and_true] at hzc e0 e6 e7
  obtain ⟨rfl, rfl, rfl, rfl, rfl⟩ := hzc
  subst e0 e6 e7
  exact ⟨⟨s0, z0, z1, z2, z3, z4, n6, n7⟩, rfl⟩

theorem slice_not_agg {P : Program} {r : Reach} {b0 : Nat} {t e : TypeId} {cs : Array Value} (ht : P.underlying t = some (.slice e)) : ¬ Value.okWide P w r b0 t (.agg cs) := by
  intro h
  simp only [Value.okWide, ht] at h
  simp [Cell.okWide, Cell.ok, ht] at h

theorem list_of_range {α : Type} [Inhabited α] (R : Nat → α) (n : Nat) : ∃ l : List α, l.length = n ∧ ∀ j, j < n → l[j]! = R j :=
  ⟨(List.range n).map R, by simp, fun j hj => by simp [hj]⟩

theorem open_rows {v : Value} {d : DataW H} {p : List MemPlace} (h : DataW.Trod enc Tryd.prog w base spare held 22 v d p) (hn : ∀ cs, v ≠ .agg cs) : ∃ l : List SRow, RowsV w v l := by
  obtain ⟨fuel, hf⟩ := h
  have hv : v.cells.toList = [v] := by
    cases v <;> first | rfl | exact absurd rfl (hn _)
  rw [hv] at hf
  rcases open_slice Tryd.underlying22 hf with ⟨h1, _⟩ | ⟨a, len, cap, m, n, D, Pl, h1, _, hle, _, hm, _, hx⟩
  · obtain rfl : v = .slice none 0 0 := by simpa using h1
    exact ⟨[], none, 0, rfl, .inl rfl⟩
  · obtain rfl : v = .slice (some a) len cap := by simpa using h1
    have hlm : len ≤ m := by rw [hm]; split <;> omega
    have hc8 : Tryd.prog.cellsOf 37 = 8 := by kernel_rfl
    obtain ⟨R, hR⟩ := choose_lt (α := SRow) (p := fun i r => ∀ j u, r.cells[j]? = some u → w.cell? (a.add (i * 8 + j)) = some u) (n := len) (fun i hi => by
      obtain ⟨cs', h2, h3⟩ := hx i (by omega)
      rw [hc8] at h2
      obtain ⟨_, hl, hc⟩ := World.cells?_some h2
      obtain ⟨r, rfl⟩ := row_of_trod h3
      refine ⟨r, fun j u hu => ?_⟩
      have hj : j < 8 := (List.getElem?_eq_some_iff.1 hu).1
      have := hc j hj
      rw [add_add] at this
      exact this.trans hu)
    obtain ⟨l, hl, hlR⟩ := list_of_range R len
    refine ⟨l, some a, cap, by rw [hl], ?_⟩
    by_cases h0 : len = 0
    · left
      exact List.eq_nil_of_length_eq_zero (by rw [hl, h0])
    · right
      obtain ⟨b, off, spot⟩ := a
      have hc0 := hR 0 (by omega) 0 _ rfl
      have hs : spot = none := by
        cases spot with
        | none => rfl
        | some q =>
          simp only [World.cell?, Addr.add] at hc0
          split at hc0 <;> simp at hc0
      subst hs
      refine ⟨b, off, rfl, ?_, fun j hj i u hu => ?_⟩
      · simp only [World.cell?, Addr.add] at hc0
        split at hc0
        · rename_i hb
          exact (Array.getElem?_eq_some_iff.1 hb).1
        · cases hc0
      · rw [hl] at hj
        rw [hlR j hj] at hu
        have := hR j hj i u hu
        rw [Addr.add_lit, ← Nat.add_assoc] at this
        exact this
end
end Go.Proofs.YtakmbmlpgmppiaaDoor
