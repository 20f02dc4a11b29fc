/- A slice of instructions, or of lines, that came in, opened. -/
import Derived.Test.YtokehnclakedeaaGreatDoorListProgW
import Derived.Test.YtokehnclakedeaaGreatDoorOpen
import Derived.Deep.Slices
import Derived.Deep.Strs
import Derived.Lib.SmallJoins
namespace Go.Proofs.YtokehnclakedeaaGreatDoor
open Go Go.Proofs Go.ChangeShapes Go.WideShapes Go.ChangeAt Go.RowKit Go.Deep
section
variable {H : Type} {enc : TypeId × Value → H} {w : World} {base : Nat} {spare : Nat → Bool} {held : Bool}

theorem slice_not_agg3 {P : Program} {r : Reach} {b0 : Nat} {t e : TypeId} {cs : Array Value} (ht : P.underlying t = some (.slice e)) : ¬ Value.okWide P w r b0 t (.agg cs) := by
  intro h
  simp only [Value.okWide, ht] at h
  simp [Cell.okWide, Cell.ok, ht] at h
theorem list_of_range3 {α : Type} (R : Nat → α) (n : Nat) : ∃ l : List α, l.length = n ∧ ∀ j, j < n → l[j]? = some (R j) :=
  ⟨(List.range n).map R, by simp, fun j hj => by simp [hj]⟩
set_option maxRecDepth 100000 in
theorem ins_of_trod {fuel : Nat} {cs : List Value} {x : DataW H × List MemPlace} (h : DataW.trod enc Tryz.prog w base spare held fuel 29 cs = some x) : ∃ r : Ins4, cs = insC r ∧ InsB4 r := by
  obtain ⟨xs, n, _, _, hlen, hxl, hg⟩ := DataW.trod_struct Tryz.underlying29 h
  have hc4 : Tryz.prog.cellsOf 29 = 4 := by kernel_rfl
  have h16 : Tryz.prog.cellsOf 22 = 1 := by kernel_rfl
  have h8 : Tryz.prog.cellsOf 5 = 1 := by kernel_rfl
  have h32 : Tryz.prog.cellsOf 23 = 1 := by kernel_rfl
  rw [hc4] at hlen
  match cs, hlen with
  | [c0, c1, c2, c3], _ =>
  match xs, hxl with
  | [x0, x1, x2, x3], _ =>
  have g0 : DataW.trod enc Tryz.prog w base spare held n 22 [c0] = some x0 := by
    have hh : DataW.trod enc Tryz.prog w base spare held n 22 (([c0, c1, c2, c3].drop 0).take (Tryz.prog.cellsOf 22)) = some x0 := hg 0 _ rfl
    rw [h16] at hh
    exact hh
  have g1 : DataW.trod enc Tryz.prog w base spare held n 5 [c1] = some x1 := by
    have hh : DataW.trod enc Tryz.prog w base spare held n 5 (([c0, c1, c2, c3].drop 1).take (Tryz.prog.cellsOf 5)) = some x1 := hg 1 _ rfl
    rw [h8] at hh
    exact hh
  have g2 : DataW.trod enc Tryz.prog w base spare held n 5 [c2] = some x2 := by
    have hh : DataW.trod enc Tryz.prog w base spare held n 5 (([c0, c1, c2, c3].drop 2).take (Tryz.prog.cellsOf 5)) = some x2 := hg 2 _ rfl
    rw [h8] at hh
    exact hh
  have g3 : DataW.trod enc Tryz.prog w base spare held n 23 [c3] = some x3 := by
    have hh : DataW.trod enc Tryz.prog w base spare held n 23 (([c0, c1, c2, c3].drop 3).take (Tryz.prog.cellsOf 23)) = some x3 := hg 3 _ rfl
    rw [h32] at hh
    exact hh
  obtain ⟨c, ec, _, gc⟩ := DataW.trod_int Tryz.underlying22 g0
  obtain ⟨jt, ejt, _, gjt⟩ := DataW.trod_int Tryz.underlying5 g1
  obtain ⟨jf, ejf, _, gjf⟩ := DataW.trod_int Tryz.underlying5 g2
  obtain ⟨k, ek, _, gk⟩ := DataW.trod_int Tryz.underlying23 g3
  simp only [List.cons.injEq, and_true] at ec ejt ejf ek
  subst ec ejt ejf ek
  have bc := bounds_u16 gc
  have bjt := bounds_u8 gjt
  have bjf := bounds_u8 gjf
  have bk := bounds_u32 gk
  obtain ⟨c', rfl⟩ := Int.eq_ofNat_of_zero_le (show 0 ≤ c by have := bc.1; omega)
  obtain ⟨jt', rfl⟩ := Int.eq_ofNat_of_zero_le (show 0 ≤ jt by have := bjt.1; omega)
  obtain ⟨jf', rfl⟩ := Int.eq_ofNat_of_zero_le (show 0 ≤ jf by have := bjf.1; omega)
  obtain ⟨k', rfl⟩ := Int.eq_ofNat_of_zero_le (show 0 ≤ k by have := bk.1; omega)
  have hb : InsB c' jt' jf' k' := ⟨by have := bc.2; omega, by have := bjt.2; omega, by have := bjf.2; omega, by have := bk.2; omega⟩
  exact ⟨(c', jt', jf', k'), rfl, hb⟩
theorem open_inss {v : Value} {d : DataW H} {p : List MemPlace} (h : DataW.Trod enc Tryz.prog w base spare held 36 v d p) (hn : ∀ cs, v ≠ .agg cs) : ∃ l : List Ins4, InssV w v l ∧ ∀ x ∈ l, InsB4 x := by
  obtain ⟨fuel, hf⟩ := h
  have hv : v.cells.toList = [v] := by
    cases v <;> first | rfl | exact absurd rfl (hn _)
  rw [hv] at hf
  rcases open_slice Tryz.underlying36 hf with ⟨h1, _⟩ | ⟨a, len, cap, m, n, D, Pl, h1, _, hle, _, hm, _, hx⟩
  · obtain rfl : v = .slice none 0 0 := by simpa using h1
    exact ⟨[], ⟨none, 0, rfl, .inl rfl⟩, fun x hx => by cases hx⟩
  · obtain rfl : v = .slice (some a) len cap := by simpa using h1
    have hlm : len ≤ m := by rw [hm]; split <;> omega
    have hc4 : Tryz.prog.cellsOf 29 = 4 := by kernel_rfl
    obtain ⟨R, hR⟩ := choose_lt (α := Ins4) (p := fun i r => InsB4 r ∧ ∀ j u, (insC r)[j]? = some u → w.cell? (a.add (i * 4 + j)) = some u) (n := len) (fun i hi => by
      obtain ⟨cs', h2, h3⟩ := hx i (by omega)
      rw [hc4] at h2
      obtain ⟨_, hl, hc⟩ := World.cells?_some h2
      obtain ⟨r, rfl, hb⟩ := ins_of_trod h3
      refine ⟨r, hb, fun j u hu => ?_⟩
      have hj : j < 4 := (List.getElem?_eq_some_iff.1 hu).1
      have := hc j hj
      rw [add_add] at this
      exact this.trans hu)
    obtain ⟨l, hl, hlR⟩ := list_of_range3 R len
    have hall : ∀ x ∈ l, InsB4 x := by
      intro x hx
      obtain ⟨j, hj, rfl⟩ := List.mem_iff_getElem.1 hx
      have h1 := hlR j (by omega)
      rw [List.getElem?_eq_getElem hj] at h1
      rw [Option.some.inj h1]
      exact (hR j (by omega)).1
    refine ⟨l, ⟨some a, cap, by rw [hl], ?_⟩, hall⟩
    by_cases h0 : len = 0
    · left
      exact List.eq_nil_of_length_eq_zero (by rw [hl, h0])
    · right
      obtain ⟨b, off, spot⟩ := a
      have hc0 := (hR 0 (by omega)).2 0 _ rfl
      have hs : spot = none := by
        cases spot with
        | none => rfl
        | some q =>
          simp only [World.cell?, Addr.add] at hc0
          split at hc0 <;> simp at hc0
      subst hs
      refine ⟨b, off, rfl, ?_, fun j x hj i u hu => ?_⟩
      · simp only [World.cell?, Addr.add] at hc0
        split at hc0
        · rename_i hb
          exact (Array.getElem?_eq_some_iff.1 hb).1
        · cases hc0
      · have hjl : j < len := by rw [← hl]; exact (List.getElem?_eq_some_iff.1 hj).1
        have h1 := hlR j hjl
        rw [hj] at h1
        rw [Option.some.inj h1] at hu
        have := (hR j hjl).2 i u hu
        rw [Addr.add_lit, ← Nat.add_assoc] at this
        exact this
theorem open_lines {v : Value} {d : DataW H} {p : List MemPlace} (h : DataW.Trod enc Tryz.prog w base spare held 35 v d p) (hn : ∀ cs, v ≠ .agg cs) : ∃ ws : List ByteArray, StrsV w v ws := by
  obtain ⟨fuel, hf⟩ := h
  have hv : v.cells.toList = [v] := by
    cases v <;> first | rfl | exact absurd rfl (hn _)
  rw [hv] at hf
  rcases open_strs Tryz.underlying35 Tryz.underlying9 (by kernel_rfl) hf with ⟨h1, _⟩ | ⟨a, len, cap, m, Sx, h1, _, _, _, hm, _, hx⟩
  · obtain rfl : v = .slice none 0 0 := by simpa using h1
    exact ⟨[], none, 0, rfl, .inl rfl⟩
  · obtain rfl : v = .slice (some a) len cap := by simpa using h1
    have hlm : len ≤ m := by rw [hm]; split <;> omega
    refine ⟨(List.range len).map Sx, some a, cap, by simp, ?_⟩
    by_cases h0 : len = 0
    · left
      rw [h0]
      rfl
    · right
      obtain ⟨b, off, spot⟩ := a
      have hc0 := (hx 0 (by omega)).1
      have hs : spot = none := by
        cases spot with
        | none => rfl
        | some q =>
          simp only [World.cell?, Addr.add] at hc0
          split at hc0 <;> simp at hc0
      subst hs
      have hc1 : w.cell? ⟨b, off + 0, none⟩ = some (.string (Sx 0)) := hc0
      refine ⟨b, off, rfl, World.block_lt_of_cell? _ _ hc1, fun j s hs => ?_⟩
      have hj : j < len := by
        have := (List.getElem?_eq_some_iff.1 hs).1
        simpa using this
      have e : s = Sx j := by
        simp [hj] at hs
        exact hs.symm
      rw [e]
      have := (hx j (by omega)).1
      rw [Addr.add_lit] at this
      exact this
end
end Go.Proofs.YtokehnclakedeaaGreatDoor
