/- systab.Number: what it answers. -/
import Derived.Test.YtakmbmlpgmppiaaDoorSysBs
namespace Go.Proofs.YtakmbmlpgmppiaaDoor
open Go Go.Proofs Go.RowKit

/-- A row's number of an ABI. -/
def SRow.num (r : SRow) (a : Nat) : Int := match a with
  | 0 => r.n0 | 1 => r.n1 | 2 => r.n2 | 3 => r.n3 | _ => r.n4
/-- A row's number, or pseudo-number. -/
def numOf (l : List SRow) (a i : Nat) : Int := if (l[i]!).num a = -1 then -1 - (i : Int) else (l[i]!).num a
def NumPost (t : ByteArray) (l : List SRow) (a : Nat) (w : World) (e : Ending) (w' : World) : Prop :=
  ∃ i : Nat, BsAns t l i ∧ Below w.heap.size w w' ∧
    ((bsHit t l i = true ∧ e = .returned (.tuple #[.int .i64 (numOf l a i), .int .i64 0])) ∨ (bsHit t l i = false ∧ e = .returned (.tuple #[.int .i64 0, .int .i64 14])))
theorem bsHit_lt {t : ByteArray} {l : List SRow} {i : Nat} (h : bsHit t l i = true) : i < l.length := by
  unfold bsHit at h
  simp at h
  exact h.1

set_option maxRecDepth 100000 in
set_option maxHeartbeats 1000000 in
theorem number_0 (t : ByteArray) (sv : Value) (l : List SRow) (w : World) (hbig : l.length ≤ 1000000) (hR : RowsV w sv l)
    (hmono : ∀ x y, x ≤ y → y < l.length → cmpR t l[y]! < 0 → cmpR t l[x]! < 0) :
    Calls Tryd.prog 17 #[sv, .int .i64 0, .string t] w (NumPost t l 0 w) := by
  have Hf := Lib.hid (find_any t sv l w hbig hR hmono)
  clear hR hmono
  go_enter Tryd.func17, Tryd.ntmps17
  go_wp2_with fail
  refine Hf.out.mono ?_
  rintro e w1 ⟨i, hA, hb1, ⟨hq, rfl⟩ | ⟨hq, rfl⟩⟩
  · have hil := bsHit_lt hq
    have Hq := Lib.hid hq
    have HA := Lib.hid hA
    clear hq hA
    have hnum : numOf l 0 i = if (l[i]!).n0 = -1 then -1 - (i : Int) else (l[i]!).n0 := rfl
    generalize l[i]! = y at hnum ⊢
    unfold SRow.val
    obtain ⟨nm, a0, a1, a2, a3, a4, mx, sb⟩ := y
    dsimp only at hnum ⊢
    by_cases h1 : a0 = -1
    · subst h1
      rw [if_pos rfl] at hnum
      have Hn := Lib.hid hnum
      clear hnum
      go_wp2
      go_ret2
      exact ⟨i, HA.out, hb1.alloc hb1.size _, .inl ⟨Hq.out, by rw [Hn.out]; rfl⟩⟩
    · rw [if_neg h1] at hnum
      have h1' : (a0 != -1) = true := by simpa using h1
      have Hn := Lib.hid hnum
      clear hnum
      go_wp2
      go_ret2
      exact ⟨i, HA.out, hb1.alloc hb1.size _, .inl ⟨Hq.out, by rw [Hn.out]; rfl⟩⟩
  · have Hq := Lib.hid hq
    have HA := Lib.hid hA
    clear hq hA
    unfold SRow.val SRow.zero
    dsimp only
    go_wp2
    go_ret2
    exact ⟨i, HA.out, hb1.alloc hb1.size _, .inr ⟨Hq.out, rfl⟩⟩

set_option maxRecDepth 100000 in
set_option maxHeartbeats 1000000 in
theorem number_1 (t : ByteArray) (sv : Value) (l : List SRow) (w : World) (hbig : l.length ≤ 1000000) (hR : RowsV w sv l)
    (hmono : ∀ x y, x ≤ y → y < l.length → cmpR t l[y]! < 0 → cmpR t l[x]! < 0) :
    Calls Tryd.prog 17 #[sv, .int .i64 1, .string t] w (NumPost t l 1 w) := by
  have Hf := Lib.hid (find_any t sv l w hbig hR hmono)
  clear hR hmono
  go_enter Tryd.func17, Tryd.ntmps17
  go_wp2_with fail
  refine Hf.out.mono ?_
  rintro e w1 ⟨i, hA, hb1, ⟨hq, rfl⟩ | ⟨hq, rfl⟩⟩
  · have hil := bsHit_lt hq
    have Hq := Lib.hid hq
    have HA := Lib.hid hA
    clear hq hA
    have hnum : numOf l 1 i = if (l[i]!).n1 = -1 then -1 - (i : Int) else (l[i]!).n1 := rfl
    generalize l[i]! = y at hnum ⊢
    unfold SRow.val
    obtain ⟨nm, a0, a1, a2, a3, a4, mx, sb⟩ := y
    dsimp only at hnum ⊢
    by_cases h1 : a1 = -1
    · subst h1
      rw [if_pos rfl] at hnum
      have Hn := Lib.hid hnum
      clear hnum
      go_wp2
      go_ret2
      exact ⟨i, HA.out, hb1.alloc hb1.size _, .inl ⟨Hq.out, by rw [Hn.out]; rfl⟩⟩
    · rw [if_neg h1] at hnum
      have h1' : (a1 != -1) = true := by simpa using h1
      have Hn := Lib.hid hnum
      clear hnum
      go_wp2
      go_ret2
      exact ⟨i, HA.out, hb1.alloc hb1.size _, .inl ⟨Hq.out, by rw [Hn.out]; rfl⟩⟩
  · have Hq := Lib.hid hq
    have HA := Lib.hid hA
    clear hq hA
    unfold SRow.val SRow.zero
    dsimp only
    go_wp2
    go_ret2
    exact ⟨i, HA.out, hb1.alloc hb1.size _, .inr ⟨Hq.out, rfl⟩⟩

set_option maxRecDepth 100000 in
set_option maxHeartbeats 1000000 in
theorem number_2 (t : ByteArray) (sv : Value) (l : List SRow) (w : World) (hbig : l.length ≤ 1000000) (hR : RowsV w sv l)
    (hmono : ∀ x y, x ≤ y → y < l.length → cmpR t l[y]! < 0 → cmpR t l[x]! < 0) :
    Calls Tryd.prog 17 #[sv, .int .i64 2, .string t] w (NumPost t l 2 w) := by
  have Hf := Lib.hid (find_any t sv l w hbig hR hmono)
  clear hR hmono
  go_enter Tryd.func17, Tryd.ntmps17
  go_wp2_with fail
  refine Hf.out.mono ?_
  rintro e w1 ⟨i, hA, hb1, ⟨hq, rfl⟩ | ⟨hq, rfl⟩⟩
  · have hil := bsHit_lt hq
    have Hq := Lib.hid hq
    have HA := Lib.hid hA
    clear hq hA
    have hnum : numOf l 2 i = if (l[i]!).n2 = -1 then -1 - (i : Int) else (l[i]!).n2 := rfl
    generalize l[i]! = y at hnum ⊢
    unfold SRow.val
    obtain ⟨nm, a0, a1, a2, a3, a4, mx, sb⟩ := y
    dsimp only at hnum ⊢
    by_cases h1 : a2 = -1
    · subst h1
      rw [if_pos rfl] at hnum
      have Hn := Lib.hid hnum
      clear hnum
      go_wp2
      go_ret2
      exact ⟨i, HA.out, hb1.alloc hb1.size _, .inl ⟨Hq.out, by rw [Hn.out]; rfl⟩⟩
    · rw [if_neg h1] at hnum
      have h1' : (a2 != -1) = true := by simpa using h1
      have Hn := Lib.hid hnum
      clear hnum
      go_wp2
      go_ret2
      exact ⟨i, HA.out, hb1.alloc hb1.size _, .inl ⟨Hq.out, by rw [Hn.out]; rfl⟩⟩
  · have Hq := Lib.hid hq
    have HA := Lib.hid hA
    clear hq hA
    unfold SRow.val SRow.zero
    dsimp only
    go_wp2
    go_ret2
    exact ⟨i, HA.out, hb1.alloc hb1.size _, .inr ⟨Hq.out, rfl⟩⟩

set_option maxRecDepth 100000 in
set_option maxHeartbeats 1000000 in
theorem number_3 (t : ByteArray) (sv : Value) (l : List SRow) (w : World) (hbig : l.length ≤ 1000000) (hR : RowsV w sv l)
    (hmono : ∀ x y, x ≤ y → y < l.length → cmpR t l[y]! < 0 → cmpR t l[x]! < 0) :
    Calls Tryd.prog 17 #[sv, .int .i64 3, .string t] w (NumPost t l 3 w) := by
  have Hf := Lib.hid (find_any t sv l w hbig hR hmono)
  clear hR hmono
  go_enter Tryd.func17, Tryd.ntmps17
  go_wp2_with fail
  refine Hf.out.mono ?_
  rintro e w1 ⟨i, hA, hb1, ⟨hq, rfl⟩ | ⟨hq, rfl⟩⟩
  · have hil := bsHit_lt hq
    have Hq := Lib.hid hq
    have HA := Lib.hid hA
    clear hq hA
    have hnum : numOf l 3 i = if (l[i]!).n3 = -1 then -1 - (i : Int) else (l[i]!).n3 := rfl
    generalize l[i]! = y at hnum ⊢
    unfold SRow.val
    obtain ⟨nm, a0, a1, a2, a3, a4, mx, sb⟩ := y
    dsimp only at hnum ⊢
    by_cases h1 : a3 = -1
    · subst h1
      rw [if_pos rfl] at hnum
      have Hn := Lib.hid hnum
      clear hnum
      go_wp2
      go_ret2
      exact ⟨i, HA.out, hb1.alloc hb1.size _, .inl ⟨Hq.out, by rw [Hn.out]; rfl⟩⟩
    · rw [if_neg h1] at hnum
      have h1' : (a3 != -1) = true := by simpa using h1
      have Hn := Lib.hid hnum
      clear hnum
      go_wp2
      go_ret2
      exact ⟨i, HA.out, hb1.alloc hb1.size _, .inl ⟨Hq.out, by rw [Hn.out]; rfl⟩⟩
  · have Hq := Lib.hid hq
    have HA := Lib.hid hA
    clear hq hA
    unfold SRow.val SRow.zero
    dsimp only
    go_wp2
    go_ret2
    exact ⟨i, HA.out, hb1.alloc hb1.size _, .inr ⟨Hq.out, rfl⟩⟩

set_option maxRecDepth 100000 in
set_option maxHeartbeats 1000000 in
theorem number_4 (t : ByteArray) (sv : Value) (l : List SRow) (w : World) (hbig : l.length ≤ 1000000) (hR : RowsV w sv l)
    (hmono : ∀ x y, x ≤ y → y < l.length → cmpR t l[y]! < 0 → cmpR t l[x]! < 0) :
    Calls Tryd.prog 17 #[sv, .int .i64 4, .string t] w (NumPost t l 4 w) := by
  have Hf := Lib.hid (find_any t sv l w hbig hR hmono)
  clear hR hmono
  go_enter Tryd.func17, Tryd.ntmps17
  go_wp2_with fail
  refine Hf.out.mono ?_
  rintro e w1 ⟨i, hA, hb1, ⟨hq, rfl⟩ | ⟨hq, rfl⟩⟩
  · have hil := bsHit_lt hq
    have Hq := Lib.hid hq
    have HA := Lib.hid hA
    clear hq hA
    have hnum : numOf l 4 i = if (l[i]!).n4 = -1 then -1 - (i : Int) else (l[i]!).n4 := rfl
    generalize l[i]! = y at hnum ⊢
    unfold SRow.val
    obtain ⟨nm, a0, a1, a2, a3, a4, mx, sb⟩ := y
    dsimp only at hnum ⊢
    by_cases h1 : a4 = -1
    · subst h1
      rw [if_pos rfl] at hnum
      have Hn := Lib.hid hnum
      clear hnum
      go_wp2
      go_ret2
      exact ⟨i, HA.out, hb1.alloc hb1.size _, .inl ⟨Hq.out, by rw [Hn.out]; rfl⟩⟩
    · rw [if_neg h1] at hnum
      have h1' : (a4 != -1) = true := by simpa using h1
      have Hn := Lib.hid hnum
      clear hnum
      go_wp2
      go_ret2
      exact ⟨i, HA.out, hb1.alloc hb1.size _, .inl ⟨Hq.out, by rw [Hn.out]; rfl⟩⟩
  · have Hq := Lib.hid hq
    have HA := Lib.hid hA
    clear hq hA
    unfold SRow.val SRow.zero
    dsimp only
    go_wp2
    go_ret2
    exact ⟨i, HA.out, hb1.alloc hb1.size _, .inr ⟨Hq.out, rfl⟩⟩

/-- Outside the ABIs there is no number. -/
theorem number_out (t : ByteArray) (sv : Value) (a : Int) (ha : a < 0 ∨ 5 ≤ a) (w : World) :
    Calls Tryd.prog 17 #[sv, .int .i64 a, .string t] w fun e w' => e = .returned (.tuple #[.int .i64 0, .int .i64 16]) ∧ w = w' := by
  rcases ha with h | h
  · go_enter Tryd.func17, Tryd.ntmps17
    go_wp2
    go_ret2
    exact ⟨rfl, rfl⟩
  · have h0 : ¬ a < 0 := by omega
    go_enter Tryd.func17, Tryd.ntmps17
    go_wp2
    go_ret2
    exact ⟨rfl, rfl⟩

theorem number_any (t : ByteArray) (sv : Value) (l : List SRow) (a : Nat) (ha : a < 5) (w : World) (hbig : l.length ≤ 1000000) (hR : RowsV w sv l)
    (hmono : ∀ x y, x ≤ y → y < l.length → cmpR t l[y]! < 0 → cmpR t l[x]! < 0) :
    Calls Tryd.prog 17 #[sv, .int .i64 a, .string t] w (NumPost t l a w) := by
  rcases a with _ | _ | _ | _ | _ | a
  · exact number_0 t sv l w hbig hR hmono
  · exact number_1 t sv l w hbig hR hmono
  · exact number_2 t sv l w hbig hR hmono
  · exact number_3 t sv l w hbig hR hmono
  · exact number_4 t sv l w hbig hR hmono
  · omega
end Go.Proofs.YtakmbmlpgmppiaaDoor
