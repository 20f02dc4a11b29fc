/- The library's fields at blanks, of any bytes: plain facts. -/
import Derived.Test.YtokehnclakedeaaGreatDoorLexP
namespace Go.Proofs.YtokehnclakedeaaGreatDoor
open Go Go.Proofs

theorem get_at (s : ByteArray) (k : Nat) (h : k < s.size) : s.get! k = s[k]'h := by
  show s.data[k]! = s.data[k]
  rw [getElem!_pos]
theorem decode_wide (s : ByteArray) (pos : Nat) (h : pos < s.size) (hb : 128 ≤ (s[pos]'h).toNat) : 1 ≤ (Utf8.decode s pos).2 ∧ pos + (Utf8.decode s pos).2 ≤ s.size ∧ ∀ j (hj : j < s.size), pos ≤ j → j < pos + (Utf8.decode s pos).2 → 128 ≤ (s[j]'hj).toNat := by
  have hone : 1 ≤ 1 ∧ pos + 1 ≤ s.size ∧ ∀ j (hj : j < s.size), pos ≤ j → j < pos + 1 → 128 ≤ (s[j]'hj).toNat := by
    refine ⟨by omega, by omega, fun j hj h1 h2 => ?_⟩
    obtain rfl : j = pos := by omega
    exact hb
  have cont : ∀ k, (decide (pos + k < s.size) && (s.get! (pos + k)).toNat / 64 == 2) = true → ∃ hk : pos + k < s.size, 128 ≤ (s[pos + k]'hk).toNat := by
    intro k hk
    simp only [Bool.and_eq_true, decide_eq_true_eq, beq_iff_eq] at hk
    refine ⟨hk.1, ?_⟩
    have := hk.2
    rw [get_at s _ hk.1] at this
    omega
  unfold Utf8.decode
  simp only [Nat.add_zero, get_at s pos h]
  rw [if_neg (by omega)]
  split
  · rename_i h2
    simp only [Bool.and_eq_true] at h2
    obtain ⟨k1, g1⟩ := cont 1 (by simpa using h2.2)
    split
    · refine ⟨by show 1 ≤ 2; decide, by show pos + 2 ≤ _; omega, fun j hj h3 h4 => ?_⟩
      have h4 : j < pos + 2 := h4
      have : j = pos ∨ j = pos + 1 := by omega
      rcases this with rfl | rfl
      · exact hb
      · exact g1
    · exact hone
  · split
    · rename_i h2
      simp only [Bool.and_eq_true] at h2
      obtain ⟨k1, g1⟩ := cont 1 (by simpa using h2.1.2)
      obtain ⟨k2, g2⟩ := cont 2 (by simpa using h2.2)
      split
      · refine ⟨by show 1 ≤ 3; decide, by show pos + 3 ≤ _; omega, fun j hj h3 h4 => ?_⟩
        have h4 : j < pos + 3 := h4
        have : j = pos ∨ j = pos + 1 ∨ j = pos + 2 := by omega
        rcases this with rfl | rfl | rfl
        · exact hb
        · exact g1
        · exact g2
      · exact hone
    · split
      · rename_i h2
        simp only [Bool.and_eq_true] at h2
        obtain ⟨k1, g1⟩ := cont 1 (by simpa using h2.1.1.2)
        obtain ⟨k2, g2⟩ := cont 2 (by simpa using h2.1.2)
        obtain ⟨k3, g3⟩ := cont 3 (by simpa using h2.2)
        split
        · refine ⟨by show 1 ≤ 4; decide, by show pos + 4 ≤ _; omega, fun j hj h3 h4 => ?_⟩
          have h4 : j < pos + 4 := h4
          have : j = pos ∨ j = pos + 1 ∨ j = pos + 2 ∨ j = pos + 3 := by omega
          rcases this with rfl | rfl | rfl | rfl
          · exact hb
          · exact g1
          · exact g2
          · exact g3
        · exact hone
      · exact hone
theorem blk_high {c : UInt8} (h : 128 ≤ c.toNat) : blkB c = false := by
  unfold blkB
  simp only [Bool.or_eq_false_iff, beq_eq_false_iff_ne]
  refine ⟨⟨?_, ?_⟩, ?_⟩ <;> intro e <;> rw [e] at h <;> revert h <;> decide
theorem blkR_high {c : Nat} (h : 128 ≤ c) : blkR c = false := by
  unfold blkR
  simp
  omega
/-- A run of bytes that are no blanks goes into the word. -/
theorem wordsGo_run (s : ByteArray) : ∀ (n pos : Nat) (w : List UInt8) (out : List ByteArray), pos + n ≤ s.size → (∀ j (hj : j < s.size), pos ≤ j → j < pos + n → blkB (s[j]'hj) = false) →
    wordsGo (s.data.toList.drop pos) w out = wordsGo (s.data.toList.drop (pos + n)) (w ++ (s.data.toList.take (pos + n)).drop pos) out
  | 0, pos, w, out, h, _ => by
    have hlen : s.data.toList.length = s.size := Array.length_toList
    rw [Nat.add_zero, show (s.data.toList.take pos).drop pos = [] from List.drop_eq_nil_of_le (by rw [List.length_take]; omega), List.append_nil]
  | n + 1, pos, w, out, h, hb => by
    have hlen : s.data.toList.length = s.size := Array.length_toList
    have hlt : pos < s.size := by omega
    have hdrop : s.data.toList.drop pos = s[pos]'hlt :: s.data.toList.drop (pos + 1) := by
      rw [List.drop_eq_getElem_cons (by rw [hlen]; exact hlt)]
      rfl
    have hne := hb pos hlt (Nat.le_refl _) (by omega)
    rw [hdrop]
    show (if blkB (s[pos]'hlt) then wordsGo _ [] (flush w out) else wordsGo (s.data.toList.drop (pos + 1)) (w ++ [s[pos]'hlt]) out) = _
    rw [if_neg (by rw [hne]; decide), wordsGo_run s n (pos + 1) _ out (by omega) (fun j hj h1 h2 => hb j hj (by omega) (by omega))]
    have e : pos + 1 + n = pos + (n + 1) := by omega
    rw [e, List.append_assoc]
    congr 2
    have hd2 : (s.data.toList.take (pos + (n + 1))).drop pos = s[pos]'hlt :: (s.data.toList.take (pos + (n + 1))).drop (pos + 1) := by
      rw [List.drop_eq_getElem_cons (by rw [List.length_take, hlen]; omega)]
      congr 1
      rw [List.getElem_take]
      rfl
    rw [hd2]
    rfl
theorem spans_wordsB (s : ByteArray) : ∀ (f pos : Nat) (st : Option Nat) (acc : List (Nat × Nat)), s.size ≤ pos + f → pos ≤ s.size → (∀ a, st = some a → a < pos) →
    (Lib.closeSpans s (Lib.spansFromP blkR s f pos st acc)).map (fun x => s.extract x.1 x.2) = wordsGo (s.data.toList.drop pos) (wordAt s st pos) (acc.map fun x => s.extract x.1 x.2) := by
  have hlen : s.data.toList.length = s.size := Array.length_toList
  have fl : ∀ (st : Option Nat) (acc : List (Nat × Nat)) (pos : Nat), pos ≤ s.size → (∀ a, st = some a → a < pos) → List.map (fun x : Nat × Nat => s.extract x.1 x.2) (match st with | some a => acc ++ [(a, pos)] | none => acc) = flush (wordAt s st pos) (acc.map fun x => s.extract x.1 x.2) := by
    intro st acc pos hp ha
    unfold flush wordAt
    cases st with
    | none => rw [if_pos rfl]
    | some a =>
      have := ha a rfl
      have hne : ¬ (s.data.toList.take pos).drop a = [] := fun e => by
        have := congrArg List.length e
        simp [hlen] at this
        have e2 : s.data.size = s.size := rfl
        omega
      dsimp only
      rw [if_neg hne, List.map_append]
      simp only [List.map_cons, List.map_nil, extract_word]
  have eend : ∀ (st : Option Nat) (acc : List (Nat × Nat)), (∀ a, st = some a → a < s.size) → (Lib.closeSpans s (acc, st)).map (fun x => s.extract x.1 x.2) = wordsGo (s.data.toList.drop s.size) (wordAt s st s.size) (acc.map fun x => s.extract x.1 x.2) := by
    intro st acc ha
    rw [List.drop_eq_nil_of_le (by rw [hlen]; exact Nat.le_refl _)]
    exact fl st acc s.size (Nat.le_refl _) ha
  intro f
  induction f with
  | zero =>
    intro pos st acc h1 h2 h3
    obtain rfl : pos = s.size := by omega
    exact eend st acc h3
  | succ f ih =>
    intro pos st acc h1 h2 h3
    by_cases hlt : pos < s.size
    · have hq : ∃ c q, Utf8.decode s pos = (c, q) ∧ 1 ≤ q ∧ pos + q ≤ s.size ∧ ((blkB (s[pos]'hlt) = true ∧ q = 1 ∧ blkR c = true) ∨ (blkR c = false ∧ ∀ j (hj : j < s.size), pos ≤ j → j < pos + q → blkB (s[j]'hj) = false)) := by
        by_cases hlow : (s[pos]'hlt).toNat < 128
        · refine ⟨_, _, decode_low s pos hlt hlow, by decide, by omega, ?_⟩
          rw [blkR_byte]
          cases hb : blkB (s[pos]'hlt) with
          | true => exact .inl ⟨rfl, rfl, rfl⟩
          | false =>
            refine .inr ⟨rfl, fun j hj h4 h5 => ?_⟩
            obtain rfl : j = pos := by omega
            exact hb
        · obtain ⟨q1, q2, q3⟩ := decode_wide s pos hlt (by omega)
          exact ⟨_, _, rfl, q1, q2, .inr ⟨blkR_high (decode_high s pos hlt (by omega)), fun j hj h4 h5 => blk_high (q3 j hj h4 h5)⟩⟩
      obtain ⟨c, q, hd, q1, q2, hcase⟩ := hq
      unfold Lib.spansFromP
      rw [if_pos hlt, hd]
      dsimp only
      rcases hcase with ⟨hb, rfl, hr⟩ | ⟨hr, hrun⟩
      · have hdrop : s.data.toList.drop pos = s[pos]'hlt :: s.data.toList.drop (pos + 1) := by
          rw [List.drop_eq_getElem_cons (by rw [hlen]; exact hlt)]
          rfl
        rw [hr, hdrop, if_pos rfl]
        unfold wordsGo
        rw [if_pos hb]
        have := fl st acc pos h2 h3
        rw [← this]
        cases st with
        | none => exact ih (pos + 1) none acc (by omega) (by omega) (fun a e => by cases e)
        | some a => exact ih (pos + 1) none (acc ++ [(a, pos)]) (by omega) (by omega) (fun a e => by cases e)
      · rw [hr, if_neg (by decide), wordsGo_run s q pos _ _ q2 hrun]
        cases st with
        | none =>
          have := ih (pos + q) (some pos) acc (by omega) (by omega) (fun a e => by cases e; omega)
          rw [this]
          rfl
        | some a =>
          have := ih (pos + q) (some a) acc (by omega) (by omega) (fun b e => by cases e; have := h3 a rfl; omega)
          rw [this]
          congr 1
          show (s.data.toList.take (pos + q)).drop a = (s.data.toList.take pos).drop a ++ (s.data.toList.take (pos + q)).drop pos
          have h4 := h3 a rfl
          have e1 : s.data.toList.take pos = (s.data.toList.take (pos + q)).take pos := by rw [List.take_take, Nat.min_eq_left (by omega)]
          rw [e1]
          conv => lhs; rw [← List.take_append_drop pos (s.data.toList.take (pos + q))]
          rw [List.drop_append_of_le_length (by rw [List.length_take, List.length_take, hlen]; omega)]
    · obtain rfl : pos = s.size := by omega
      rw [Lib.spansFromP_end _ _ _ _ _ _ hlt]
      exact eend st acc h3
theorem fields_wordsB (s : ByteArray) : Lib.goFieldsP blkR s = wordsGo s.data.toList [] [] := by
  have := spans_wordsB s s.size 0 none [] (by omega) (by omega) (fun a e => by cases e)
  exact this
end Go.Proofs.YtokehnclakedeaaGreatDoor
