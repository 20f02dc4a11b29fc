/- Where the blank of an action's text lies: plain facts. -/
import Derived.Test.YtkgmbogmeppmcaaDoorActWordsP
namespace Go.Proofs.YtkgmbogmeppmcaaDoor
open Go Go.Proofs Go.RowKit

theorem dec_noblank (n : Nat) : ∀ b ∈ Lib.decDigits n, b ≠ 32 := by
  intro b hb e
  have h : (Lib.decFrom 0 (Lib.decDigits n)).isSome = true := by rw [decFrom_dec]; rfl
  have := decFrom_some h b hb
  rw [e] at this
  exact absurd this (by decide)
theorem word_noblank (k : Int) : ∀ b ∈ (actWord k).data.toList, b ≠ 32 := by
  unfold actWord
  repeat' split
  all_goals decide
/-- A text's bytes: the word's, then, of a kind with a number, a blank and its digits. -/
theorem text_blank {k : Int} {n j : Nat} {b : UInt8} (h : (actText k n).data.toList[j]? = some b) : b = 32 ↔ ((k = 4 ∨ k = 6) ∧ j = (actWord k).size) := by
  rw [text_list] at h
  have hl : (actWord k).data.toList.length = (actWord k).size := Array.length_toList
  by_cases hj : j < (actWord k).size
  · rw [List.getElem?_append_left (by rw [hl]; exact hj)] at h
    have hm := word_noblank k b (List.mem_of_getElem? h)
    exact ⟨fun e => absurd e hm, fun e => by omega⟩
  · rw [List.getElem?_append_right (by rw [hl]; omega), hl] at h
    split at h
    · rename_i hk
      by_cases e : j = (actWord k).size
      · subst e
        rw [Nat.sub_self] at h
        simp only [List.getElem?_cons_zero, Option.some.injEq] at h
        exact ⟨fun _ => ⟨hk, rfl⟩, fun _ => h.symm⟩
      · obtain ⟨i, hi⟩ : ∃ i, j - (actWord k).size = i + 1 := ⟨j - (actWord k).size - 1, by omega⟩
        rw [hi, List.getElem?_cons_succ] at h
        have hm := dec_noblank n b (List.mem_of_getElem? h)
        exact ⟨fun e' => absurd e' hm, fun e' => absurd e'.2 e⟩
    · simp at h
theorem text_cut {k : Int} (n : Nat) (hk : k = 4 ∨ k = 6) : (actText k n).extract 0 (actWord k).size = actWord k ∧ (actText k n).extract ((actWord k).size + 1) (actText k n).size = decS n := by
  have hl : (actWord k).data.toList.length = (actWord k).size := Array.length_toList
  have ht : (actText k n).data.toList = (actWord k).data.toList ++ 32 :: Lib.decDigits n := by rw [text_list, if_pos hk]
  have hs : (actText k n).size = (actWord k).size + 1 + (Lib.decDigits n).length := by
    have := congrArg List.length ht
    rw [Array.length_toList] at this
    have e : (actText k n).data.size = (actText k n).size := rfl
    rw [e] at this
    rw [this]
    simp [hl]
    omega
  constructor
  · apply ByteArray.ext
    apply Array.toList_inj.1
    rw [ByteArray.data_extract, Array.toList_extract, ht]
    simp [List.extract, hl]
  · apply ByteArray.ext
    apply Array.toList_inj.1
    rw [ByteArray.data_extract, Array.toList_extract, ht, hs]
    simp [List.extract, decS]
    rw [show (actWord k).size + 1 = (actWord k).data.toList.length + 1 by rw [hl], List.drop_append, List.drop_eq_nil_of_le (by omega)]
    simp
end Go.Proofs.YtkgmbogmeppmcaaDoor
