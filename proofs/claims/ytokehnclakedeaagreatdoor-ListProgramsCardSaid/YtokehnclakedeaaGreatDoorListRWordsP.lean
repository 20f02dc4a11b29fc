/- The document's words (strainerref03), step by step: plain facts. -/
import Derived.Test.YtokehnclakedeaaGreatDoorListRDig
namespace Go.Proofs.YtokehnclakedeaaGreatDoor
open Go Go.Proofs Go.RowKit

/-- What is still to be read from a place, with the words so far. -/
def wordsAt (s : ByteArray) (i : Nat) (ws : List ByteArray) : List ByteArray := wordsGo (noteCut (s.data.toList.drop i)) [] ws
theorem noteCut_cons {c : UInt8} (h : c ≠ 59) (r : List UInt8) : noteCut (c :: r) = c :: noteCut r := by
  unfold noteCut
  conv => lhs; unfold cutV
  rw [if_neg h]
theorem noteCut_stop (r : List UInt8) : noteCut (59 :: r) = [] := by
  unfold noteCut
  conv => lhs; unfold cutV
  rw [if_pos rfl]
theorem drop_at {s : ByteArray} {i : Nat} (h : i < s.size) : s.data.toList.drop i = s[i]'h :: s.data.toList.drop (i + 1) := by
  rw [List.drop_eq_getElem_cons (by rw [listSize]; exact h)]
  rfl
theorem wordsAt_blank {s : ByteArray} {i : Nat} (h : i < s.size) (hb : blkB (s[i]'h) = true) (ws : List ByteArray) : wordsAt s i ws = wordsAt s (i + 1) ws := by
  have hn : s[i]'h ≠ 59 := by
    intro e
    rw [e] at hb
    revert hb
    decide
  unfold wordsAt
  rw [drop_at h, noteCut_cons hn]
  show (if blkB (s[i]'h) then wordsGo _ [] (flush [] ws) else _) = _
  rw [hb, if_pos rfl]
  rfl
theorem wordsAt_end {s : ByteArray} {i : Nat} (h : ∀ hi : i < s.size, s[i]'hi = 59) (ws : List ByteArray) : wordsAt s i ws = ws := by
  unfold wordsAt
  by_cases hi : i < s.size
  · rw [drop_at hi, h hi, noteCut_stop]
    rfl
  · rw [List.drop_eq_nil_of_le (by rw [listSize]; omega)]
    rfl
theorem wordsGo_flush (l w : List UInt8) (ws : List ByteArray) (hw : w ≠ []) (hl : ∀ c r, l = c :: r → blkB c = true) : wordsGo l w ws = wordsGo l [] (ws ++ [⟨w.toArray⟩]) := by
  cases l with
  | nil =>
    show flush w ws = flush [] (ws ++ [⟨w.toArray⟩])
    unfold flush
    rw [if_neg hw, if_pos rfl]
  | cons c r =>
    show (if blkB c then wordsGo r [] (flush w ws) else _) = (if blkB c then wordsGo r [] (flush [] (ws ++ [⟨w.toArray⟩])) else _)
    rw [hl c r rfl, if_pos rfl, if_pos rfl]
    unfold flush
    rw [if_neg hw, if_pos rfl]
theorem wordsAt_run (s : ByteArray) : ∀ (n i : Nat) (w : List UInt8) (ws : List ByteArray), i + n ≤ s.size → (∀ k (hk : k < s.size), i ≤ k → k < i + n → wB (s[k]'hk) = true) →
    wordsGo (noteCut (s.data.toList.drop i)) w ws = wordsGo (noteCut (s.data.toList.drop (i + n))) (w ++ (s.data.toList.take (i + n)).drop i) ws
  | 0, i, w, ws, h, _ => by
    rw [Nat.add_zero, show (s.data.toList.take i).drop i = [] from List.drop_eq_nil_of_le (by rw [List.length_take]; omega), List.append_nil]
  | n + 1, i, w, ws, h, hk => by
    have hi : i < s.size := by omega
    have hwb := hk i hi (Nat.le_refl _) (by omega)
    rw [drop_at hi, noteCut_cons (wB_note hwb)]
    show (if blkB (s[i]'hi) then _ else wordsGo (noteCut (s.data.toList.drop (i + 1))) (w ++ [s[i]'hi]) ws) = _
    rw [wB_blk hwb, if_neg (by decide), wordsAt_run s n (i + 1) _ ws (by omega) (fun k hk' h1 h2 => hk k hk' (by omega) (by omega)), show i + 1 + n = i + (n + 1) by omega, List.append_assoc]
    congr 2
    rw [List.drop_eq_getElem_cons (l := s.data.toList.take (i + (n + 1))) (i := i) (by rw [List.length_take, listSize]; omega), List.getElem_take]
    rfl
/-- A word is read. -/
theorem wordsAt_word (s : ByteArray) (i j : Nat) (hij : i < j) (hj : j ≤ s.size) (h : ∀ k (hk : k < s.size), i ≤ k → k < j → wB (s[k]'hk) = true) (he : ∀ hk : j < s.size, wB (s[j]'hk) = false) (ws : List ByteArray) :
    wordsAt s i ws = wordsAt s j (ws ++ [s.extract i j]) := by
  unfold wordsAt
  have h1 := wordsAt_run s (j - i) i [] ws (by omega) (fun k hk a b => h k hk a (by omega))
  rw [show i + (j - i) = j by omega, List.nil_append] at h1
  rw [h1, wordsGo_flush, extract_word]
  · intro e
    have := congrArg List.length e
    rw [List.length_drop, List.length_take, listSize] at this
    simp at this
    omega
  · intro c r hc
    by_cases hlt : j < s.size
    · by_cases h59 : s[j]'hlt = 59
      · rw [drop_at hlt, h59, noteCut_stop] at hc
        cases hc
      · rw [drop_at hlt, noteCut_cons h59] at hc
        rw [← (List.cons.inj hc).1]
        have := he hlt
        unfold wB at this
        unfold blkB
        have h59' : (s[j]'hlt == 59) = false := by simpa using h59
        rw [h59', Bool.or_false, Bool.not_eq_false'] at this
        exact this
    · rw [List.drop_eq_nil_of_le (by rw [listSize]; omega)] at hc
      cases hc
end Go.Proofs.YtokehnclakedeaaGreatDoor
