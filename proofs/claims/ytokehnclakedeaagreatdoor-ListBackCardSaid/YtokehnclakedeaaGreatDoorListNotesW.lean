/- strainerlaw03.ListNotes: the walk. -/
import Derived.Test.YtokehnclakedeaaGreatDoorListWsP
import Derived.Test.YtokehnclakedeaaGreatDoorListApartW
import Derived.Deep.LoopGhost
namespace Go.Proofs.YtokehnclakedeaaGreatDoor
open Go Go.Proofs Go.RowKit

def gapB : List UInt8 := [13, 32, 32]
def gapOf (c : UInt8) : List UInt8 := if c = 32 then gapB else [c]
def gapped (l : List UInt8) : List UInt8 := l.flatMap gapOf
theorem gapped_take (l : List UInt8) (i : Nat) (c : UInt8) (h : l[i]? = some c) : gapped (l.take (i + 1)) = gapped (l.take i) ++ gapOf c := by
  unfold gapped
  rw [List.take_add_one, h, List.flatMap_append]
  simp
theorem gapped_len : ∀ l : List UInt8, (gapped l).length ≤ 4 * l.length
  | [] => by simp [gapped]
  | c :: r => by
    have := gapped_len r
    unfold gapped at *
    rw [List.flatMap_cons, List.length_append, List.length_cons]
    have h : (gapOf c).length ≤ 4 := by unfold gapOf gapB; split <;> simp
    omega
theorem gapped_app (a b : List UInt8) : gapped (a ++ b) = gapped a ++ gapped b := by unfold gapped; rw [List.flatMap_append]
theorem gapped_word : ∀ x : List UInt8, (∀ b ∈ x, wB b = true) → gapped x = x
  | [], _ => rfl
  | b :: x, h => by
    have hb : b ≠ 32 := by
      rintro rfl
      have := h 32 (by simp)
      revert this
      decide
    have := gapped_word x (fun c hc => h c (by simp [hc]))
    unfold gapped at *
    rw [List.flatMap_cons, this]
    unfold gapOf
    rw [if_neg hb]
    rfl
theorem gapped_join : ∀ xs : List (List UInt8), (∀ x ∈ xs, ∀ b ∈ x, wB b = true) → gapped (gapJ [32] xs) = gapJ gapB xs
  | [], _ => rfl
  | [x], h => gapped_word x (h x (by simp))
  | x :: y :: r, h => by
    have := gapped_join (y :: r) (fun z hz => h z (by simp [List.mem_cons.1 hz]))
    show gapped (x ++ ([32] ++ gapJ [32] (y :: r))) = x ++ (gapB ++ gapJ gapB (y :: r))
    rw [gapped_app, gapped_app, this, gapped_word x (h x (by simp))]
    rfl
theorem lineS_list (c jt jf k : Nat) : (lineS c jt jf k).data.toList = gapJ [32] ((lineWs c jt jf k).map (·.data.toList)) := by
  rw [← join_gap]
  rfl
theorem noted_ans (c jt jf k : Nat) (h : InsB c jt jf k) (s : ByteArray) (note : List UInt8) (hs : s.data.toList = [32, 9] ++ gapped (lineS c jt jf k).data.toList ++ 9 :: 59 :: note) : listAns s.data.toList = ((c, jt, jf, k), 0) := by
  have hw : ∀ x ∈ (lineWs c jt jf k).map (·.data.toList), ∀ b ∈ x, wB b = true := by
    intro x hx
    obtain ⟨y, hy, rfl⟩ := List.mem_map.1 hx
    exact (lineWs_wB c jt jf k y hy).2
  rw [lineS_list, gapped_join _ hw] at hs
  have e : s.data.toList = ([32, 9] ++ (gapJ gapB ((lineWs c jt jf k).map (·.data.toList)) ++ [9])) ++ 59 :: note := by rw [hs]; simp
  unfold listAns lineWords
  rw [e, noteCut_at]
  · rw [wordsGo_blanks [32, 9] _ [] (by decide), wordsGo_gapJ gapB (by decide) (by decide) [9] (by decide) _ [] (lineWs_wB c jt jf k)]
    exact list_back c jt jf k h.1 h.2.1 h.2.2.1 h.2.2.2
  · intro b hb
    rcases List.mem_append.1 hb with hb | hb
    · exact (by decide : ∀ b ∈ [(32 : UInt8), 9], b ≠ 59) b hb
    · rcases List.mem_append.1 hb with hb | hb
      · exact lineWs_note c jt jf k gapB (by decide) b hb
      · exact (by decide : ∀ b ∈ [(9 : UInt8)], b ≠ 59) b hb
theorem note_ans (s : ByteArray) (note : List UInt8) (hs : s.data.toList = 32 :: 59 :: note) : listAns s.data.toList = ((0, 0, 0, 0), 4) := by
  unfold listAns lineWords
  rw [hs, show (32 :: 59 :: note : List UInt8) = [32] ++ 59 :: note from rfl, noteCut_at [32] note (by decide)]
  rfl
theorem sizeL (s : ByteArray) : s.data.toList.length = s.size := Array.length_toList
theorem lineWs_small (c jt jf k : Nat) (h : InsB c jt jf k) : (∀ x ∈ lineWs c jt jf k, x.size ≤ 23) ∧ (lineWs c jt jf k).length ≤ 5 := by
  have h1 := decS_le c (Nat.lt_trans h.1 (by decide))
  have h2 := decS_le jt (Nat.lt_trans h.2.1 (by decide))
  have h3 := decS_le jf (Nat.lt_trans h.2.2.1 (by decide))
  have h4 := decS_le k h.2.2.2
  rcases lineWs_cases c jt jf k with ⟨f, hf, rfl, ho, e⟩ | e <;> rw [e]
  · obtain ⟨f1, _, f3⟩ := forms_ok f hf
    have h5 := written_size f.other (decS k) f1 h4
    constructor
    · intro s hs
      have hx : s = f.word ∨ s = writtenF f.other (decS k) ∨ s = decS jt ∨ s = decS jf := by
        unfold formWs w1 at hs
        split at hs <;> split at hs <;> simp at hs <;> first | (rcases hs with h | h | h | h <;> simp [h]) | (rcases hs with h | h | h <;> simp [h]) | (rcases hs with h | h <;> simp [h]) | simp [hs]
      rcases hx with rfl | rfl | rfl | rfl <;> omega
    · unfold formWs w1
      split <;> split <;> simp
  · constructor
    · intro s hs
      simp only [rawWs, List.mem_cons, List.not_mem_nil, or_false] at hs
      rcases hs with rfl | rfl | rfl | rfl | rfl
      · decide +kernel
      · omega
      · omega
      · omega
      · omega
    · simp [rawWs]
theorem lineS_size (c jt jf k : Nat) (h : InsB c jt jf k) : (lineS c jt jf k).size ≤ 1000 := by
  obtain ⟨h1, h2⟩ := lineWs_small c jt jf k h
  have h3 := join_bound _ h1
  have e : (lineS c jt jf k).size = (Lib.join ((lineWs c jt jf k).map (·.data.toList)) [32]).length := by
    rw [← sizeL]
    rfl
  omega
theorem list_app (a b : ByteArray) : (a ++ b).data.toList = a.data.toList ++ b.data.toList := by simp

end Go.Proofs.YtokehnclakedeaaGreatDoor
