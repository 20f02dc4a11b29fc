/- A text cut at its blanks: plain facts. -/
import Derived.Lib.SmallJoins
import Derived.Shelf.Strings.OnBuilder
namespace Go.Proofs.YtokehnclakedeaaGreatDoor
open Go Go.Proofs Go.RowKit

/-- A byte more: the words that are cut off, and the bytes behind the last blank. -/
def cutStep (p : List (List UInt8) × List UInt8) (b : UInt8) : List (List UInt8) × List UInt8 := if b = 32 then (p.1 ++ [p.2], []) else (p.1, p.2 ++ [b])
def cutF (l : List UInt8) : List (List UInt8) × List UInt8 := l.foldl cutStep ([], [])
theorem cutF_snoc (l : List UInt8) (b : UInt8) : cutF (l ++ [b]) = cutStep (cutF l) b := by unfold cutF; rw [List.foldl_append]; rfl
theorem cutF_blank (l : List UInt8) : cutF (l ++ [32]) = ((cutF l).1 ++ [(cutF l).2], []) := by rw [cutF_snoc]; rfl
theorem cutF_other (l : List UInt8) {b : UInt8} (h : b ≠ 32) : cutF (l ++ [b]) = ((cutF l).1, (cutF l).2 ++ [b]) := by rw [cutF_snoc]; unfold cutStep; rw [if_neg h]
theorem cutF_suffix (l : List UInt8) : ∃ p, l = p ++ (cutF l).2 ∧ p.length = l.length - (cutF l).2.length := by
  suffices h : ∃ p, l = p ++ (cutF l).2 by
    obtain ⟨p, hp⟩ := h
    refine ⟨p, hp, ?_⟩
    have := congrArg List.length hp
    rw [List.length_append] at this
    omega
  induction hn : l.length generalizing l with
  | zero => obtain rfl := List.eq_nil_of_length_eq_zero hn; exact ⟨[], rfl⟩
  | succ n ih =>
    obtain ⟨l', b, rfl⟩ : ∃ l' b, l = l' ++ [b] := ⟨l.dropLast, l.getLast (by rintro rfl; simp at hn), (List.dropLast_concat_getLast (by rintro rfl; simp at hn)).symm⟩
    obtain ⟨p, hp⟩ := ih l' (by simp at hn; omega)
    by_cases hb : b = 32
    · subst hb
      exact ⟨l' ++ [32], by rw [cutF_blank]; simp⟩
    · refine ⟨p, ?_⟩
      rw [cutF_other l' hb]
      show l' ++ [b] = p ++ ((cutF l').2 ++ [b])
      rw [← List.append_assoc, ← hp]
theorem cut_word (x : List UInt8) : ∀ (d : List (List UInt8)) (c : List UInt8), (∀ b ∈ x, b ≠ 32) → x.foldl cutStep (d, c) = (d, c ++ x) := by
  induction x with
  | nil => intro d c _; simp
  | cons b x ih =>
    intro d c h
    rw [List.foldl_cons, show cutStep (d, c) b = (d, c ++ [b]) from if_neg (h b (by simp)), ih _ _ (fun y hy => h y (by simp [hy]))]
    simp
theorem cut_join : ∀ (xs : List (List UInt8)) (y : List UInt8) (d : List (List UInt8)), (∀ x ∈ xs ++ [y], ∀ b ∈ x, b ≠ 32) → (Lib.join (xs ++ [y]) [32]).foldl cutStep (d, []) = (d ++ xs, y)
  | [], y, d, h => by
    show (Lib.join [y] [32]).foldl cutStep (d, []) = _
    rw [show Lib.join [y] [32] = y by simp [Lib.join], cut_word y d [] (h y (by simp))]
    simp
  | x :: xs, y, d, h => by
    have e : Lib.join (x :: xs ++ [y]) [32] = x ++ 32 :: Lib.join (xs ++ [y]) [32] := by
      cases xs with
      | nil => simp [Lib.join]
      | cons z zs => simp [Lib.join]
    rw [e, List.foldl_append, cut_word x d [] (h x (by simp)), List.foldl_cons]
    rw [show cutStep (d, [] ++ x) 32 = (d ++ [x], []) by simp [cutStep]]
    rw [cut_join xs y _ (fun z hz => h z (by simp at hz ⊢; exact .inr hz))]
    simp
end Go.Proofs.YtokehnclakedeaaGreatDoor
