/- An argument's name as the document reads it: plain facts of argOf. -/
import Derived.Test.YtlmobmbglninkaaDoorCondNum
namespace Go.Proofs.YtlmobmbglninkaaDoor
open Go Go.Proofs

theorem argOf_short {l : List UInt8} (h : l.length < 2 ∨ l.head? ≠ some 97) : argOf l = (0, 13) := by
  unfold argOf
  rw [if_pos]
  match l, h with
  | [], _ => exact .inl rfl
  | x :: r, h =>
    by_cases hx : x = 97
    · subst hx
      have hr : r = [] := by
        rcases h with h | h
        · exact List.eq_nil_of_length_eq_zero (by simp at h; omega)
        · exact absurd rfl h
      subst hr
      exact .inr (.inl rfl)
    · refine .inl ?_
      show (List.isPrefixOf [97] (x :: r)) = false
      simp only [List.isPrefixOf, Bool.and_eq_false_iff]
      exact .inl (by simpa using fun e => hx e.symm)
theorem argOf_cons (c : UInt8) (r : List UInt8) : argOf (97 :: c :: r) = if ∀ b ∈ c :: r, decS10.contains b = true then (if r ≠ [] ∨ 53 < c.toNat then (0, 16) else (c.toNat - 48, 0)) else (0, 13) := by
  have hp : Lib.hasPrefix (97 :: c :: r) [97] = true := rfl
  have ht : Lib.trimPrefix (97 :: c :: r) [97] = c :: r := rfl
  unfold argOf
  rw [hp, ht]
  by_cases h : ∀ b ∈ c :: r, decS10.contains b = true
  · rw [if_neg (by rintro (h1 | h1 | h1); cases h1; cases h1; exact h1 h), if_pos h]
    by_cases h2 : r ≠ [] ∨ 53 < c.toNat
    · rw [if_pos h2, if_pos]
      rcases h2 with h2 | h2
      · refine .inl ?_
        have := List.length_pos_iff.2 h2
        simp
        omega
      · exact .inr h2
    · rw [if_neg h2, if_neg]
      · rfl
      · rintro (h3 | h3)
        · refine h2 (.inl ?_)
          rintro rfl
          simp at h3
        · exact h2 (.inr h3)
  · rw [if_pos (.inr (.inr h)), if_neg h]
end Go.Proofs.YtlmobmbglninkaaDoor
