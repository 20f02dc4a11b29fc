/- The operator that a loop over all seven texts finds. -/
import Derived.Test.YtlmobmbglninkaaDoorCondIdx
namespace Go.Proofs.YtlmobmbglninkaaDoor
open Go Go.Proofs

/-- What the document's loop has kept behind k operators. -/
def opSeen (s : ByteArray) : Nat → Int
  | 0 => 0
  | k + 1 => if opB s k = true then (k : Int) + 1 else opSeen s k
theorem op_apart : ∀ j : Nat, j < 7 → ∀ k : Nat, k < 7 → (opText ((j : Int) + 1)).data.toList = (opText ((k : Int) + 1)).data.toList → j = k := by decide +kernel
theorem op_uniq {s : ByteArray} {j k : Nat} (hj : j < 7) (hk : k < 7) (h1 : opB s j = true) (h2 : opB s k = true) : j = k := by
  unfold opB at h1 h2
  rw [beq_iff_eq] at h1 h2
  refine op_apart j hj k hk ?_
  rw [← ByteArray.toList_eq, ← ByteArray.toList_eq]
  exact h1.trans h2.symm
theorem opSeen_all (s : ByteArray) : opSeen s 7 = firstO (opB s) + 1 := by
  by_cases h : ∃ k, k < 7 ∧ opB s k = true
  · obtain ⟨k, hk, hp⟩ := h
    have hno : ∀ j, j < 7 → j ≠ k → opB s j = false := fun j hj hne => by
      cases hq : opB s j with
      | false => rfl
      | true => exact absurd (op_uniq hj hk hq hp) hne
    rw [firstO_hit (opB s) k hk (fun j hj => hno j (by omega) (by omega)) hp]
    have : k = 0 ∨ k = 1 ∨ k = 2 ∨ k = 3 ∨ k = 4 ∨ k = 5 ∨ k = 6 := by omega
    rcases this with rfl | rfl | rfl | rfl | rfl | rfl | rfl <;> simp [opSeen, hp, hno]
  · have hno : ∀ j, j < 7 → opB s j = false := fun j hj => by
      cases hq : opB s j with
      | false => rfl
      | true => exact absurd ⟨j, hj, hq⟩ h
    rw [firstO_miss (opB s) hno]
    simp [opSeen, hno]
end Go.Proofs.YtlmobmbglninkaaDoor
