/- A number's text is the one that is told: plain facts. -/
import Derived.Test.YtokehnclakedeaaGreatDoorListWsP
namespace Go.Proofs.YtokehnclakedeaaGreatDoor
open Go Go.Proofs Go.RowKit

theorem fig_back {c : UInt8} {d : Nat} (h : figV c = some d) (hd : d < 10) : c = UInt8.ofNat (48 + d) := by
  unfold figV at h
  split at h
  · cases h
    rw [show 48 + (c.toNat - 48) = c.toNat by omega]
    simp
  · split at h
    · cases h; omega
    · cases h
theorem numFrom_canon : ∀ (m : Nat) (l : List UInt8) (n : Nat), l.length = m + 1 → (l.head? = some 48 → l = [48]) → numFrom 10 0 l = some n → l = Lib.decDigits n ∧ (l ≠ [48] → 0 < n)
  | 0, l, n, hl, hz, h => by
    obtain ⟨c, rfl⟩ := List.length_eq_one_iff.1 hl
    have h1 : numFrom 10 0 ([] ++ [c]) = some n := h
    rw [numFrom_snoc] at h1
    cases hf : figV c with
    | none => rw [hf] at h1; simp [numFrom] at h1
    | some d =>
      rw [hf] at h1
      simp [numFrom] at h1
      obtain ⟨⟨h2, _⟩, rfl⟩ := h1
      have hc := fig_back hf h2
      refine ⟨by rw [Lib.decDigits_one h2, hc], fun hne => ?_⟩
      rcases Nat.eq_zero_or_pos d with rfl | h3
      · exact absurd (by rw [hc]; rfl) hne
      · exact h3
  | m + 1, l, n, hl, hz, h => by
    have hne : l ≠ [] := by rintro rfl; simp at hl
    obtain ⟨l', c, rfl⟩ : ∃ l' c, l = l' ++ [c] := ⟨_, _, (List.dropLast_concat_getLast hne).symm⟩
    have hl' : l'.length = m + 1 := by simp at hl; omega
    have hne' : l' ≠ [] := by rintro rfl; simp at hl'
    have hz' : l'.head? ≠ some 48 := by
      intro e
      have : (l' ++ [c]).head? = some 48 := by
        cases l' with
        | nil => exact absurd rfl hne'
        | cons a r => simpa using e
      have h2 := congrArg List.length (hz this)
      rw [hl] at h2
      have h2 : m + 1 + 1 = 1 := h2
      omega
    rw [numFrom_snoc] at h
    cases ha : numFrom 10 0 l' with
    | none => rw [ha] at h; cases h
    | some a =>
      rw [ha] at h
      obtain ⟨h1, h2⟩ := numFrom_canon m l' a hl' (fun e => absurd e hz') ha
      have h3 := h2 (fun e => hz' (by rw [e]; rfl))
      cases hf : figV c with
      | none => rw [hf] at h; simp at h
      | some d =>
        rw [hf] at h
        simp at h
        obtain ⟨⟨h4, _⟩, rfl⟩ := h
        refine ⟨?_, fun _ => by omega⟩
        rw [Lib.decDigits, dif_neg (by omega), show (a * 10 + d) / 10 = a by omega, show (a * 10 + d) % 10 = d by omega, ← h1, fig_back hf h4]
theorem numV_canon {l : List UInt8} {bits n : Nat} (h : numV l bits = some n) : l = Lib.decDigits n := by
  unfold numV at h
  split at h
  · cases hq : numRest 10 l with
    | none => rw [hq] at h; cases h
    | some k =>
      rw [hq] at h
      dsimp only [Option.bind] at h
      split at h
      · cases h
        unfold numRest at hq
        split at hq
        · cases hq
        · rename_i hn
          have hne : l ≠ [] := fun e => hn (.inl e)
          refine (numFrom_canon (l.length - 1) l n (by have := List.length_pos_iff.2 hne; omega) (fun e => ?_) hq).1
          apply Classical.byContradiction
          intro h2
          exact hn (.inr ⟨e, h2⟩)
      · cases h
  · cases h
end Go.Proofs.YtokehnclakedeaaGreatDoor
