/- Digits, decimal and hexadecimal; what they are read as. -/
import Derived.Test.YtlmobmbglninkaaDoorCondNumP
import Derived.Test.YtlmobmbglninkaaDoorIn
import Derived.Lib.ItoaLen
import Derived.Lib.ItoaNum
import Derived.Lib.Hide
import Derived.WalkKit
import Derived.BigRegion
import Derived.Deep.LoopGhost
namespace Go.Proofs.YtlmobmbglninkaaDoor
open Go Go.Proofs Go.RowKit

def decS (n : Nat) : ByteArray := ⟨(Lib.decDigits n).toArray⟩
theorem dig_slice (r : Nat) (h : r < 10) : (⟨#[48, 49, 50, 51, 52, 53, 54, 55, 56, 57]⟩ : ByteArray).extract r (r + 1) = decS r := by
  match r, h with
  | 0, _ => decide +kernel
  | 1, _ => decide +kernel
  | 2, _ => decide +kernel
  | 3, _ => decide +kernel
  | 4, _ => decide +kernel
  | 5, _ => decide +kernel
  | 6, _ => decide +kernel
  | 7, _ => decide +kernel
  | 8, _ => decide +kernel
  | 9, _ => decide +kernel
theorem decS_size (n : Nat) (h : n < 18446744073709551616) : (decS n).size ≤ 20 := by
  have h1 := Lib.nDigits_le20 n h
  rw [← Lib.decDigits_length] at h1
  exact h1
theorem decS_step {n : Nat} (h : ¬ n < 10) : decS n = decS (n / 10) ++ decS (n % 10) := by
  unfold decS
  rw [Lib.decDigits, dif_neg h, Lib.decDigits_one (i := n % 10) (by omega)]
  apply ByteArray.ext
  simp

def hexD (r : Nat) : UInt8 := UInt8.ofNat (if r < 10 then 48 + r else 87 + r)
def hexDigits (n : Nat) : List UInt8 := if h : n < 16 then [hexD n] else hexDigits (n / 16) ++ [hexD (n % 16)]
def hexS (r : Nat) : ByteArray := ⟨#[hexD r]⟩
theorem hex_slice (r : Nat) (h : r < 16) : (⟨#[48, 49, 50, 51, 52, 53, 54, 55, 56, 57, 97, 98, 99, 100, 101, 102]⟩ : ByteArray).extract r (r + 1) = hexS r := by
  match r, h with
  | 0, _ => decide +kernel
  | 1, _ => decide +kernel
  | 2, _ => decide +kernel
  | 3, _ => decide +kernel
  | 4, _ => decide +kernel
  | 5, _ => decide +kernel
  | 6, _ => decide +kernel
  | 7, _ => decide +kernel
  | 8, _ => decide +kernel
  | 9, _ => decide +kernel
  | 10, _ => decide +kernel
  | 11, _ => decide +kernel
  | 12, _ => decide +kernel
  | 13, _ => decide +kernel
  | 14, _ => decide +kernel
  | 15, _ => decide +kernel
  | (r + 16), h => exact absurd h (by omega)
theorem hex_len (k : Nat) : ∀ n, n < 16 ^ (k + 1) → (hexDigits n).length ≤ k + 1 := by
  induction k with
  | zero => intro n h; rw [hexDigits, dif_pos (by omega)]; simp
  | succ k ih =>
    intro n h
    rw [hexDigits]
    split
    · simp
    · have := ih (n / 16) (by rw [Nat.pow_succ] at h; omega)
      simp
      omega
theorem figD : ∀ r, r < 16 → figV (hexD r) = some r := by decide +kernel
theorem figD10 : ∀ r, r < 10 → figV (UInt8.ofNat (48 + r)) = some r := by decide +kernel

theorem numFrom_snoc (B : Nat) (c : UInt8) : ∀ (l : List UInt8) (acc : Nat), numFrom B acc (l ++ [c]) = (numFrom B acc l).bind fun a => match figV c with | some d => if d < B ∧ a * B + d < 18446744073709551616 then some (a * B + d) else none | none => none
  | [], acc => by
    show numFrom B acc [c] = _
    unfold numFrom
    cases figV c with
    | none => rfl
    | some d =>
      dsimp only
      split
      · simp [numFrom, *]
      · simp [numFrom, *]
  | x :: l, acc => by
    rw [List.cons_append]
    unfold numFrom
    cases figV x with
    | none => rfl
    | some d =>
      dsimp only
      split
      · exact numFrom_snoc B c l _
      · rfl
theorem num_dec (n : Nat) (h : n < 18446744073709551616) : numFrom 10 0 (Lib.decDigits n) = some n := by
  induction n using Nat.strongRecOn with
  | _ n ih =>
    by_cases h1 : n < 10
    · rw [Lib.decDigits_one h1, show [UInt8.ofNat (48 + n)] = [] ++ [UInt8.ofNat (48 + n)] from rfl, numFrom_snoc, figD10 n h1]
      show (if n < 10 ∧ 0 * 10 + n < _ then _ else _) = _
      rw [if_pos (by omega)]
      simp
    · have e : Lib.decDigits n = Lib.decDigits (n / 10) ++ [UInt8.ofNat (48 + n % 10)] := by rw [Lib.decDigits, dif_neg h1]
      rw [e, numFrom_snoc, ih (n / 10) (by omega) (by omega), figD10 (n % 10) (by omega)]
      show (if n % 10 < 10 ∧ n / 10 * 10 + n % 10 < _ then _ else _) = _
      rw [if_pos (by omega)]
      congr 1
      omega
theorem num_hex (n : Nat) (h : n < 18446744073709551616) : numFrom 16 0 (hexDigits n) = some n := by
  induction n using Nat.strongRecOn with
  | _ n ih =>
    by_cases h1 : n < 16
    · rw [hexDigits, dif_pos h1, show [hexD n] = [] ++ [hexD n] from rfl, numFrom_snoc, figD n h1]
      show (if n < 16 ∧ 0 * 16 + n < _ then _ else _) = _
      rw [if_pos (by omega)]
      simp
    · have e : hexDigits n = hexDigits (n / 16) ++ [hexD (n % 16)] := by rw [hexDigits, dif_neg h1]
      rw [e, numFrom_snoc, ih (n / 16) (by omega) (by omega), figD (n % 16) (by omega)]
      show (if n % 16 < 16 ∧ n / 16 * 16 + n % 16 < _ then _ else _) = _
      rw [if_pos (by omega)]
      congr 1
      omega
/-- How figures begin. -/
theorem dec_head (n : Nat) : ∃ c r, Lib.decDigits n = c :: r ∧ 48 ≤ c.toNat ∧ c.toNat ≤ 57 ∧ (c = 48 → n = 0) := by
  induction n using Nat.strongRecOn with
  | _ n ih =>
    by_cases h1 : n < 10
    · refine ⟨_, [], Lib.decDigits_one h1, ?_⟩
      have : ∀ n, n < 10 → 48 ≤ (UInt8.ofNat (48 + n)).toNat ∧ (UInt8.ofNat (48 + n)).toNat ≤ 57 ∧ (UInt8.ofNat (48 + n) = 48 → n = 0) := by decide +kernel
      exact this n h1
    · obtain ⟨c, r, e, h2, h3, h4⟩ := ih (n / 10) (by omega)
      refine ⟨c, r ++ [UInt8.ofNat (48 + n % 10)], ?_, h2, h3, fun e => by have := h4 e; omega⟩
      rw [Lib.decDigits, dif_neg h1, e]
      rfl
theorem hex_head (n : Nat) : ∃ c r, hexDigits n = c :: r ∧ (c = 48 → n = 0) := by
  induction n using Nat.strongRecOn with
  | _ n ih =>
    by_cases h1 : n < 16
    · refine ⟨hexD n, [], by rw [hexDigits, dif_pos h1], ?_⟩
      have : ∀ n, n < 16 → hexD n = 48 → n = 0 := by decide +kernel
      exact this n h1
    · obtain ⟨c, r, e, h4⟩ := ih (n / 16) (by omega)
      refine ⟨c, r ++ [hexD (n % 16)], ?_, fun e => by have := h4 e; omega⟩
      rw [hexDigits, dif_neg h1, e]
      rfl
theorem numOf_dec (n : Nat) (h : n < 18446744073709551616) : numOf (Lib.decDigits n) = some n := by
  obtain ⟨c, r, e, h2, h3, h4⟩ := dec_head n
  have hr : numRest 10 (Lib.decDigits n) = some n := by
    unfold numRest
    rw [if_neg]
    · exact num_dec n h
    · rintro (h5 | ⟨h5, h6⟩)
      · rw [e] at h5; cases h5
      · rw [e] at h5
        have := h4 (Option.some.inj h5)
        subst this
        exact h6 (Lib.decDigits_one (by omega))
  unfold numOf
  rw [if_neg, hr]
  intro hp
  by_cases hc : c = 48
  · have := h4 hc
    subst this
    rw [Lib.decDigits_one (by omega)] at hp
    revert hp
    decide
  · rw [e] at hp
    revert hp
    simp [Lib.hasPrefix]
    intro e2
    exact absurd e2.symm hc
theorem numOf_hex (n : Nat) (h : n < 18446744073709551616) : numOf (48 :: 120 :: hexDigits n) = some n := by
  obtain ⟨c, r, e, h4⟩ := hex_head n
  have hr : numRest 16 (hexDigits n) = some n := by
    unfold numRest
    rw [if_neg]
    · exact num_hex n h
    · rintro (h5 | ⟨h5, h6⟩)
      · rw [e] at h5; cases h5
      · rw [e] at h5
        have := h4 (Option.some.inj h5)
        subst this
        exact h6 (by rw [hexDigits, dif_pos (by omega)]; rfl)
  have hp : Lib.hasPrefix (48 :: 120 :: hexDigits n) [48, 120] = true := by simp [Lib.hasPrefix]
  have ht : Lib.trimPrefix (48 :: 120 :: hexDigits n) [48, 120] = hexDigits n := by unfold Lib.trimPrefix; rw [hp]; rfl
  unfold numOf
  rw [if_pos hp, ht, hr]
theorem numOf_zero (n : Nat) : numOf (48 :: Lib.decDigits n) = none := by
  obtain ⟨c, r, e, h2, h3, h4⟩ := dec_head n
  unfold numOf
  rw [if_neg]
  · unfold numRest
    rw [if_pos]
    refine .inr ⟨rfl, ?_⟩
    rw [e]
    simp
  · rw [e]
    simp [Lib.hasPrefix]
    intro e2
    rw [← e2] at h3
    revert h3
    decide
end Go.Proofs.YtlmobmbglninkaaDoor
