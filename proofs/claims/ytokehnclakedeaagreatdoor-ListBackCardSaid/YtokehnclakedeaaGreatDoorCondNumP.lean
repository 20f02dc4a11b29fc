/- Numbers in decimal, and behind 0x: plain facts. -/
import Derived.Lib.SlTrimSet
import Derived.Lib.ParseIntB
import Derived.Lib.Strings
namespace Go.Proofs.YtokehnclakedeaaGreatDoor
open Go Go.Proofs Go.Lib

/-- A figure's value. -/
def figV (c : UInt8) : Option Nat := if 48 ≤ c.toNat ∧ c.toNat ≤ 57 then some (c.toNat - 48) else if 97 ≤ c.toNat ∧ c.toNat ≤ 102 then some (c.toNat - 87) else none
/-- What figures spell to a base, if a uint64 holds it. -/
def numFrom (B acc : Nat) : List UInt8 → Option Nat
  | [] => some acc
  | c :: r => match figV c with
    | some d => if d < B ∧ acc * B + d < 18446744073709551616 then numFrom B (acc * B + d) r else none
    | none => none
def numRest (B : Nat) (l : List UInt8) : Option Nat := if l = [] ∨ (l.head? = some 48 ∧ l ≠ [48]) then none else numFrom B 0 l
/-- The number that a text is. -/
def numOf (l : List UInt8) : Option Nat := if hasPrefix l [48, 120] = true then numRest 16 (trimPrefix l [48, 120]) else numRest 10 l

def decS10 : List UInt8 := [48, 49, 50, 51, 52, 53, 54, 55, 56, 57]
def hexS16 : List UInt8 := [48, 49, 50, 51, 52, 53, 54, 55, 56, 57, 97, 98, 99, 100, 101, 102]
def baseS (B : Nat) : List UInt8 := if B = 10 then decS10 else hexS16
theorem dec_fig : ∀ n, n < 256 → decS10.contains (UInt8.ofNat n) = (match figV (UInt8.ofNat n) with | some d => decide (d < 10) | none => false) := by decide +kernel
theorem hex_fig : ∀ n, n < 256 → hexS16.contains (UInt8.ofNat n) = (match figV (UInt8.ofNat n) with | some d => decide (d < 16) | none => false) := by decide +kernel
theorem base_fig {B : Nat} (hB : B = 10 ∨ B = 16) (b : UInt8) : (baseS B).contains b = (match figV b with | some d => decide (d < B) | none => false) := by
  rcases hB with rfl | rfl
  · have := dec_fig b.toNat b.toNat_lt
    rw [UInt8.ofNat_toNat] at this
    exact this
  · have := hex_fig b.toNat b.toNat_lt
    rw [UInt8.ofNat_toNat] at this
    exact this
theorem numFrom_bad {B : Nat} (hB : B = 10 ∨ B = 16) : ∀ (l : List UInt8) (acc : Nat), (∃ b ∈ l, (baseS B).contains b = false) → numFrom B acc l = none
  | [], _, h => by obtain ⟨b, hb, _⟩ := h; simp at hb
  | c :: r, acc, h => by
    unfold numFrom
    cases hf : figV c with
    | none => rfl
    | some d =>
      dsimp only
      split
      · rename_i hd
        obtain ⟨b, hb, hbad⟩ := h
        rcases List.mem_cons.1 hb with rfl | hb
        · rw [base_fig hB, hf] at hbad
          simp at hbad
          omega
        · exact numFrom_bad hB r _ ⟨b, hb, hbad⟩
      · rfl
/-- What strconv.ParseUint tells of decimal digits. -/
theorem parse_dec : ∀ (l : List UInt8) (acc : Nat), (∀ b ∈ l, decS10.contains b = true) → acc < 18446744073709551616 → (∃ u, numFrom 10 acc l = some u ∧ parseUintM 18446744073709551615 acc l = .ok u) ∨ (numFrom 10 acc l = none ∧ parseUintM 18446744073709551615 acc l = .range)
  | [], acc, _, _ => .inl ⟨acc, rfl, rfl⟩
  | c :: r, acc, h, ha => by
    have hc := h c (by simp)
    have hb := base_fig (.inl rfl) c
    rw [show baseS 10 = decS10 from rfl, hc] at hb
    have hd : 48 ≤ c.toNat ∧ c.toNat ≤ 57 := by
      by_cases h1 : 48 ≤ c.toNat ∧ c.toNat ≤ 57
      · exact h1
      · exfalso
        by_cases h2 : 97 ≤ c.toNat ∧ c.toNat ≤ 102
        · have hv : figV c = some (c.toNat - 87) := by unfold figV; rw [if_neg h1, if_pos h2]
          rw [hv] at hb
          have := of_decide_eq_true hb.symm
          omega
        · have hv : figV c = none := by unfold figV; rw [if_neg h1, if_neg h2]
          rw [hv] at hb
          cases hb
    have hf : figV c = some (c.toNat - 48) := by unfold figV; rw [if_pos hd]
    unfold numFrom parseUintM
    rw [hf, if_pos hd]
    dsimp only
    by_cases h1 : 1844674407370955162 ≤ acc
    · rw [if_pos h1, if_neg (by omega)]
      exact .inr ⟨rfl, rfl⟩
    · rw [if_neg h1]
      by_cases h2 : 18446744073709551615 < acc * 10 + (c.toNat - 48)
      · rw [if_pos h2, if_neg (by omega)]
        exact .inr ⟨rfl, rfl⟩
      · rw [if_neg h2, if_pos (by omega)]
        exact parse_dec r _ (fun b hb => h b (by simp [hb])) (by omega)
theorem parse_dec0 {l : List UInt8} (h : ∀ b ∈ l, decS10.contains b = true) (hne : l ≠ []) : (∃ u, numFrom 10 0 l = some u ∧ parseUintB 64 l = .ok u) ∨ (numFrom 10 0 l = none ∧ parseUintB 64 l = .range) := by
  unfold parseUintB
  rw [if_neg hne, show (2 : Nat) ^ 64 - 1 = 18446744073709551615 by decide]
  exact parse_dec l 0 h (by omega)

theorem dropWhile_nil {p : UInt8 → Bool} : ∀ l : List UInt8, l.dropWhile p = [] ↔ ∀ b ∈ l, p b = true
  | [] => by simp
  | x :: r => by
    have ih := dropWhile_nil (p := p) r
    by_cases h : p x = true
    · simp [h, ih]
    · simp [h]
theorem dropWhile_sat {p : UInt8 → Bool} : ∀ l : List UInt8, (∀ b ∈ l.dropWhile p, p b = true) → ∀ b ∈ l, p b = true
  | [], _ => by simp
  | x :: r, h => by
    by_cases hx : p x = true
    · have ih := dropWhile_sat (p := p) r (by simpa [List.dropWhile_cons, hx] using h)
      intro b hb
      rcases List.mem_cons.1 hb with rfl | hb
      · exact hx
      · exact ih b hb
    · exact absurd (h x (by simp [hx])) hx
theorem trimS_nil (l cs : List UInt8) : trimS l cs = [] ↔ ∀ b ∈ l, cs.contains b = true := by
  unfold trimS trimLeftS
  rw [dropWhile_nil]
  constructor
  · intro h
    have h2 : ∀ b ∈ l.reverse.dropWhile (cs.contains ·), cs.contains b = true := fun b hb => h b (by unfold trimRightS; simpa using hb)
    have := dropWhile_sat l.reverse h2
    intro b hb
    exact this b (by simpa using hb)
  · intro h b hb
    unfold trimRightS at hb
    have := (List.dropWhile_sublist (l := l.reverse) (cs.contains ·)).subset (by simpa using hb : b ∈ _)
    exact h b (by simpa using this)
end Go.Proofs.YtokehnclakedeaaGreatDoor
