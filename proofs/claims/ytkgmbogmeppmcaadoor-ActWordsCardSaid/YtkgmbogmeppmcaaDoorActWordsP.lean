/- The text of an action, as words, is read as it: plain facts. -/
import Derived.Test.YtkgmbogmeppmcaaDoorActRead
import Derived.Test.YtkgmbogmeppmcaaDoorActBackP
namespace Go.Proofs.YtkgmbogmeppmcaaDoor
open Go Go.Proofs Go.RowKit

theorem nDigits_le : ∀ (k n : Nat), n < 10 ^ (k + 1) → Lib.nDigits n ≤ k + 1
  | 0, n, h => by rw [Lib.nDigits_small (by simpa using h)]; omega
  | k + 1, n, h => by
    by_cases h10 : n < 10
    · rw [Lib.nDigits_small h10]; omega
    · rw [Lib.nDigits_big h10]
      have := nDigits_le k (n / 10) (by rw [Nat.pow_succ] at h; omega)
      omega
theorem decFrom_app : ∀ (l : List UInt8) (acc m d : Nat) (b : UInt8), Lib.decFrom acc l = some m → Lib.digitVal b = some d → Lib.decFrom acc (l ++ [b]) = some (m * 10 + d)
  | [], acc, m, d, b, h, hb => by
    simp only [Lib.decFrom, Option.some.injEq] at h
    subst h
    simp [Lib.decFrom, hb]
  | x :: r, acc, m, d, b, h, hb => by
    rw [List.cons_append]
    unfold Lib.decFrom at h ⊢
    split at h
    · exact decFrom_app r _ m d b h hb
    · cases h
theorem digit_val (d : Nat) (h : d < 10) : Lib.digitVal (UInt8.ofNat (48 + d)) = some d := by
  have hn : (UInt8.ofNat (48 + d)).toNat = 48 + d := by simp; omega
  unfold Lib.digitVal
  rw [hn, if_pos ⟨by omega, by omega⟩]
  congr 1
  omega
theorem decFrom_dec (n : Nat) : Lib.decFrom 0 (Lib.decDigits n) = some n := by
  induction n using Nat.strongRecOn with
  | _ n ih =>
    by_cases h : n < 10
    · rw [Lib.decDigits_one h]
      have := digit_val n h
      show (match Lib.digitVal (UInt8.ofNat (48 + n)) with | some d => Lib.decFrom (0 * 10 + d) [] | none => none) = some n
      rw [this]
      simp [Lib.decFrom]
    · rw [Lib.decDigits, dif_neg h, decFrom_app _ 0 (n / 10) (n % 10) _ (ih (n / 10) (by omega)) (digit_val _ (by omega))]
      congr 1
      omega
theorem dec_head (n : Nat) : 0 < n → (Lib.decDigits n).head? ≠ some 48 := by
  induction n using Nat.strongRecOn with
  | _ n ih =>
    intro h0
    by_cases h : n < 10
    · rw [Lib.decDigits_one h]
      intro e
      simp only [List.head?_cons, Option.some.injEq] at e
      have := congrArg UInt8.toNat e
      simp at this
      omega
    · rw [Lib.decDigits, dif_neg h]
      have hi := ih (n / 10) (by omega) (by omega)
      cases hd : Lib.decDigits (n / 10) with
      | nil =>
        have h1 := Lib.decDigits_length (n / 10)
        have h2 := Lib.nDigits_pos (n / 10)
        rw [hd] at h1
        simp at h1
        omega
      | cons x xs =>
        rw [hd] at hi
        simpa using hi
theorem refNum_dec (n : Nat) (hn : n ≤ 1000000) : refNum (decS n) = some n := by
  have hs : (decS n).size = Lib.nDigits n := by rw [← Lib.decDigits_length]; rfl
  have hd : (decS n).data.toList = Lib.decDigits n := by simp [decS]
  unfold refNum
  rw [if_neg, hd, decFrom_dec]
  rintro (h | h | ⟨h, h'⟩)
  · have := Lib.nDigits_pos n; omega
  · have := nDigits_le 6 n (by omega); omega
  · rw [hd] at h
    by_cases h0 : n = 0
    · subst h0
      rw [hs] at h'
      exact absurd h' (by rw [Lib.nDigits_small (by omega)]; omega)
    · exact dec_head n (by omega) h

/-- The words of a right action's text. -/
def wordsOf (k : Int) (n : Nat) : List ByteArray := if k = 4 ∨ k = 6 then [actWord k, decS n] else [actWord k]
theorem firstN_word (k : Int) (h1 : 1 ≤ k) (h8 : k ≤ 8) : firstN (wordB (actWord k)) + 1 = k := by
  have h : k = 1 ∨ k = 2 ∨ k = 3 ∨ k = 4 ∨ k = 5 ∨ k = 6 ∨ k = 7 ∨ k = 8 := by omega
  rcases h with rfl | rfl | rfl | rfl | rfl | rfl | rfl | rfl <;> simp [firstN, wordB, actWord, ByteArray.toList_eq]
theorem read_words (k : Int) (n : Nat) (hr : actRight k n = true) (t : ByteArray) : readAns (wordsOf k n ++ [t]) = (k, (n : Int), ((wordsOf k n).length : Int), 0) := by
  obtain ⟨_, _, n0, n1, k1, k8, _, _⟩ := code_bounds k n hr
  have hf := firstN_word k k1 k8
  unfold actRight at hr
  simp only [decide_eq_true_eq] at hr
  obtain ⟨_, _, _, hg⟩ := hr
  unfold wordsOf
  by_cases hk : k = 4 ∨ k = 6
  · rw [if_pos hk]
    show readAns (actWord k :: decS n :: [t]) = _
    unfold readAns
    dsimp only
    rw [if_neg (by omega), hf, if_neg (fun h => h hk)]
    unfold readRest
    dsimp only
    rw [refNum_dec n (by omega)]
    dsimp only
    rw [if_neg (by omega)]
    rfl
  · rw [if_neg hk]
    show readAns (actWord k :: [t]) = _
    unfold readAns
    dsimp only
    rw [if_neg (by omega), hf, if_pos hk]
    have : actGreatest k = 0 := by
      unfold actGreatest
      rw [if_neg (fun h => hk (.inl h)), if_neg (fun h => hk (.inr h))]
    obtain rfl : n = 0 := by omega
    rfl
end Go.Proofs.YtkgmbogmeppmcaaDoor
