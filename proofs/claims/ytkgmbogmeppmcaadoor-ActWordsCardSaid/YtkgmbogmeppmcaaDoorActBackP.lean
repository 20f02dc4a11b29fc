/- Actions there and back: plain facts. -/
import Derived.Test.YtkgmbogmeppmcaaDoorActTxt
namespace Go.Proofs.YtkgmbogmeppmcaaDoor
open Go Go.Proofs Go.RowKit

theorem from_right {k n : Int} (hr : actRight k n = true) : fromK (actCode k + n) = k ∧ fromN (actCode k + n) = n := by
  unfold actRight at hr
  simp only [decide_eq_true_eq] at hr
  obtain ⟨h1, h8, h0, hg⟩ := hr
  obtain ⟨j, hj, hj8⟩ : ∃ j : Nat, k = (j : Int) + 1 ∧ j < 8 := ⟨(k - 1).toNat, by omega, by omega⟩
  subst hj
  have hp : fromB (actCode (j + 1) + n) j = true := decide_eq_true ⟨by omega, by omega⟩
  have hm : ∀ i, i < j → fromB (actCode (j + 1) + n) i = false := by
    intro i hi
    refine decide_eq_false ?_
    rintro ⟨h2, h3⟩
    have hj' : j = 0 ∨ j = 1 ∨ j = 2 ∨ j = 3 ∨ j = 4 ∨ j = 5 ∨ j = 6 ∨ j = 7 := by omega
    have hi' : i = 0 ∨ i = 1 ∨ i = 2 ∨ i = 3 ∨ i = 4 ∨ i = 5 ∨ i = 6 := by omega
    rcases hj' with rfl | rfl | rfl | rfl | rfl | rfl | rfl | rfl <;> rcases hi' with rfl | rfl | rfl | rfl | rfl | rfl | rfl <;> simp [actCode, actGreatest] at h2 h3 hg <;> omega
  have e : fromK (actCode (j + 1) + n) = (j : Int) + 1 := by unfold fromK; rw [firstN_hit _ j hj8 hm hp]
  refine ⟨e, ?_⟩
  unfold fromN
  rw [e, if_neg (by omega)]
  omega
theorem code_apart {k n k' n' : Int} (hr : actRight k n = true) (hr' : actRight k' n' = true) (h : actCode k + n = actCode k' + n') : k = k' ∧ n = n' := by
  have h1 := from_right hr
  have h2 := from_right hr'
  rw [h] at h1
  exact ⟨h1.1.symm.trans h2.1, h1.2.symm.trans h2.2⟩

def dval (l : List UInt8) : Nat := l.foldl (fun a b => 10 * a + (b.toNat - 48)) 0
theorem dval_dec (n : Nat) : dval (Lib.decDigits n) = n := by
  induction n using Nat.strongRecOn with
  | _ n ih =>
    by_cases h : n < 10
    · rw [Lib.decDigits_one h]
      simp [dval]
      omega
    · rw [Lib.decDigits, dif_neg h]
      unfold dval
      rw [List.foldl_append]
      have := ih (n / 10) (by omega)
      unfold dval at this
      rw [this]
      simp
      omega
theorem decS_inj {n m : Nat} (h : decS n = decS m) : n = m := by
  have h1 : Lib.decDigits n = Lib.decDigits m := by
    have := congrArg (fun b : ByteArray => b.data.toList) h
    simpa [decS] using this
  rw [← dval_dec n, ← dval_dec m, h1]

theorem text_list (k : Int) (n : Nat) : (actText k n).data.toList = (actWord k).data.toList ++ (if k = 4 ∨ k = 6 then 32 :: Lib.decDigits n else []) := by
  unfold actText
  split
  · simp [decS, ByteArray.data_append]
  · simp
theorem text_apart {k k' : Int} {n n' : Nat} (hr : actRight k n = true) (hr' : actRight k' n' = true) (h : actText k n = actText k' n') : k = k' ∧ n = n' := by
  unfold actRight at hr hr'
  simp only [decide_eq_true_eq] at hr hr'
  obtain ⟨h1, h8, _, hg⟩ := hr
  obtain ⟨h1', h8', _, hg'⟩ := hr'
  have e := congrArg (fun b : ByteArray => b.data.toList) h
  simp only [text_list] at e
  have hk : k = 1 ∨ k = 2 ∨ k = 3 ∨ k = 4 ∨ k = 5 ∨ k = 6 ∨ k = 7 ∨ k = 8 := by omega
  have hk' : k' = 1 ∨ k' = 2 ∨ k' = 3 ∨ k' = 4 ∨ k' = 5 ∨ k' = 6 ∨ k' = 7 ∨ k' = 8 := by omega
  have hd : ∀ {a b : Nat}, Lib.decDigits a = Lib.decDigits b → a = b := fun {a b} hh => by rw [← dval_dec a, ← dval_dec b, hh]
  clear h
  rcases hk with rfl | rfl | rfl | rfl | rfl | rfl | rfl | rfl <;> rcases hk' with rfl | rfl | rfl | rfl | rfl | rfl | rfl | rfl <;> simp [actWord, actGreatest] at e hg hg' <;> first | exact ⟨rfl, by omega⟩ | exact ⟨rfl, hd e⟩
end Go.Proofs.YtkgmbogmeppmcaaDoor
