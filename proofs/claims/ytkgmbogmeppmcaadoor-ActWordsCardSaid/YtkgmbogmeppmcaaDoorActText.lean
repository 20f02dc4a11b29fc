/- The texts of actions: the document's digits. -/
import Derived.Test.YtkgmbogmeppmcaaDoorActRFrom
import Derived.Test.YtkgmbogmeppmcaaDoorShelf
import Derived.Shelf.Strconv.Itoa3
import Derived.Lib.ItoaLen
namespace Go.Proofs.YtkgmbogmeppmcaaDoor
open Go Go.Proofs Go.RowKit

def decS (n : Nat) : ByteArray := ⟨(Lib.decDigits n).toArray⟩
theorem dig_slice (r : Nat) (h : r < 10) : (⟨#[48, 49, 50, 51, 52, 53, 54, 55, 56, 57]⟩ : ByteArray).extract r (r + 1) = decS r := by
  match r, h with
  | 0, _ => decide +kernel
  | 1, _ => decide +kernel
  | 2, _ => decide +kernel
  | 3, _ => decide +kernel
  | 4, _ => decide +kernel
  | 5, _ => decide +kernel
  | 6, _ => decide +kernel
  | 7, _ => decide +kernel
  | 8, _ => decide +kernel
  | 9, _ => decide +kernel
theorem decS_size (n : Nat) (h : n < 18446744073709551616) : (decS n).size ≤ 20 := by
  have h1 := Lib.nDigits_le20 n h
  rw [← Lib.decDigits_length] at h1
  exact h1
theorem decS_step {n : Nat} (h : ¬ n < 10) : decS n = decS (n / 10) ++ decS (n % 10) := by
  unfold decS
  rw [Lib.decDigits, dif_neg h, Lib.decDigits_one (i := n % 10) (by omega)]
  apply ByteArray.ext
  simp

set_option maxRecDepth 100000 in
set_option maxHeartbeats 1000000 in
theorem digits_any : ∀ (n : Nat) (w : World), n ≤ 1000000 → Calls Tryd.prog 38 #[.int .i64 (n : Int)] w fun e w' => e = .returned (.string (decS n)) ∧ Below w.heap.size w w' := by
  intro n
  induction n using Nat.strongRecOn with
  | _ n ih =>
    intro w hn
    by_cases h : n < 10
    · have hz : (n : Int) < 10 := by omega
      have h0 : (0 : Int) ≤ (n : Int) := by omega
      have h1 : IntKind.i64.wrap ((n : Int) + 1) = (n : Int) + 1 := IntWalk.i64_in _ (by omega)
      have hs := dig_slice n h
      have h2 : ((n : Int) + 1).toNat = n + 1 := by omega
      have h3 : (n : Int) + 1 ≤ 10 := by omega
      have h4 : (0 : Int) ≤ (n : Int) + 1 := by omega
      clear ih
      go_enter Tryd.func38, Tryd.ntmps38
      go_wp2
      go_ret
      exact ⟨rfl, Below.refl _ w⟩
    · have hz : ¬ (n : Int) < 10 := by omega
      have hih := fun W => ih (n / 10) (by omega) W (by omega)
      have hst := decS_step h
      obtain ⟨q, hq, hqe⟩ : ∃ q : Nat, (n : Int).tdiv 10 = (q : Int) ∧ q = n / 10 := ⟨n / 10, by rw [Int.tdiv_eq_ediv_of_nonneg (by omega)]; rfl, rfl⟩
      obtain ⟨r, hr, hre⟩ : ∃ r : Nat, (n : Int).tmod 10 = (r : Int) ∧ r = n % 10 := ⟨n % 10, by rw [Int.tmod_eq_emod_of_nonneg (by omega)]; rfl, rfl⟩
      have hr10 : r < 10 := by omega
      rw [← hqe] at hih hst
      rw [← hre] at hst
      rw [hst]
      have hs := dig_slice r hr10
      have HI := Lib.hid hih
      have hqw : IntKind.i64.wrap (q : Int) = (q : Int) := IntWalk.i64_in _ (by omega)
      have h0 : (0 : Int) ≤ (r : Int) := by omega
      have h1 : IntKind.i64.wrap ((r : Int) + 1) = (r : Int) + 1 := IntWalk.i64_in _ (by omega)
      have h2 : ((r : Int) + 1).toNat = r + 1 := by omega
      have h3 : (r : Int) + 1 ≤ 10 := by omega
      have h4 : (0 : Int) ≤ (r : Int) + 1 := by omega
      have h5 : (r : Int) ≤ (r : Int) + 1 := by omega
      have h6 : r ≤ r + 1 := by omega
      have h7 : r + 1 ≤ 10 := by omega
      have h8 : ¬ 9223372036854775807 < (decS q).size + (decS r).size := by have := decS_size q (by omega); have := decS_size r (by omega); omega
      clear ih hih hst hqe hre h
      generalize decS q = sq at *
      generalize decS r = sr at *
      go_enter Tryd.func38, Tryd.ntmps38
      go_wp2
      go_region_held3 (fun _ => True) (trivial) (first | (go_at_call 38; refine (HI.out _).mono ?_; rintro e w2 ⟨rfl, hb2⟩))
      go_wp2
      go_ret
      exact ⟨rfl, (Below.refl _ w).drew.trans hb2⟩
end Go.Proofs.YtkgmbogmeppmcaaDoor
