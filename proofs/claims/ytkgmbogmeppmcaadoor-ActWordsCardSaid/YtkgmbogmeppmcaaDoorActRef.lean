/- strainerref09: base, Most, Word, Right, Code. -/
import Derived.Test.YtkgmbogmeppmcaaDoorActR
namespace Go.Proofs.YtkgmbogmeppmcaaDoor
open Go Go.Proofs Go.RowKit

set_option maxRecDepth 100000 in
set_option maxHeartbeats 1000000 in
theorem base_any (k : Int) (h0 : 0 ≤ k) (h8 : k ≤ 8) (w : World) : Calls Tryd.prog 34 #[.int .i64 k] w fun e w' => e = .returned (.int .i64 (actCode k)) ∧ Below w.heap.size w w' := by
  have h : k = 0 ∨ k = 1 ∨ k = 2 ∨ k = 3 ∨ k = 4 ∨ k = 5 ∨ k = 6 ∨ k = 7 ∨ k = 8 := by omega
  rcases h with rfl | rfl | rfl | rfl | rfl | rfl | rfl | rfl | rfl
  all_goals
    go_enter Tryd.func34, Tryd.ntmps34
    go_wp2
    go_ret
    exact ⟨rfl, (Below.refl _ w).alloc (Nat.le_refl _) _⟩

theorem most_any (k : Int) (w : World) : Calls Tryd.prog 35 #[.int .i64 k] w fun e w' => e = .returned (.int .i64 (actGreatest k)) ∧ w' = w := by
  by_cases h4 : k = 4
  · subst h4
    go_enter Tryd.func35, Tryd.ntmps35
    go_wp2
    go_ret
    exact ⟨rfl, rfl⟩
  · have h4' : (k == 4) = false := by simpa using h4
    by_cases h6 : k = 6
    · subst h6
      go_enter Tryd.func35, Tryd.ntmps35
      go_wp2
      go_ret
      exact ⟨rfl, rfl⟩
    · have h6' : (k == 6) = false := by simpa using h6
      have hg : actGreatest k = 0 := by unfold actGreatest; rw [if_neg h4, if_neg h6]
      rw [hg]
      go_enter Tryd.func35, Tryd.ntmps35
      go_wp2
      go_ret
      exact ⟨rfl, rfl⟩

set_option maxRecDepth 100000 in
set_option maxHeartbeats 1000000 in
theorem word_any (k : Int) (h0 : 1 ≤ k) (h8 : k ≤ 8) (w : World) : Calls Tryd.prog 37 #[.int .i64 k] w fun e w' => e = .returned (.string (actWord k)) ∧ Below w.heap.size w w' := by
  have h : k = 1 ∨ k = 2 ∨ k = 3 ∨ k = 4 ∨ k = 5 ∨ k = 6 ∨ k = 7 ∨ k = 8 := by omega
  rcases h with rfl | rfl | rfl | rfl | rfl | rfl | rfl | rfl
  all_goals
    go_enter Tryd.func37, Tryd.ntmps37
    go_wp2
    go_ret
    exact ⟨rfl, (Below.refl _ w).alloc (Nat.le_refl _) _⟩

set_option maxRecDepth 100000 in
set_option maxHeartbeats 1000000 in
theorem refRight_any (k n : Int) (w : World) : Calls Tryd.prog 16 #[.agg #[.int .i64 k, .int .i64 n]] w fun e w' => e = .returned (.bool (actRight k n)) ∧ Below w.heap.size w w' := by
  have hm := fun W => most_any k W
  unfold actRight
  by_cases h1 : 1 ≤ k
  · by_cases h8 : k ≤ 8
    · by_cases h0 : 0 ≤ n
      · generalize actGreatest k = m at hm
        go_enter Tryd.func16, Tryd.ntmps16
        go_wp2
        go_quiet ((go_at_call 35; exact Calls.quiet_of_same (hm _)))
        go_wp2
        go_ret
        exact ⟨retB (by simp [h1, h8, h0]), below_drewN ((Below.refl _ w).alloc (Nat.le_refl _) _) _⟩
      · have hd0 : decide (0 ≤ n) = false := by simpa using h0
        have hd1 : decide (1 ≤ k) = true := by simpa using h1
        have hd8 : decide (k ≤ 8) = true := by simpa using h8
        clear hm
        go_enter Tryd.func16, Tryd.ntmps16
        go_wp2
        go_quiet (fail)
        go_wp2
        go_ret
        exact ⟨retB (by first | (rw [eq_comm, decide_eq_false_iff_not]; omega) | (rw [decide_eq_false_iff_not]; omega)), below_drewN ((Below.refl _ w).alloc (Nat.le_refl _) _) _⟩
    · have hd1 : decide (1 ≤ k) = true := by simpa using h1
      have hd8 : decide (k ≤ 8) = false := by simpa using h8
      clear hm
      go_enter Tryd.func16, Tryd.ntmps16
      go_wp2
      go_quiet (fail)
      go_wp2
      go_ret
      exact ⟨retB (by first | (rw [eq_comm, decide_eq_false_iff_not]; omega) | (rw [decide_eq_false_iff_not]; omega)), below_drewN ((Below.refl _ w).alloc (Nat.le_refl _) _) _⟩
  · have hd1 : decide (1 ≤ k) = false := by simpa using h1
    clear hm
    go_enter Tryd.func16, Tryd.ntmps16
    go_wp2
    go_quiet (fail)
    go_wp2
    go_ret
    exact ⟨retB (by first | (rw [eq_comm, decide_eq_false_iff_not]; omega) | (rw [decide_eq_false_iff_not]; omega)), below_drewN ((Below.refl _ w).alloc (Nat.le_refl _) _) _⟩

set_option maxHeartbeats 1000000 in
theorem refCode_any (k n : Int) (h0 : 0 ≤ k) (h8 : k ≤ 8) (hn0 : 0 ≤ n) (hn1 : n ≤ 100000) (w : World) : Calls Tryd.prog 20 #[.agg #[.int .i64 k, .int .i64 n]] w fun e w' => e = .returned (.int .i64 (actCode k + n)) ∧ Below w.heap.size w w' := by
  have hb := fun W => base_any k h0 h8 W
  have hc0 : 0 ≤ actCode k ∧ actCode k ≤ 2147483648 := by
    have h : k = 0 ∨ k = 1 ∨ k = 2 ∨ k = 3 ∨ k = 4 ∨ k = 5 ∨ k = 6 ∨ k = 7 ∨ k = 8 := by omega
    rcases h with rfl | rfl | rfl | rfl | rfl | rfl | rfl | rfl | rfl <;> decide
  generalize actCode k = c at hb hc0
  obtain ⟨c0, c1⟩ := hc0
  have hw1 : IntKind.i64.wrap (c + n) = c + n := IntWalk.i64_in _ (by omega)
  have Hb := Lib.hid hb
  have hblk := Blk.new w 23 #[.int .i64 k, .int .i64 n]
  have hk := hblk.cell 0
  have hv := hblk.cell 1
  have hbe := Lib.hid (((Below.refl _ w).alloc (Nat.le_refl _) (.cells #[.int .i64 k, .int .i64 n] 23)))
  have HBK := Lib.hid hblk
  simp only [List.getElem?_toArray, List.getElem?_cons_zero, List.getElem?_cons_succ] at hk hv
  clear hb hblk
  go_enter Tryd.func20, Tryd.ntmps20
  go_wp2
  go_region_held3 (fun w' => w'.cell? ⟨w.heap.size, 0, none⟩ = some (.int .i64 k) ∧ w'.cell? ⟨w.heap.size, 1, none⟩ = some (.int .i64 n)) (first | go_keep | exact ⟨cell_later hb2 (by first | assumption | simp), cell_later hb2 (by first | assumption | simp)⟩) (first | (go_at_call 34; refine (Hb.out _).mono ?_; rintro e w2 ⟨rfl, hb2⟩))
  go_wp2
  go_ret
  exact ⟨rfl, hbe.out.drew.trans (hb2.mono (by simp))⟩
end Go.Proofs.YtkgmbogmeppmcaaDoor
