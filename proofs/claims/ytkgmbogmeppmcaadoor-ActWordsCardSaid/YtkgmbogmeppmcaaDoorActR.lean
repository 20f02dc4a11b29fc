/- act: how great a kind's number may be; whether an action may be; its code. -/
import Derived.Test.YtkgmbogmeppmcaaDoorAct
import Derived.Test.YtkgmbogmeppmcaaDoorFnEq
namespace Go.Proofs.YtkgmbogmeppmcaaDoor
open Go Go.Proofs Go.RowKit

theorem greatest_none (s : ByteArray) (c : Int) (w : World) : Calls Tryd.prog 33 #[.agg #[.string s, .int .u32 c, .nilFunc]] w fun e w' => e = .returned (.int .i64 0) ∧ Below w.heap.size w w' := by
  have hq := fun W => run_eql_nilFunc (P := Tryd.prog) W 62 Tryd.underlying62
  go_enter Tryd.func33, Tryd.ntmps33
  go_wp2
  go_ret
  exact ⟨rfl, (Below.refl _ w).alloc (Nat.le_refl _) _⟩

set_option maxHeartbeats 1000000 in
theorem greatest_some (s : ByteArray) (c n : Int) (B : Nat) (w : World) (hB : Blk w B 3 #[.int .i64 (n + 1)]) (h0 : 0 ≤ n) (h1 : n ≤ 100000) :
    Calls Tryd.prog 33 #[.agg #[.string s, .int .u32 c, .func (.func 61) #[] #[.pointer (some ⟨B, 0, none⟩)]]] w fun e w' => e = .returned (.int .i64 n) ∧ Below w.heap.size w w' := by
  have hB1 := hB.alloc (.cells #[.string s, .int .u32 c, .func (.func 61) #[] #[.pointer (some ⟨B, 0, none⟩)]] 64)
  have hc := below1_any B n _ hB1 h0 h1
  have Hc := Lib.hid hc
  clear hc hB1 hB
  have hq := fun W fn a c => run_eql_func_nil (P := Tryd.prog) W 62 fn a c Tryd.underlying62
  go_enter Tryd.func33, Tryd.ntmps33
  go_wp2_with (go_at_call 61; refine (Hc.out).mono ?_; rintro e w' ⟨rfl, rfl⟩)
  go_ret
  exact ⟨rfl, (Below.refl _ w).alloc (Nat.le_refl _) _⟩

theorem greatest_any (s : ByteArray) (c k : Int) (mv : Value) (w : World) (hm : MostAt w (actMost k) mv) :
    Calls Tryd.prog 33 #[.agg #[.string s, .int .u32 c, mv]] w fun e w' => e = .returned (.int .i64 (actGreatest k)) ∧ Below w.heap.size w w' := by
  unfold actMost at hm
  unfold actGreatest
  split at hm
  · rw [if_pos ‹_›]; obtain ⟨B, rfl, hB⟩ := hm; exact greatest_some s c 4095 B w hB (by omega) (by omega)
  · split at hm
    · rw [if_neg ‹_›, if_pos ‹_›]; obtain ⟨B, rfl, hB⟩ := hm; exact greatest_some s c 65535 B w hB (by omega) (by omega)
    · rw [if_neg ‹_›, if_neg ‹_›]; cases hm; exact greatest_none s c w

theorem of_any (k : Int) (h1 : 1 ≤ k) (h8 : k ≤ 8) (w : World) : Calls Tryd.prog 29 #[.int .i64 k] w (OfPost k w) := by
  have h : k = 1 ∨ k = 2 ∨ k = 3 ∨ k = 4 ∨ k = 5 ∨ k = 6 ∨ k = 7 ∨ k = 8 := by omega
  rcases h with rfl | rfl | rfl | rfl | rfl | rfl | rfl | rfl
  · exact of_1 w
  · exact of_2 w
  · exact of_3 w
  · exact of_4 w
  · exact of_5 w
  · exact of_6 w
  · exact of_7 w
  · exact of_8 w

set_option maxHeartbeats 1000000 in
theorem of_none (k : Int) (h : k < 1 ∨ 8 < k) (w : World) : Calls Tryd.prog 29 #[.int .i64 k] w fun e w' => e = .returned (.tuple #[.agg #[.string ⟨#[]⟩, .int .u32 0, .nilFunc], .bool false]) ∧ Below w.heap.size w w' := by
  rcases h with h | h
  all_goals
    go_enter Tryd.func29, Tryd.ntmps29
    go_wp2_with (go_at_call 31; refine (rows_any _).mono ?_; rintro e w' ⟨rfl, rfl⟩)
    refine bodyPost_ret (v := .tuple #[.agg #[.string ⟨#[]⟩, .int .u32 0, .nilFunc], .bool false]) (by simp [results, Tryd.results29, go_sem]) rfl ⟨rfl, ?_⟩
    exact ((((Below.refl _ w).alloc (Nat.le_refl _) _).alloc (by simp) _).alloc (by simp; omega) _).alloc (by simp; omega) _

theorem of_plain (k : Int) (h1 : 1 ≤ k) (h8 : k ≤ 8) (h4 : k ≠ 4) (h6 : k ≠ 6) (w : World) :
    Calls Tryd.prog 29 #[.int .i64 k] w fun e w' => e = .returned (.tuple #[.agg #[.string (actWord k), .int .u32 (actCode k), .nilFunc], .bool true]) ∧ Below w.heap.size w w' :=
  (of_any k h1 h8 w).mono fun e w' ⟨mv, he, hm, hb⟩ => by
    unfold actMost at hm; rw [if_neg h4, if_neg h6] at hm; cases hm; exact ⟨he, hb⟩
theorem of_num (k : Int) (hk : k = 4 ∨ k = 6) (w : World) :
    Calls Tryd.prog 29 #[.int .i64 k] w fun e w' => ∃ B, e = .returned (.tuple #[.agg #[.string (actWord k), .int .u32 (actCode k), .func (.func 61) #[] #[.pointer (some ⟨B, 0, none⟩)]], .bool true]) ∧ Blk w' B 3 #[.int .i64 (actGreatest k + 1)] ∧ Below w.heap.size w w' :=
  (of_any k (by omega) (by omega) w).mono fun e w' ⟨mv, he, hm, hb⟩ => by
    rcases hk with rfl | rfl
    · obtain ⟨B, rfl, hB⟩ := hm; exact ⟨B, he, hB, hb⟩
    · obtain ⟨B, rfl, hB⟩ := hm; exact ⟨B, he, hB, hb⟩

set_option maxRecDepth 100000 in
set_option maxHeartbeats 2000000 in
theorem right_none (k n : Int) (h : k < 1 ∨ 8 < k) (w : World) : Calls Tryd.prog 17 #[.agg #[.int .i64 k, .int .i64 n]] w fun e w' => e = .returned (.bool false) ∧ Below w.heap.size w w' := by
  go_enter Tryd.func17, Tryd.ntmps17
  go_wp2_with (go_at_call 29; refine (of_none k h _).mono ?_; rintro e w1 ⟨rfl, hb1⟩)
  go_quiet (fail)
  go_wp2
  go_ret
  have hB1 : Below w.heap.size w w1 := ((Below.refl _ w).alloc (Nat.le_refl _) _).trans (hb1.mono (by simp))
  exact ⟨rfl, below_drewN (hB1.alloc hB1.size _) _⟩

set_option maxRecDepth 100000 in
set_option maxHeartbeats 2000000 in
theorem right_plain_neg (k n : Int) (h1 : 1 ≤ k) (h8 : k ≤ 8) (h4 : k ≠ 4) (h6 : k ≠ 6) (hn : n < 0) (w : World) : Calls Tryd.prog 17 #[.agg #[.int .i64 k, .int .i64 n]] w fun e w' => e = .returned (.bool false) ∧ Below w.heap.size w w' := by
  have hd : decide (0 ≤ n) = false := by simpa using hn
  go_enter Tryd.func17, Tryd.ntmps17
  go_wp2_with (go_at_call 29; refine (of_plain k h1 h8 h4 h6 _).mono ?_; rintro e w1 ⟨rfl, hb1⟩)
  have hA1 := (((Blk.new w 25 #[.int .i64 k, .int .i64 n]).below hb1 (by simp)).alloc (.cells #[.string (actWord k), .int .u32 (actCode k), .nilFunc] 64)).cell 1
  simp only [List.getElem?_toArray, List.getElem?_cons_zero, List.getElem?_cons_succ] at hA1
  go_quiet (fail)
  go_wp2
  go_ret
  have hB1 : Below w.heap.size w w1 := ((Below.refl _ w).alloc (Nat.le_refl _) _).trans (hb1.mono (by simp))
  exact ⟨rfl, below_drewN (hB1.alloc hB1.size _) _⟩

set_option maxRecDepth 100000 in
set_option maxHeartbeats 2000000 in
theorem right_plain (k n : Int) (h1 : 1 ≤ k) (h8 : k ≤ 8) (h4 : k ≠ 4) (h6 : k ≠ 6) (hn : 0 ≤ n) (w : World) : Calls Tryd.prog 17 #[.agg #[.int .i64 k, .int .i64 n]] w fun e w' => e = .returned (.bool (decide (n ≤ 0))) ∧ Below w.heap.size w w' := by
  have hd : decide (0 ≤ n) = true := by simpa using hn
  go_enter Tryd.func17, Tryd.ntmps17
  go_wp2_with (go_at_call 29; refine (of_plain k h1 h8 h4 h6 _).mono ?_; rintro e w1 ⟨rfl, hb1⟩)
  have hsz := hb1.size
  simp at hsz
  have hA1 := (((Blk.new w 25 #[.int .i64 k, .int .i64 n]).below hb1 (by simp)).alloc (.cells #[.string (actWord k), .int .u32 (actCode k), .nilFunc] 64)).cell 1
  simp only [List.getElem?_toArray, List.getElem?_cons_zero, List.getElem?_cons_succ] at hA1
  go_region_held3 (fun w' => w'.cell? ⟨w.heap.size, 1, none⟩ = some (.int .i64 n) ∧ w'.cell? ⟨w1.heap.size, 0, none⟩ = some (.string (actWord k)) ∧ w'.cell? ⟨w1.heap.size, 1, none⟩ = some (.int .u32 (actCode k)) ∧ w'.cell? ⟨w1.heap.size, 2, none⟩ = some .nilFunc) (first | go_keep | exact ⟨cell_later hb2 (by first | assumption | simp), cell_later hb2 (by first | assumption | simp), cell_later hb2 (by first | assumption | simp), cell_later hb2 (by first | assumption | simp)⟩) (first | (go_at_call 33; refine (greatest_none _ _ _).mono ?_; rintro e w2 ⟨rfl, hb2⟩))
  go_wp2
  go_ret
  have hB1 : Below w.heap.size w w1 := ((Below.refl _ w).alloc (Nat.le_refl _) _).trans (hb1.mono (by simp))
  exact ⟨rfl, (hB1.alloc hB1.size _).drew.trans (hb2.mono (by simp; omega))⟩

set_option maxRecDepth 100000 in
set_option maxHeartbeats 2000000 in
theorem right_num_neg (k n : Int) (hk : k = 4 ∨ k = 6) (hn : n < 0) (w : World) : Calls Tryd.prog 17 #[.agg #[.int .i64 k, .int .i64 n]] w fun e w' => e = .returned (.bool false) ∧ Below w.heap.size w w' := by
  have hd : decide (0 ≤ n) = false := by simpa using hn
  have Hk := Lib.hid hk
  clear hk
  go_enter Tryd.func17, Tryd.ntmps17
  go_wp2_with (go_at_call 29; refine (of_num k Hk.out _).mono ?_; rintro e w1 ⟨B, rfl, hB, hb1⟩)
  have hA1 := (((Blk.new w 25 #[.int .i64 k, .int .i64 n]).below hb1 (by simp)).alloc (.cells #[.string (actWord k), .int .u32 (actCode k), .func (.func 61) #[] #[.pointer (some ⟨B, 0, none⟩)]] 64)).cell 1
  simp only [List.getElem?_toArray, List.getElem?_cons_zero, List.getElem?_cons_succ] at hA1
  go_quiet (fail)
  go_wp2
  go_ret
  have hB1 : Below w.heap.size w w1 := ((Below.refl _ w).alloc (Nat.le_refl _) _).trans (hb1.mono (by simp))
  exact ⟨rfl, below_drewN (hB1.alloc hB1.size _) _⟩

set_option maxRecDepth 100000 in
set_option maxHeartbeats 2000000 in
theorem right_num (k n : Int) (hk : k = 4 ∨ k = 6) (hn : 0 ≤ n) (w : World) : Calls Tryd.prog 17 #[.agg #[.int .i64 k, .int .i64 n]] w fun e w' => e = .returned (.bool (decide (n ≤ actGreatest k))) ∧ Below w.heap.size w w' := by
  have hd : decide (0 ≤ n) = true := by simpa using hn
  have g0 : 0 ≤ actGreatest k := by rcases hk with rfl | rfl <;> decide
  have g1 : actGreatest k ≤ 100000 := by rcases hk with rfl | rfl <;> decide
  generalize hg : actGreatest k = g at g0 g1
  have Hg := Lib.hid hg
  have Hk := Lib.hid hk
  clear hk hg
  go_enter Tryd.func17, Tryd.ntmps17
  go_wp2_with (go_at_call 29; refine (of_num k Hk.out _).mono ?_; rintro e w1 ⟨B, rfl, hB, hb1⟩)
  rw [Hg.out] at hB
  have hA1 := (((Blk.new w 25 #[.int .i64 k, .int .i64 n]).below hb1 (by simp)).alloc (.cells #[.string (actWord k), .int .u32 (actCode k), .func (.func 61) #[] #[.pointer (some ⟨B, 0, none⟩)]] 64)).cell 1
  simp only [List.getElem?_toArray, List.getElem?_cons_zero, List.getElem?_cons_succ] at hA1
  have hsz := hb1.size
  simp at hsz
  have hBB := hB.alloc (.cells #[.string (actWord k), .int .u32 (actCode k), .func (.func 61) #[] #[.pointer (some ⟨B, 0, none⟩)]] 64)
  have HB := Lib.hid hBB
  clear hBB hB
  go_region_held3 (fun w' => w'.cell? ⟨w.heap.size, 1, none⟩ = some (.int .i64 n) ∧ w'.cell? ⟨w1.heap.size, 0, none⟩ = some (.string (actWord k)) ∧ w'.cell? ⟨w1.heap.size, 1, none⟩ = some (.int .u32 (actCode k)) ∧ w'.cell? ⟨w1.heap.size, 2, none⟩ = some (.func (.func 61) #[] #[.pointer (some ⟨B, 0, none⟩)])) (first | go_keep | exact ⟨cell_later hb2 (by first | assumption | simp), cell_later hb2 (by first | assumption | simp), cell_later hb2 (by first | assumption | simp), cell_later hb2 (by first | assumption | simp)⟩) (first | (go_at_call 33; refine (greatest_some _ _ g B _ (by exact HB.out) g0 g1).mono ?_; rintro e w2 ⟨rfl, hb2⟩))
  go_wp2
  go_ret
  have hB1 : Below w.heap.size w w1 := ((Below.refl _ w).alloc (Nat.le_refl _) _).trans (hb1.mono (by simp))
  exact ⟨rfl, (hB1.alloc hB1.size _).drew.trans (hb2.mono (by simp; omega))⟩

theorem right_any (k n : Int) (w : World) : Calls Tryd.prog 17 #[.agg #[.int .i64 k, .int .i64 n]] w fun e w' => e = .returned (.bool (actRight k n)) ∧ Below w.heap.size w w' := by
  unfold actRight
  by_cases hk : 1 ≤ k ∧ k ≤ 8
  · obtain ⟨h1, h8⟩ := hk
    by_cases h46 : k = 4 ∨ k = 6
    · by_cases hn : 0 ≤ n
      · refine (right_num k n h46 hn w).mono fun e w' ⟨he, hb⟩ => ⟨he.trans (retB ?_), hb⟩
        simp [h1, h8, hn]
      · refine (right_num_neg k n h46 (by omega) w).mono fun e w' ⟨he, hb⟩ => ⟨he.trans (retB ?_), hb⟩
        simp [hn]
    · have e0 : actGreatest k = 0 := by unfold actGreatest; rw [if_neg (fun h => h46 (.inl h)), if_neg (fun h => h46 (.inr h))]
      by_cases hn : 0 ≤ n
      · refine (right_plain k n h1 h8 (fun h => h46 (.inl h)) (fun h => h46 (.inr h)) hn w).mono fun e w' ⟨he, hb⟩ => ⟨he.trans (retB ?_), hb⟩
        simp [h1, h8, hn, e0]
      · refine (right_plain_neg k n h1 h8 (fun h => h46 (.inl h)) (fun h => h46 (.inr h)) (by omega) w).mono fun e w' ⟨he, hb⟩ => ⟨he.trans (retB ?_), hb⟩
        simp [hn]
  · refine (right_none k n (by omega) w).mono fun e w' ⟨he, hb⟩ => ⟨he.trans (retB ?_), hb⟩
    simp; omega

set_option maxRecDepth 100000 in
set_option maxHeartbeats 2000000 in
theorem code_wrong (k n : Int) (hr : actRight k n = false) (w : World) : Calls Tryd.prog 13 #[.agg #[.int .i64 k, .int .i64 n]] w fun e w' => e = .returned (.tuple #[.int .u32 0, .int .i64 16]) ∧ Below w.heap.size w w' := by
  have hc := right_any k n
  rw [hr] at hc
  have Hc := Lib.hid hc
  clear hc hr
  go_enter Tryd.func13, Tryd.ntmps13
  go_wp2_with (go_at_call 17; refine (Hc.out _).mono ?_; rintro e w1 ⟨rfl, hb1⟩)
  go_ret2
  exact ⟨rfl, ((Below.refl _ w).alloc (Nat.le_refl _) _).trans (hb1.mono (by simp))⟩

theorem code_bounds (k n : Int) (hr : actRight k n = true) : 0 ≤ actCode k + n ∧ actCode k + n < 4294967296 ∧ 0 ≤ n ∧ n ≤ 65535 ∧ 1 ≤ k ∧ k ≤ 8 ∧ 0 ≤ actCode k ∧ actCode k ≤ 2147483648 := by
  unfold actRight at hr
  simp only [decide_eq_true_eq] at hr
  obtain ⟨h1, h8, h0, hg⟩ := hr
  have h : k = 1 ∨ k = 2 ∨ k = 3 ∨ k = 4 ∨ k = 5 ∨ k = 6 ∨ k = 7 ∨ k = 8 := by omega
  rcases h with rfl | rfl | rfl | rfl | rfl | rfl | rfl | rfl <;> simp [actGreatest, actCode] at * <;> omega

set_option maxRecDepth 100000 in
set_option maxHeartbeats 2000000 in
theorem code_plain (k n : Int) (hr : actRight k n = true) (h4 : k ≠ 4) (h6 : k ≠ 6) (w : World) : Calls Tryd.prog 13 #[.agg #[.int .i64 k, .int .i64 n]] w fun e w' => e = .returned (.tuple #[.int .u32 (actCode k + n), .int .i64 0]) ∧ Below w.heap.size w w' := by
  have hc := right_any k n
  obtain ⟨c0, c1, n0, n1, k1, k8, d0, d1⟩ := code_bounds k n hr
  rw [hr] at hc
  have Hc := Lib.hid hc
  clear hc hr
  go_enter Tryd.func13, Tryd.ntmps13
  go_wp2_with (first | (go_at_call 17; refine (Hc.out _).mono ?_; rintro e w1 ⟨rfl, hb1⟩; have hA0 := (((Blk.new w 25 #[.int .i64 k, .int .i64 n]).below hb1 (by simp))).cell 0; have hA1 := (((Blk.new w 25 #[.int .i64 k, .int .i64 n]).below hb1 (by simp))).cell 1; have s1 := hb1.size; simp only [List.getElem?_toArray, List.getElem?_cons_zero, List.getElem?_cons_succ] at hA0 hA1; simp at s1) | (go_at_call 29; refine (of_plain k k1 k8 h4 h6 _).mono ?_; rintro e w2 ⟨rfl, hb2⟩; have hA2 := ((((Blk.new w 25 #[.int .i64 k, .int .i64 n]).below hb1 (by simp)).below hb2 (by omega)).alloc (.cells #[.string (actWord k), .int .u32 (actCode k), .nilFunc] 64)).cell 1; simp only [List.getElem?_toArray, List.getElem?_cons_zero, List.getElem?_cons_succ] at hA2; have s2 := hb2.size))
  go_ret2
  exact ⟨rfl, (((((Below.refl _ w).alloc (Nat.le_refl _) _).trans (hb1.mono (by simp))).trans (hb2.mono (by omega))).alloc (by omega) _)⟩

set_option maxRecDepth 100000 in
set_option maxHeartbeats 2000000 in
theorem code_num (k n : Int) (hr : actRight k n = true) (hk : k = 4 ∨ k = 6) (w : World) : Calls Tryd.prog 13 #[.agg #[.int .i64 k, .int .i64 n]] w fun e w' => e = .returned (.tuple #[.int .u32 (actCode k + n), .int .i64 0]) ∧ Below w.heap.size w w' := by
  have hc := right_any k n
  obtain ⟨c0, c1, n0, n1, k1, k8, d0, d1⟩ := code_bounds k n hr
  rw [hr] at hc
  have Hc := Lib.hid hc
  clear hc hr
  have Hk := Lib.hid hk
  clear hk
  go_enter Tryd.func13, Tryd.ntmps13
  go_wp2_with (first | (go_at_call 17; refine (Hc.out _).mono ?_; rintro e w1 ⟨rfl, hb1⟩; have hA0 := (((Blk.new w 25 #[.int .i64 k, .int .i64 n]).below hb1 (by simp))).cell 0; have hA1 := (((Blk.new w 25 #[.int .i64 k, .int .i64 n]).below hb1 (by simp))).cell 1; have s1 := hb1.size; simp only [List.getElem?_toArray, List.getElem?_cons_zero, List.getElem?_cons_succ] at hA0 hA1; simp at s1) | (go_at_call 29; refine (of_num k Hk.out _).mono ?_; rintro e w2 ⟨B, rfl, hB, hb2⟩; have hA2 := ((((Blk.new w 25 #[.int .i64 k, .int .i64 n]).below hb1 (by simp)).below hb2 (by omega)).alloc (.cells #[.string (actWord k), .int .u32 (actCode k), .func (.func 61) #[] #[.pointer (some ⟨B, 0, none⟩)]] 64)).cell 1; simp only [List.getElem?_toArray, List.getElem?_cons_zero, List.getElem?_cons_succ] at hA2; have s2 := hb2.size))
  go_ret2
  exact ⟨rfl, (((((Below.refl _ w).alloc (Nat.le_refl _) _).trans (hb1.mono (by simp))).trans (hb2.mono (by omega))).alloc (by omega) _)⟩

theorem code_right (k n : Int) (hr : actRight k n = true) (w : World) : Calls Tryd.prog 13 #[.agg #[.int .i64 k, .int .i64 n]] w fun e w' => e = .returned (.tuple #[.int .u32 (actCode k + n), .int .i64 0]) ∧ Below w.heap.size w w' := by
  by_cases hk : k = 4 ∨ k = 6
  · exact code_num k n hr hk w
  · exact code_plain k n hr (fun h => hk (.inl h)) (fun h => hk (.inr h)) w

theorem awake09_any (w : World) : Calls Tryd.prog 19 #[] w fun e w' => e = .returned (.bool true) ∧ Below w.heap.size w w' := by
  have hc : ∀ (W : World), Calls Tryd.prog 13 #[.agg #[.int .i64 4, .int .i64 13]] W fun e w' => e = .returned (.tuple #[.int .u32 327693, .int .i64 0]) ∧ Below W.heap.size W w' := code_right 4 13 (by decide)
  have Hc := Lib.hid hc
  clear hc
  go_enter Tryd.func19, Tryd.ntmps19
  go_wp2_with (go_at_call 13; refine (Hc.out _).mono ?_; rintro e w1 ⟨rfl, hb1⟩)
  go_ret
  exact ⟨rfl, hb1⟩
end Go.Proofs.YtkgmbogmeppmcaaDoor
