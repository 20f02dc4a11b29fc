/- The law ActEdges is true of every kind and number: an errno's number is at most 4095, a trace's at most 65535, any other one's 0. No condition. -/
import Derived.Test.YtddlapcgfhbjdaaActR
import Derived.Test.YtddlapcgfhbjdaaLift
namespace Go.Proofs.Ytddlapcgfhbjdaa.lawActEdges
open Go Go.Proofs Go.RowKit Go.ChangeShapes Go.WideShapes Go.ChangeAt

set_option maxRecDepth 100000 in
set_option maxHeartbeats 400000 in
theorem e4_lo (a n : Int) (ha0 : 0 ≤ a) (ha : a ≤ 255) (hj : a % 8 = 3)  (hn : n < 0) (n0' : -9223372036854775808 ≤ n) (n1' : n ≤ 9223372036854775807) (w : World) :
    Calls Try.prog 4 #[.int .u8 a, .int .i64 n] w fun e w' => e = .returned (.bool true) ∧ Below w.heap.size w w' := by
  have hg : actGreatest (4) = 4095 := by unfold actGreatest; rw [if_pos (by omega)]
  have hr0 : actRight (4) 0 = true := by unfold actRight; rw [hg]; simp; try omega
  have hr1 : actRight (4) n = false := by unfold actRight; rw [hg]; simp; try omega
  have hc0 := code_right (4) 0 hr0
  have hc1 := code_wrong (4) n hr1
  simp only [Int.add_zero] at hc0
  have hb := code_bounds (4) 0 hr0
  clear hg hr0 hr1
  generalize actCode (4) = c at hc0 hc1 hb
  obtain ⟨b0, b1, b2, b3, b4, b5, b6, b7⟩ := hb
  have H0 := Lib.hid hc0
  have H1 := Lib.hid hc1
  clear hc0 hc1
  skip
  go_enter Try.func4, Try.ntmps4
  go_wp2_with fail
  refine (H0.out _).mono ?_
  rintro e w1 ⟨rfl, hb1⟩
  go_wp2_with fail
  refine (H1.out _).mono ?_
  rintro e w2 ⟨rfl, hb2⟩
  go_wp2_with (go_at_call 15; refine (awake09_any _).mono ?_; rintro e w3 ⟨rfl, hb3⟩)
  go_ret
  have s1 := hb1.size
  have s2 := hb2.size
  exact ⟨rfl, (hb1.trans (hb2.mono s1)).trans (hb3.mono (by omega))⟩

set_option maxRecDepth 100000 in
set_option maxHeartbeats 400000 in
theorem e4_hi (a n : Int) (ha0 : 0 ≤ a) (ha : a ≤ 255) (hj : a % 8 = 3)  (hn : 4095 < n) (n0' : -9223372036854775808 ≤ n) (n1' : n ≤ 9223372036854775807) (w : World) :
    Calls Try.prog 4 #[.int .u8 a, .int .i64 n] w fun e w' => e = .returned (.bool true) ∧ Below w.heap.size w w' := by
  have hg : actGreatest (4) = 4095 := by unfold actGreatest; rw [if_pos (by omega)]
  have hr0 : actRight (4) 0 = true := by unfold actRight; rw [hg]; simp; try omega
  have hr1 : actRight (4) n = false := by unfold actRight; rw [hg]; simp; try omega
  have hc0 := code_right (4) 0 hr0
  have hc1 := code_wrong (4) n hr1
  simp only [Int.add_zero] at hc0
  have hb := code_bounds (4) 0 hr0
  clear hg hr0 hr1
  generalize actCode (4) = c at hc0 hc1 hb
  obtain ⟨b0, b1, b2, b3, b4, b5, b6, b7⟩ := hb
  have H0 := Lib.hid hc0
  have H1 := Lib.hid hc1
  clear hc0 hc1
  skip
  go_enter Try.func4, Try.ntmps4
  go_wp2_with fail
  refine (H0.out _).mono ?_
  rintro e w1 ⟨rfl, hb1⟩
  go_wp2_with fail
  refine (H1.out _).mono ?_
  rintro e w2 ⟨rfl, hb2⟩
  go_wp2_with (go_at_call 15; refine (awake09_any _).mono ?_; rintro e w3 ⟨rfl, hb3⟩)
  go_ret
  have s1 := hb1.size
  have s2 := hb2.size
  exact ⟨rfl, (hb1.trans (hb2.mono s1)).trans (hb3.mono (by omega))⟩

set_option maxRecDepth 100000 in
set_option maxHeartbeats 400000 in
theorem e4_in (a n : Int) (ha0 : 0 ≤ a) (ha : a ≤ 255) (hj : a % 8 = 3)  (hn0 : 0 ≤ n) (hn1 : n ≤ 4095) (n0' : -9223372036854775808 ≤ n) (n1' : n ≤ 9223372036854775807) (w : World) :
    Calls Try.prog 4 #[.int .u8 a, .int .i64 n] w fun e w' => e = .returned (.bool true) ∧ Below w.heap.size w w' := by
  have hg : actGreatest (4) = 4095 := by unfold actGreatest; rw [if_pos (by omega)]
  have hr0 : actRight (4) 0 = true := by unfold actRight; rw [hg]; simp; try omega
  have hr1 : actRight (4) n = true := by unfold actRight; rw [hg]; simp; try omega
  have hc0 := code_right (4) 0 hr0
  have hc1 := code_right (4) n hr1
  simp only [Int.add_zero] at hc0
  have hb := code_bounds (4) n hr1
  clear hg hr0 hr1
  generalize actCode (4) = c at hc0 hc1 hb
  obtain ⟨b0, b1, b2, b3, b4, b5, b6, b7⟩ := hb
  have H0 := Lib.hid hc0
  have H1 := Lib.hid hc1
  clear hc0 hc1
  skip
  go_enter Try.func4, Try.ntmps4
  go_wp2_with fail
  refine (H0.out _).mono ?_
  rintro e w1 ⟨rfl, hb1⟩
  go_wp2_with fail
  refine (H1.out _).mono ?_
  rintro e w2 ⟨rfl, hb2⟩
  go_wp2_with (go_at_call 15; refine (awake09_any _).mono ?_; rintro e w3 ⟨rfl, hb3⟩)
  go_ret
  have s1 := hb1.size
  have s2 := hb2.size
  exact ⟨rfl, (hb1.trans (hb2.mono s1)).trans (hb3.mono (by omega))⟩

set_option maxRecDepth 100000 in
set_option maxHeartbeats 400000 in
theorem e6_lo (a n : Int) (ha0 : 0 ≤ a) (ha : a ≤ 255) (hj : a % 8 = 5)  (hn : n < 0) (n0' : -9223372036854775808 ≤ n) (n1' : n ≤ 9223372036854775807) (w : World) :
    Calls Try.prog 4 #[.int .u8 a, .int .i64 n] w fun e w' => e = .returned (.bool true) ∧ Below w.heap.size w w' := by
  have hg : actGreatest (6) = 65535 := by unfold actGreatest; rw [if_neg (by omega), if_pos (by omega)]
  have hr0 : actRight (6) 0 = true := by unfold actRight; rw [hg]; simp; try omega
  have hr1 : actRight (6) n = false := by unfold actRight; rw [hg]; simp; try omega
  have hc0 := code_right (6) 0 hr0
  have hc1 := code_wrong (6) n hr1
  simp only [Int.add_zero] at hc0
  have hb := code_bounds (6) 0 hr0
  clear hg hr0 hr1
  generalize actCode (6) = c at hc0 hc1 hb
  obtain ⟨b0, b1, b2, b3, b4, b5, b6, b7⟩ := hb
  have H0 := Lib.hid hc0
  have H1 := Lib.hid hc1
  clear hc0 hc1
  skip
  go_enter Try.func4, Try.ntmps4
  go_wp2_with fail
  refine (H0.out _).mono ?_
  rintro e w1 ⟨rfl, hb1⟩
  go_wp2_with fail
  refine (H1.out _).mono ?_
  rintro e w2 ⟨rfl, hb2⟩
  go_wp2_with (go_at_call 15; refine (awake09_any _).mono ?_; rintro e w3 ⟨rfl, hb3⟩)
  go_ret
  have s1 := hb1.size
  have s2 := hb2.size
  exact ⟨rfl, (hb1.trans (hb2.mono s1)).trans (hb3.mono (by omega))⟩

set_option maxRecDepth 100000 in
set_option maxHeartbeats 400000 in
theorem e6_hi (a n : Int) (ha0 : 0 ≤ a) (ha : a ≤ 255) (hj : a % 8 = 5)  (hn : 65535 < n) (n0' : -9223372036854775808 ≤ n) (n1' : n ≤ 9223372036854775807) (w : World) :
    Calls Try.prog 4 #[.int .u8 a, .int .i64 n] w fun e w' => e = .returned (.bool true) ∧ Below w.heap.size w w' := by
  have hg : actGreatest (6) = 65535 := by unfold actGreatest; rw [if_neg (by omega), if_pos (by omega)]
  have hr0 : actRight (6) 0 = true := by unfold actRight; rw [hg]; simp; try omega
  have hr1 : actRight (6) n = false := by unfold actRight; rw [hg]; simp; try omega
  have hc0 := code_right (6) 0 hr0
  have hc1 := code_wrong (6) n hr1
  simp only [Int.add_zero] at hc0
  have hb := code_bounds (6) 0 hr0
  clear hg hr0 hr1
  generalize actCode (6) = c at hc0 hc1 hb
  obtain ⟨b0, b1, b2, b3, b4, b5, b6, b7⟩ := hb
  have H0 := Lib.hid hc0
  have H1 := Lib.hid hc1
  clear hc0 hc1
  skip
  go_enter Try.func4, Try.ntmps4
  go_wp2_with fail
  refine (H0.out _).mono ?_
  rintro e w1 ⟨rfl, hb1⟩
  go_wp2_with fail
  refine (H1.out _).mono ?_
  rintro e w2 ⟨rfl, hb2⟩
  go_wp2_with (go_at_call 15; refine (awake09_any _).mono ?_; rintro e w3 ⟨rfl, hb3⟩)
  go_ret
  have s1 := hb1.size
  have s2 := hb2.size
  exact ⟨rfl, (hb1.trans (hb2.mono s1)).trans (hb3.mono (by omega))⟩

set_option maxRecDepth 100000 in
set_option maxHeartbeats 400000 in
theorem e6_in (a n : Int) (ha0 : 0 ≤ a) (ha : a ≤ 255) (hj : a % 8 = 5)  (hn0 : 0 ≤ n) (hn1 : n ≤ 65535) (n0' : -9223372036854775808 ≤ n) (n1' : n ≤ 9223372036854775807) (w : World) :
    Calls Try.prog 4 #[.int .u8 a, .int .i64 n] w fun e w' => e = .returned (.bool true) ∧ Below w.heap.size w w' := by
  have hg : actGreatest (6) = 65535 := by unfold actGreatest; rw [if_neg (by omega), if_pos (by omega)]
  have hr0 : actRight (6) 0 = true := by unfold actRight; rw [hg]; simp; try omega
  have hr1 : actRight (6) n = true := by unfold actRight; rw [hg]; simp; try omega
  have hc0 := code_right (6) 0 hr0
  have hc1 := code_right (6) n hr1
  simp only [Int.add_zero] at hc0
  have hb := code_bounds (6) n hr1
  clear hg hr0 hr1
  generalize actCode (6) = c at hc0 hc1 hb
  obtain ⟨b0, b1, b2, b3, b4, b5, b6, b7⟩ := hb
  have H0 := Lib.hid hc0
  have H1 := Lib.hid hc1
  clear hc0 hc1
  skip
  go_enter Try.func4, Try.ntmps4
  go_wp2_with fail
  refine (H0.out _).mono ?_
  rintro e w1 ⟨rfl, hb1⟩
  go_wp2_with fail
  refine (H1.out _).mono ?_
  rintro e w2 ⟨rfl, hb2⟩
  go_wp2_with (go_at_call 15; refine (awake09_any _).mono ?_; rintro e w3 ⟨rfl, hb3⟩)
  go_ret
  have s1 := hb1.size
  have s2 := hb2.size
  exact ⟨rfl, (hb1.trans (hb2.mono s1)).trans (hb3.mono (by omega))⟩

set_option maxRecDepth 100000 in
set_option maxHeartbeats 400000 in
theorem ex_lo (a j n : Int) (ha0 : 0 ≤ a) (ha : a ≤ 255) (hj : a % 8 = j) (j0 : 0 ≤ j) (j7 : j ≤ 7) (hj3 : j ≠ 3) (hj5 : j ≠ 5) (hn : n < 0) (n0' : -9223372036854775808 ≤ n) (n1' : n ≤ 9223372036854775807) (w : World) :
    Calls Try.prog 4 #[.int .u8 a, .int .i64 n] w fun e w' => e = .returned (.bool true) ∧ Below w.heap.size w w' := by
  have hg : actGreatest (j + 1) = 0 := by unfold actGreatest; rw [if_neg (by omega), if_neg (by omega)]
  have hr0 : actRight (j + 1) 0 = true := by unfold actRight; rw [hg]; simp; try omega
  have hr1 : actRight (j + 1) n = false := by unfold actRight; rw [hg]; simp; try omega
  have hc0 := code_right (j + 1) 0 hr0
  have hc1 := code_wrong (j + 1) n hr1
  simp only [Int.add_zero] at hc0
  have hb := code_bounds (j + 1) 0 hr0
  clear hg hr0 hr1
  generalize actCode (j + 1) = c at hc0 hc1 hb
  obtain ⟨b0, b1, b2, b3, b4, b5, b6, b7⟩ := hb
  have H0 := Lib.hid hc0
  have H1 := Lib.hid hc1
  clear hc0 hc1
  skip
  go_enter Try.func4, Try.ntmps4
  go_wp2_with fail
  refine (H0.out _).mono ?_
  rintro e w1 ⟨rfl, hb1⟩
  go_wp2_with fail
  refine (H1.out _).mono ?_
  rintro e w2 ⟨rfl, hb2⟩
  go_wp2_with (go_at_call 15; refine (awake09_any _).mono ?_; rintro e w3 ⟨rfl, hb3⟩)
  go_ret
  have s1 := hb1.size
  have s2 := hb2.size
  exact ⟨rfl, (hb1.trans (hb2.mono s1)).trans (hb3.mono (by omega))⟩

set_option maxRecDepth 100000 in
set_option maxHeartbeats 400000 in
theorem ex_hi (a j n : Int) (ha0 : 0 ≤ a) (ha : a ≤ 255) (hj : a % 8 = j) (j0 : 0 ≤ j) (j7 : j ≤ 7) (hj3 : j ≠ 3) (hj5 : j ≠ 5) (hn : 0 < n) (n0' : -9223372036854775808 ≤ n) (n1' : n ≤ 9223372036854775807) (w : World) :
    Calls Try.prog 4 #[.int .u8 a, .int .i64 n] w fun e w' => e = .returned (.bool true) ∧ Below w.heap.size w w' := by
  have hg : actGreatest (j + 1) = 0 := by unfold actGreatest; rw [if_neg (by omega), if_neg (by omega)]
  have hr0 : actRight (j + 1) 0 = true := by unfold actRight; rw [hg]; simp; try omega
  have hr1 : actRight (j + 1) n = false := by unfold actRight; rw [hg]; simp; try omega
  have hc0 := code_right (j + 1) 0 hr0
  have hc1 := code_wrong (j + 1) n hr1
  simp only [Int.add_zero] at hc0
  have hb := code_bounds (j + 1) 0 hr0
  clear hg hr0 hr1
  generalize actCode (j + 1) = c at hc0 hc1 hb
  obtain ⟨b0, b1, b2, b3, b4, b5, b6, b7⟩ := hb
  have H0 := Lib.hid hc0
  have H1 := Lib.hid hc1
  clear hc0 hc1
  skip
  go_enter Try.func4, Try.ntmps4
  go_wp2_with fail
  refine (H0.out _).mono ?_
  rintro e w1 ⟨rfl, hb1⟩
  go_wp2_with fail
  refine (H1.out _).mono ?_
  rintro e w2 ⟨rfl, hb2⟩
  go_wp2_with (go_at_call 15; refine (awake09_any _).mono ?_; rintro e w3 ⟨rfl, hb3⟩)
  go_ret
  have s1 := hb1.size
  have s2 := hb2.size
  exact ⟨rfl, (hb1.trans (hb2.mono s1)).trans (hb3.mono (by omega))⟩

set_option maxRecDepth 100000 in
set_option maxHeartbeats 400000 in
theorem ex_in (a j n : Int) (ha0 : 0 ≤ a) (ha : a ≤ 255) (hj : a % 8 = j) (j0 : 0 ≤ j) (j7 : j ≤ 7) (hj3 : j ≠ 3) (hj5 : j ≠ 5) (hn0 : 0 ≤ n) (hn1 : n ≤ 0) (n0' : -9223372036854775808 ≤ n) (n1' : n ≤ 9223372036854775807) (w : World) :
    Calls Try.prog 4 #[.int .u8 a, .int .i64 n] w fun e w' => e = .returned (.bool true) ∧ Below w.heap.size w w' := by
  have hg : actGreatest (j + 1) = 0 := by unfold actGreatest; rw [if_neg (by omega), if_neg (by omega)]
  have hr0 : actRight (j + 1) 0 = true := by unfold actRight; rw [hg]; simp; try omega
  have hr1 : actRight (j + 1) n = true := by unfold actRight; rw [hg]; simp; try omega
  have hc0 := code_right (j + 1) 0 hr0
  have hc1 := code_right (j + 1) n hr1
  simp only [Int.add_zero] at hc0
  have hb := code_bounds (j + 1) n hr1
  clear hg hr0 hr1
  generalize actCode (j + 1) = c at hc0 hc1 hb
  obtain ⟨b0, b1, b2, b3, b4, b5, b6, b7⟩ := hb
  have H0 := Lib.hid hc0
  have H1 := Lib.hid hc1
  clear hc0 hc1
  skip
  go_enter Try.func4, Try.ntmps4
  go_wp2_with fail
  refine (H0.out _).mono ?_
  rintro e w1 ⟨rfl, hb1⟩
  go_wp2_with fail
  refine (H1.out _).mono ?_
  rintro e w2 ⟨rfl, hb2⟩
  go_wp2_with (go_at_call 15; refine (awake09_any _).mono ?_; rintro e w3 ⟨rfl, hb3⟩)
  go_ret
  have s1 := hb1.size
  have s2 := hb2.size
  exact ⟨rfl, (hb1.trans (hb2.mono s1)).trans (hb3.mono (by omega))⟩

theorem walk (a n : Int) (ha0 : 0 ≤ a) (ha : a ≤ 255) (n0' : -9223372036854775808 ≤ n) (n1' : n ≤ 9223372036854775807) (w : World) :
    Calls Try.prog 4 #[.int .u8 a, .int .i64 n] w fun e w' => e = .returned (.bool true) ∧ Below w.heap.size w w' := by
  have j0 : 0 ≤ a % 8 := by omega
  have j7 : a % 8 ≤ 7 := by omega
  by_cases h3 : a % 8 = 3
  · rcases (by omega : n < 0 ∨ 4095 < n ∨ (0 ≤ n ∧ n ≤ 4095)) with h | h | ⟨h, h'⟩
    · exact e4_lo a n ha0 ha h3 h n0' n1' w
    · exact e4_hi a n ha0 ha h3 h n0' n1' w
    · exact e4_in a n ha0 ha h3 h h' n0' n1' w
  by_cases h5 : a % 8 = 5
  · rcases (by omega : n < 0 ∨ 65535 < n ∨ (0 ≤ n ∧ n ≤ 65535)) with h | h | ⟨h, h'⟩
    · exact e6_lo a n ha0 ha h5 h n0' n1' w
    · exact e6_hi a n ha0 ha h5 h n0' n1' w
    · exact e6_in a n ha0 ha h5 h h' n0' n1' w
  · rcases (by omega : n < 0 ∨ 0 < n ∨ (0 ≤ n ∧ n ≤ 0)) with h | h | ⟨h, h'⟩
    · exact ex_lo a _ n ha0 ha rfl j0 j7 h3 h5 h n0' n1' w
    · exact ex_hi a _ n ha0 ha rfl j0 j7 h3 h5 h n0' n1' w
    · exact ex_in a _ n ha0 ha rfl j0 j7 h3 h5 h h' n0' n1' w

theorem own : ownKnob Try.prog.godebug = none := by kernel_rfl

set_option maxRecDepth 100000 in
theorem lifted (os : Os) (started : os.Started) (H : Type) (enc : TypeId × Value → H) :
    ReturnsInHanded {} Try.checked os 4 .any (Rows.actEdgesSpec.pre6 enc Try.prog Try.f4 Rows.actEdgesRow.domain false) (Rows.actEdgesSpec.post enc Try.prog Try.f4 false true false false) := by
  refine lift_law (C := Try.checked) (tb := 4) own started (by kernel_rfl) Try.func4
    (ChangeSpec.witness6 (enc := enc) (C := Try.checked) false ⟨#[], #[.int .u8 0, .int .i64 0], []⟩ 8 (by kernel_rfl) (by kernel_rfl) (by kernel_rfl) (by kernel_rfl))
    rfl (by kernel_rfl) (by kernel_rfl) (of_decide_eq_true (by kernel_rfl)) ?_ rfl Try.underlying4 ?_
  · intro ds hds
    match ds, hds with
    | [d1, d2], _ => rfl
  · intro W base args ds p hval hA hlt hsz
    rw [Try.params4] at hA hval hsz
    obtain ⟨v0, vs0, d0, ds0, p0, q0, hargs, rfl, rfl, h0, r0⟩ := trodAll_cons hA
    obtain ⟨v1, vs1, d1, ds1, p1, q1, rfl, rfl, rfl, h1, r1⟩ := trodAll_cons r0
    obtain ⟨rfl, rfl, rfl⟩ := trodAll_nil r1
    obtain rfl : args = #[v0, v1] := by cases args; simp_all
    obtain ⟨a0, rfl, rfl, rfl, w0⟩ := open_int Try.underlying5 (hval 0 5 v0 rfl rfl) h0
    obtain ⟨a1, rfl, rfl, rfl, w1⟩ := open_int Try.underlying3 (hval 1 3 v1 rfl rfl) h1
    have b0 := bounds_u8 w0
    have b1 := bounds_i64 w1
    exact walk a0 a1 (by omega) (by omega) (by omega) (by omega) W

/-- The statement. -/
theorem proved : Rows.ActEdgesSaid :=
  OpenClaim.holds_of_wide 4 Try.f4 rfl rfl rfl rfl rfl rfl rfl ⟨rfl, rfl, rfl, rfl, rfl⟩ rfl rfl rfl rfl rfl (by kernel_rfl) Try.func4 (by kernel_rfl)
    (of_decide_eq_true (by kernel_rfl)) (by unfold Func.isWrapper; first | (rw [if_pos (by decide +kernel)]; kernel_rfl) | (rw [if_neg (by decide +kernel)]; exact ⟨rfl, rfl⟩))
    (fun os started H enc _ => lifted os started H enc)
#print axioms proved
end Go.Proofs.Ytddlapcgfhbjdaa.lawActEdges
