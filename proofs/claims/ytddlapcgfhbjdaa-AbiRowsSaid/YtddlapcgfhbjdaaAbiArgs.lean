/- abi.Args: the arguments as an ABI sees them. -/
import Derived.Test.YtddlapcgfhbjdaaAbiOf
import Derived.Test.YtddlapcgfhbjdaaAbiFn
import Derived.BigQuiet
import Derived.Deep.QuietTactic
namespace Go.Proofs.Ytddlapcgfhbjdaa
open Go Go.Proofs Go.RowKit

theorem refArg_any (a x : Int) (h0 : 0 ≤ x) (h1 : x < 18446744073709551616) (w : World) : Calls Try.prog 22 #[.int .i64 a, .int .u64 x] w fun e w' => e = .returned (.int .u64 (if a = 2 then x % 4294967296 else x)) ∧ w = w' := by
  by_cases ha : a = 2
  · go_enter Try.func22, Try.ntmps22
    go_wp2
    go_ret
    exact ⟨retI (by first | rfl | simp [ha]), rfl⟩
  · go_enter Try.func22, Try.ntmps22
    go_wp2
    go_ret
    exact ⟨retI (by first | rfl | simp [ha]), rfl⟩

set_option maxRecDepth 100000 in
set_option maxHeartbeats 2000000 in
theorem args_two (nu ar po x0 x1 x2 x3 x4 x5 : Int) (h0a : 0 ≤ x0) (h0b : x0 < 18446744073709551616) (h1a : 0 ≤ x1) (h1b : x1 < 18446744073709551616) (h2a : 0 ≤ x2) (h2b : x2 < 18446744073709551616) (h3a : 0 ≤ x3) (h3b : x3 < 18446744073709551616) (h4a : 0 ≤ x4) (h4b : x4 < 18446744073709551616) (h5a : 0 ≤ x5) (h5b : x5 < 18446744073709551616) (w : World) :
    Calls Try.prog 21 #[.int .i64 2, .agg #[.int .u32 nu, .int .u32 ar, .int .u64 po, .int .u64 x0, .int .u64 x1, .int .u64 x2, .int .u64 x3, .int .u64 x4, .int .u64 x5]] w fun e w' => e = .returned (.agg #[.int .u64 (x0 % 4294967296), .int .u64 (x1 % 4294967296), .int .u64 (x2 % 4294967296), .int .u64 (x3 % 4294967296), .int .u64 (x4 % 4294967296), .int .u64 (x5 % 4294967296)]) ∧ Below w.heap.size w w' := by
  have hof : ∀ (W : World), Calls Try.prog 16 #[.int .i64 2] W fun e w' => e = .returned (.tuple #[.agg #[.string ⟨#[105, 51, 56, 54]⟩, .int .u32 1073741827, .bool false, .int .i64 32], .int .i64 0]) ∧ Below W.heap.size W w' := of_any 2
  have Hof := Lib.hid hof
  clear hof
  go_enter Try.func21, Try.ntmps21
  go_wp2_with (go_at_call 16; refine (Hof.out _).mono ?_; rintro e w1 ⟨rfl, hb1⟩)
  have bT := ((((Blk.new (w.alloc (.cells #[.int .u32 nu, .int .u32 ar, .int .u64 po, .int .u64 x0, .int .u64 x1, .int .u64 x2, .int .u64 x3, .int .u64 x4, .int .u64 x5] 53)) 50 #[.int .u64 0, .int .u64 0, .int .u64 0, .int .u64 0, .int .u64 0, .int .u64 0]).alloc (.cells #[.int .u64 x0, .int .u64 x1, .int .u64 x2, .int .u64 x3, .int .u64 x4, .int .u64 x5] 50)).below hb1 (by simp)).alloc (.cells #[.string ⟨#[105, 51, 56, 54]⟩, .int .u32 1073741827, .bool false, .int .i64 32] 36))
  have bX := (((Blk.new ((w.alloc (.cells #[.int .u32 nu, .int .u32 ar, .int .u64 po, .int .u64 x0, .int .u64 x1, .int .u64 x2, .int .u64 x3, .int .u64 x4, .int .u64 x5] 53)).alloc (.cells #[.int .u64 0, .int .u64 0, .int .u64 0, .int .u64 0, .int .u64 0, .int .u64 0] 50)) 50 #[.int .u64 x0, .int .u64 x1, .int .u64 x2, .int .u64 x3, .int .u64 x4, .int .u64 x5]).below hb1 (by simp)).alloc (.cells #[.string ⟨#[105, 51, 56, 54]⟩, .int .u32 1073741827, .bool false, .int .i64 32] 36))
  have s1 := hb1.size
  simp only [World.size_alloc] at bT bX s1
  have hB1 : Below w.heap.size w (w1.alloc (.cells #[.string ⟨#[105, 51, 56, 54]⟩, .int .u32 1073741827, .bool false, .int .i64 32] 36)) := ((((((Below.refl _ w).alloc (Nat.le_refl _) _).alloc (by simp) _).alloc (by simp; omega) _).trans (hb1.mono (by simp; omega))).alloc (by omega) _)
  go_loopw [23] (fun i wr => ((i = .int .i64 0 ∧ Blk wr (w.heap.size + 1 + 1) 50 #[.int .u64 x0, .int .u64 x1, .int .u64 x2, .int .u64 x3, .int .u64 x4, .int .u64 x5]) ∨ (i = .int .i64 1 ∧ Blk wr (w.heap.size + 1 + 1) 50 #[.int .u64 (x0 % 4294967296), .int .u64 x1, .int .u64 x2, .int .u64 x3, .int .u64 x4, .int .u64 x5]) ∨ (i = .int .i64 2 ∧ Blk wr (w.heap.size + 1 + 1) 50 #[.int .u64 (x0 % 4294967296), .int .u64 (x1 % 4294967296), .int .u64 x2, .int .u64 x3, .int .u64 x4, .int .u64 x5]) ∨ (i = .int .i64 3 ∧ Blk wr (w.heap.size + 1 + 1) 50 #[.int .u64 (x0 % 4294967296), .int .u64 (x1 % 4294967296), .int .u64 (x2 % 4294967296), .int .u64 x3, .int .u64 x4, .int .u64 x5]) ∨ (i = .int .i64 4 ∧ Blk wr (w.heap.size + 1 + 1) 50 #[.int .u64 (x0 % 4294967296), .int .u64 (x1 % 4294967296), .int .u64 (x2 % 4294967296), .int .u64 (x3 % 4294967296), .int .u64 x4, .int .u64 x5]) ∨ (i = .int .i64 5 ∧ Blk wr (w.heap.size + 1 + 1) 50 #[.int .u64 (x0 % 4294967296), .int .u64 (x1 % 4294967296), .int .u64 (x2 % 4294967296), .int .u64 (x3 % 4294967296), .int .u64 (x4 % 4294967296), .int .u64 x5]) ∨ (i = .int .i64 6 ∧ Blk wr (w.heap.size + 1 + 1) 50 #[.int .u64 (x0 % 4294967296), .int .u64 (x1 % 4294967296), .int .u64 (x2 % 4294967296), .int .u64 (x3 % 4294967296), .int .u64 (x4 % 4294967296), .int .u64 (x5 % 4294967296)])) ∧ Blk wr (w.heap.size + 1) 50 #[.int .u64 0, .int .u64 0, .int .u64 0, .int .u64 0, .int .u64 0, .int .u64 0] ∧ Below w.heap.size w wr) (fun i _ => 6 - (intOf i).toNat)
  case atStart => exact ⟨.inl ⟨rfl, bX⟩, bT, hB1⟩
  case round =>
    clear bT bX
    obtain ⟨hrel, bT, hB⟩ := hrel
    have fT0 := bT.frozen 0
    have fT1 := bT.frozen 1
    have fT2 := bT.frozen 2
    have fT3 := bT.frozen 3
    have fT4 := bT.frozen 4
    have fT5 := bT.frozen 5
    rcases hrel with ⟨rfl, bX⟩ | ⟨rfl, bX⟩ | ⟨rfl, bX⟩ | ⟨rfl, bX⟩ | ⟨rfl, bX⟩ | ⟨rfl, bX⟩ | ⟨rfl, bX⟩
    · have cc := bX.cell 0
      have ff := bX.frozen 0
      simp only [List.getElem?_toArray, List.getElem?_cons_zero, List.getElem?_cons_succ] at cc
      go_wp2
      go_roundw
      case rel => exact ⟨.inr (.inl ⟨rfl, bX.set 0 (.int .u64 (x0 % 4294967296))⟩), bT.other (B' := w.heap.size + 1 + 1) (by omega) 0 _, hB.setCell (p := ⟨w.heap.size + 1 + 1, 0, none⟩) (by simp; omega) _⟩
      case measure => simp [intOf]
    · have cc := bX.cell 1
      have ff := bX.frozen 1
      simp only [List.getElem?_toArray, List.getElem?_cons_zero, List.getElem?_cons_succ] at cc
      go_wp2
      go_roundw
      case rel => exact ⟨.inr (.inr (.inl ⟨rfl, bX.set 1 (.int .u64 (x1 % 4294967296))⟩)), bT.other (B' := w.heap.size + 1 + 1) (by omega) 1 _, hB.setCell (p := ⟨w.heap.size + 1 + 1, 1, none⟩) (by simp; omega) _⟩
      case measure => simp [intOf]
    · have cc := bX.cell 2
      have ff := bX.frozen 2
      simp only [List.getElem?_toArray, List.getElem?_cons_zero, List.getElem?_cons_succ] at cc
      go_wp2
      go_roundw
      case rel => exact ⟨.inr (.inr (.inr (.inl ⟨rfl, bX.set 2 (.int .u64 (x2 % 4294967296))⟩))), bT.other (B' := w.heap.size + 1 + 1) (by omega) 2 _, hB.setCell (p := ⟨w.heap.size + 1 + 1, 2, none⟩) (by simp; omega) _⟩
      case measure => simp [intOf]
    · have cc := bX.cell 3
      have ff := bX.frozen 3
      simp only [List.getElem?_toArray, List.getElem?_cons_zero, List.getElem?_cons_succ] at cc
      go_wp2
      go_roundw
      case rel => exact ⟨.inr (.inr (.inr (.inr (.inl ⟨rfl, bX.set 3 (.int .u64 (x3 % 4294967296))⟩)))), bT.other (B' := w.heap.size + 1 + 1) (by omega) 3 _, hB.setCell (p := ⟨w.heap.size + 1 + 1, 3, none⟩) (by simp; omega) _⟩
      case measure => simp [intOf]
    · have cc := bX.cell 4
      have ff := bX.frozen 4
      simp only [List.getElem?_toArray, List.getElem?_cons_zero, List.getElem?_cons_succ] at cc
      go_wp2
      go_roundw
      case rel => exact ⟨.inr (.inr (.inr (.inr (.inr (.inl ⟨rfl, bX.set 4 (.int .u64 (x4 % 4294967296))⟩))))), bT.other (B' := w.heap.size + 1 + 1) (by omega) 4 _, hB.setCell (p := ⟨w.heap.size + 1 + 1, 4, none⟩) (by simp; omega) _⟩
      case measure => simp [intOf]
    · have cc := bX.cell 5
      have ff := bX.frozen 5
      simp only [List.getElem?_toArray, List.getElem?_cons_zero, List.getElem?_cons_succ] at cc
      go_wp2
      go_roundw
      case rel => exact ⟨.inr (.inr (.inr (.inr (.inr (.inr (⟨rfl, bX.set 5 (.int .u64 (x5 % 4294967296))⟩)))))), bT.other (B' := w.heap.size + 1 + 1) (by omega) 5 _, hB.setCell (p := ⟨w.heap.size + 1 + 1, 5, none⟩) (by simp; omega) _⟩
      case measure => simp [intOf]
    · have c0 := bX.cell 0
      have c1 := bX.cell 1
      have c2 := bX.cell 2
      have c3 := bX.cell 3
      have c4 := bX.cell 4
      have c5 := bX.cell 5
      have t0 := bT.cell 0
      have t1 := bT.cell 1
      have t2 := bT.cell 2
      have t3 := bT.cell 3
      have t4 := bT.cell 4
      have t5 := bT.cell 5
      simp only [List.getElem?_toArray, List.getElem?_cons_zero, List.getElem?_cons_succ] at c0 c1 c2 c3 c4 c5 t0 t1 t2 t3 t4 t5
      go_wp2
      have bF := ((((((bT.set 0 (.int .u64 (x0 % 4294967296))).set 1 (.int .u64 (x1 % 4294967296))).set 2 (.int .u64 (x2 % 4294967296))).set 3 (.int .u64 (x3 % 4294967296))).set 4 (.int .u64 (x4 % 4294967296))).set 5 (.int .u64 (x5 % 4294967296)))
      have d0 := bF.cell 0
      have d1 := bF.cell 1
      have d2 := bF.cell 2
      have d3 := bF.cell 3
      have d4 := bF.cell 4
      have d5 := bF.cell 5
      simp at d0 d1 d2 d3 d4 d5
      refine bodyPost_ret (v := .agg #[.int .u64 (x0 % 4294967296), .int .u64 (x1 % 4294967296), .int .u64 (x2 % 4294967296), .int .u64 (x3 % 4294967296), .int .u64 (x4 % 4294967296), .int .u64 (x5 % 4294967296)]) (by simp [results, Try.results21, go_sem, d0, d1, d2, d3, d4, d5]) rfl ⟨rfl, ?_⟩
      exact ((((((hB.setCell (p := ⟨w.heap.size + 1, 0, none⟩) (by simp) _).setCell (p := ⟨w.heap.size + 1, 1, none⟩) (by simp) _).setCell (p := ⟨w.heap.size + 1, 2, none⟩) (by simp) _).setCell (p := ⟨w.heap.size + 1, 3, none⟩) (by simp) _).setCell (p := ⟨w.heap.size + 1, 4, none⟩) (by simp) _).setCell (p := ⟨w.heap.size + 1, 5, none⟩) (by simp) _)

set_option maxRecDepth 100000 in
set_option maxHeartbeats 1000000 in
theorem args_0 (nu ar po x0 x1 x2 x3 x4 x5 : Int) (w : World) :
    Calls Try.prog 21 #[.int .i64 0, .agg #[.int .u32 nu, .int .u32 ar, .int .u64 po, .int .u64 x0, .int .u64 x1, .int .u64 x2, .int .u64 x3, .int .u64 x4, .int .u64 x5]] w fun e w' => e = .returned (.agg #[.int .u64 x0, .int .u64 x1, .int .u64 x2, .int .u64 x3, .int .u64 x4, .int .u64 x5]) ∧ Below w.heap.size w w' := by
  have hof : ∀ (W : World), Calls Try.prog 16 #[.int .i64 0] W fun e w' => e = .returned (.tuple #[.agg #[.string ⟨#[120, 56, 54, 95, 54, 52]⟩, .int .u32 3221225534, .bool false, .int .i64 64], .int .i64 0]) ∧ Below W.heap.size W w' := of_any 0
  have Hof := Lib.hid hof
  clear hof
  go_enter Try.func21, Try.ntmps21
  go_wp2_with (go_at_call 16; refine (Hof.out _).mono ?_; rintro e w1 ⟨rfl, hb1⟩; have bT := ((((Blk.new (w.alloc (.cells #[.int .u32 nu, .int .u32 ar, .int .u64 po, .int .u64 x0, .int .u64 x1, .int .u64 x2, .int .u64 x3, .int .u64 x4, .int .u64 x5] 53)) 50 #[.int .u64 0, .int .u64 0, .int .u64 0, .int .u64 0, .int .u64 0, .int .u64 0]).alloc (.cells #[.int .u64 x0, .int .u64 x1, .int .u64 x2, .int .u64 x3, .int .u64 x4, .int .u64 x5] 50)).below hb1 (by simp)).alloc (.cells #[.string ⟨#[120, 56, 54, 95, 54, 52]⟩, .int .u32 3221225534, .bool false, .int .i64 64] 36)); have bX := (((Blk.new ((w.alloc (.cells #[.int .u32 nu, .int .u32 ar, .int .u64 po, .int .u64 x0, .int .u64 x1, .int .u64 x2, .int .u64 x3, .int .u64 x4, .int .u64 x5] 53)).alloc (.cells #[.int .u64 0, .int .u64 0, .int .u64 0, .int .u64 0, .int .u64 0, .int .u64 0] 50)) 50 #[.int .u64 x0, .int .u64 x1, .int .u64 x2, .int .u64 x3, .int .u64 x4, .int .u64 x5]).below hb1 (by simp)).alloc (.cells #[.string ⟨#[120, 56, 54, 95, 54, 52]⟩, .int .u32 3221225534, .bool false, .int .i64 64] 36)); have s1 := hb1.size; simp only [World.size_alloc] at bT bX s1; have t0 := bX.cell 0; have t1 := bX.cell 1; have t2 := bX.cell 2; have t3 := bX.cell 3; have t4 := bX.cell 4; have t5 := bX.cell 5; have u0 := bT.cell 0; have u1 := bT.cell 1; have u2 := bT.cell 2; have u3 := bT.cell 3; have u4 := bT.cell 4; have u5 := bT.cell 5; simp only [List.getElem?_toArray, List.getElem?_cons_zero, List.getElem?_cons_succ] at t0 t1 t2 t3 t4 t5 u0 u1 u2 u3 u4 u5; have g0 := bT.frozen 0; have g1 := bT.frozen 1; have g2 := bT.frozen 2; have g3 := bT.frozen 3; have g4 := bT.frozen 4; have g5 := bT.frozen 5)
  have hB : Below w.heap.size w (w1.alloc (.cells #[.string ⟨#[120, 56, 54, 95, 54, 52]⟩, .int .u32 3221225534, .bool false, .int .i64 64] 36)) := ((((((Below.refl _ w).alloc (Nat.le_refl _) _).alloc (by simp) _).alloc (by simp; omega) _).trans (hb1.mono (by simp; omega))).alloc (by omega) _)
  have bF := ((((((bT.set 0 (.int .u64 x0)).set 1 (.int .u64 x1)).set 2 (.int .u64 x2)).set 3 (.int .u64 x3)).set 4 (.int .u64 x4)).set 5 (.int .u64 x5))
  have d0 := bF.cell 0
  have d1 := bF.cell 1
  have d2 := bF.cell 2
  have d3 := bF.cell 3
  have d4 := bF.cell 4
  have d5 := bF.cell 5
  simp at d0 d1 d2 d3 d4 d5
  refine bodyPost_ret (v := .agg #[.int .u64 x0, .int .u64 x1, .int .u64 x2, .int .u64 x3, .int .u64 x4, .int .u64 x5]) (by simp [results, Try.results21, go_sem, d0, d1, d2, d3, d4, d5]) rfl ⟨rfl, ?_⟩
  exact ((((((hB.setCell (p := ⟨w.heap.size + 1, 0, none⟩) (by simp) _).setCell (p := ⟨w.heap.size + 1, 1, none⟩) (by simp) _).setCell (p := ⟨w.heap.size + 1, 2, none⟩) (by simp) _).setCell (p := ⟨w.heap.size + 1, 3, none⟩) (by simp) _).setCell (p := ⟨w.heap.size + 1, 4, none⟩) (by simp) _).setCell (p := ⟨w.heap.size + 1, 5, none⟩) (by simp) _)

set_option maxRecDepth 100000 in
set_option maxHeartbeats 1000000 in
theorem args_1 (nu ar po x0 x1 x2 x3 x4 x5 : Int) (w : World) :
    Calls Try.prog 21 #[.int .i64 1, .agg #[.int .u32 nu, .int .u32 ar, .int .u64 po, .int .u64 x0, .int .u64 x1, .int .u64 x2, .int .u64 x3, .int .u64 x4, .int .u64 x5]] w fun e w' => e = .returned (.agg #[.int .u64 x0, .int .u64 x1, .int .u64 x2, .int .u64 x3, .int .u64 x4, .int .u64 x5]) ∧ Below w.heap.size w w' := by
  have hof : ∀ (W : World), Calls Try.prog 16 #[.int .i64 1] W fun e w' => e = .returned (.tuple #[.agg #[.string ⟨#[120, 51, 50]⟩, .int .u32 3221225534, .bool true, .int .i64 64], .int .i64 0]) ∧ Below W.heap.size W w' := of_any 1
  have Hof := Lib.hid hof
  clear hof
  go_enter Try.func21, Try.ntmps21
  go_wp2_with (go_at_call 16; refine (Hof.out _).mono ?_; rintro e w1 ⟨rfl, hb1⟩; have bT := ((((Blk.new (w.alloc (.cells #[.int .u32 nu, .int .u32 ar, .int .u64 po, .int .u64 x0, .int .u64 x1, .int .u64 x2, .int .u64 x3, .int .u64 x4, .int .u64 x5] 53)) 50 #[.int .u64 0, .int .u64 0, .int .u64 0, .int .u64 0, .int .u64 0, .int .u64 0]).alloc (.cells #[.int .u64 x0, .int .u64 x1, .int .u64 x2, .int .u64 x3, .int .u64 x4, .int .u64 x5] 50)).below hb1 (by simp)).alloc (.cells #[.string ⟨#[120, 51, 50]⟩, .int .u32 3221225534, .bool true, .int .i64 64] 36)); have bX := (((Blk.new ((w.alloc (.cells #[.int .u32 nu, .int .u32 ar, .int .u64 po, .int .u64 x0, .int .u64 x1, .int .u64 x2, .int .u64 x3, .int .u64 x4, .int .u64 x5] 53)).alloc (.cells #[.int .u64 0, .int .u64 0, .int .u64 0, .int .u64 0, .int .u64 0, .int .u64 0] 50)) 50 #[.int .u64 x0, .int .u64 x1, .int .u64 x2, .int .u64 x3, .int .u64 x4, .int .u64 x5]).below hb1 (by simp)).alloc (.cells #[.string ⟨#[120, 51, 50]⟩, .int .u32 3221225534, .bool true, .int .i64 64] 36)); have s1 := hb1.size; simp only [World.size_alloc] at bT bX s1; have t0 := bX.cell 0; have t1 := bX.cell 1; have t2 := bX.cell 2; have t3 := bX.cell 3; have t4 := bX.cell 4; have t5 := bX.cell 5; have u0 := bT.cell 0; have u1 := bT.cell 1; have u2 := bT.cell 2; have u3 := bT.cell 3; have u4 := bT.cell 4; have u5 := bT.cell 5; simp only [List.getElem?_toArray, List.getElem?_cons_zero, List.getElem?_cons_succ] at t0 t1 t2 t3 t4 t5 u0 u1 u2 u3 u4 u5; have g0 := bT.frozen 0; have g1 := bT.frozen 1; have g2 := bT.frozen 2; have g3 := bT.frozen 3; have g4 := bT.frozen 4; have g5 := bT.frozen 5)
  have hB : Below w.heap.size w (w1.alloc (.cells #[.string ⟨#[120, 51, 50]⟩, .int .u32 3221225534, .bool true, .int .i64 64] 36)) := ((((((Below.refl _ w).alloc (Nat.le_refl _) _).alloc (by simp) _).alloc (by simp; omega) _).trans (hb1.mono (by simp; omega))).alloc (by omega) _)
  have bF := ((((((bT.set 0 (.int .u64 x0)).set 1 (.int .u64 x1)).set 2 (.int .u64 x2)).set 3 (.int .u64 x3)).set 4 (.int .u64 x4)).set 5 (.int .u64 x5))
  have d0 := bF.cell 0
  have d1 := bF.cell 1
  have d2 := bF.cell 2
  have d3 := bF.cell 3
  have d4 := bF.cell 4
  have d5 := bF.cell 5
  simp at d0 d1 d2 d3 d4 d5
  refine bodyPost_ret (v := .agg #[.int .u64 x0, .int .u64 x1, .int .u64 x2, .int .u64 x3, .int .u64 x4, .int .u64 x5]) (by simp [results, Try.results21, go_sem, d0, d1, d2, d3, d4, d5]) rfl ⟨rfl, ?_⟩
  exact ((((((hB.setCell (p := ⟨w.heap.size + 1, 0, none⟩) (by simp) _).setCell (p := ⟨w.heap.size + 1, 1, none⟩) (by simp) _).setCell (p := ⟨w.heap.size + 1, 2, none⟩) (by simp) _).setCell (p := ⟨w.heap.size + 1, 3, none⟩) (by simp) _).setCell (p := ⟨w.heap.size + 1, 4, none⟩) (by simp) _).setCell (p := ⟨w.heap.size + 1, 5, none⟩) (by simp) _)

set_option maxRecDepth 100000 in
set_option maxHeartbeats 1000000 in
theorem args_3 (nu ar po x0 x1 x2 x3 x4 x5 : Int) (w : World) :
    Calls Try.prog 21 #[.int .i64 3, .agg #[.int .u32 nu, .int .u32 ar, .int .u64 po, .int .u64 x0, .int .u64 x1, .int .u64 x2, .int .u64 x3, .int .u64 x4, .int .u64 x5]] w fun e w' => e = .returned (.agg #[.int .u64 x0, .int .u64 x1, .int .u64 x2, .int .u64 x3, .int .u64 x4, .int .u64 x5]) ∧ Below w.heap.size w w' := by
  have hof : ∀ (W : World), Calls Try.prog 16 #[.int .i64 3] W fun e w' => e = .returned (.tuple #[.agg #[.string ⟨#[97, 114, 109, 54, 52]⟩, .int .u32 3221225655, .bool false, .int .i64 64], .int .i64 0]) ∧ Below W.heap.size W w' := of_any 3
  have Hof := Lib.hid hof
  clear hof
  go_enter Try.func21, Try.ntmps21
  go_wp2_with (go_at_call 16; refine (Hof.out _).mono ?_; rintro e w1 ⟨rfl, hb1⟩; have bT := ((((Blk.new (w.alloc (.cells #[.int .u32 nu, .int .u32 ar, .int .u64 po, .int .u64 x0, .int .u64 x1, .int .u64 x2, .int .u64 x3, .int .u64 x4, .int .u64 x5] 53)) 50 #[.int .u64 0, .int .u64 0, .int .u64 0, .int .u64 0, .int .u64 0, .int .u64 0]).alloc (.cells #[.int .u64 x0, .int .u64 x1, .int .u64 x2, .int .u64 x3, .int .u64 x4, .int .u64 x5] 50)).below hb1 (by simp)).alloc (.cells #[.string ⟨#[97, 114, 109, 54, 52]⟩, .int .u32 3221225655, .bool false, .int .i64 64] 36)); have bX := (((Blk.new ((w.alloc (.cells #[.int .u32 nu, .int .u32 ar, .int .u64 po, .int .u64 x0, .int .u64 x1, .int .u64 x2, .int .u64 x3, .int .u64 x4, .int .u64 x5] 53)).alloc (.cells #[.int .u64 0, .int .u64 0, .int .u64 0, .int .u64 0, .int .u64 0, .int .u64 0] 50)) 50 #[.int .u64 x0, .int .u64 x1, .int .u64 x2, .int .u64 x3, .int .u64 x4, .int .u64 x5]).below hb1 (by simp)).alloc (.cells #[.string ⟨#[97, 114, 109, 54, 52]⟩, .int .u32 3221225655, .bool false, .int .i64 64] 36)); have s1 := hb1.size; simp only [World.size_alloc] at bT bX s1; have t0 := bX.cell 0; have t1 := bX.cell 1; have t2 := bX.cell 2; have t3 := bX.cell 3; have t4 := bX.cell 4; have t5 := bX.cell 5; have u0 := bT.cell 0; have u1 := bT.cell 1; have u2 := bT.cell 2; have u3 := bT.cell 3; have u4 := bT.cell 4; have u5 := bT.cell 5; simp only [List.getElem?_toArray, List.getElem?_cons_zero, List.getElem?_cons_succ] at t0 t1 t2 t3 t4 t5 u0 u1 u2 u3 u4 u5; have g0 := bT.frozen 0; have g1 := bT.frozen 1; have g2 := bT.frozen 2; have g3 := bT.frozen 3; have g4 := bT.frozen 4; have g5 := bT.frozen 5)
  have hB : Below w.heap.size w (w1.alloc (.cells #[.string ⟨#[97, 114, 109, 54, 52]⟩, .int .u32 3221225655, .bool false, .int .i64 64] 36)) := ((((((Below.refl _ w).alloc (Nat.le_refl _) _).alloc (by simp) _).alloc (by simp; omega) _).trans (hb1.mono (by simp; omega))).alloc (by omega) _)
  have bF := ((((((bT.set 0 (.int .u64 x0)).set 1 (.int .u64 x1)).set 2 (.int .u64 x2)).set 3 (.int .u64 x3)).set 4 (.int .u64 x4)).set 5 (.int .u64 x5))
  have d0 := bF.cell 0
  have d1 := bF.cell 1
  have d2 := bF.cell 2
  have d3 := bF.cell 3
  have d4 := bF.cell 4
  have d5 := bF.cell 5
  simp at d0 d1 d2 d3 d4 d5
  refine bodyPost_ret (v := .agg #[.int .u64 x0, .int .u64 x1, .int .u64 x2, .int .u64 x3, .int .u64 x4, .int .u64 x5]) (by simp [results, Try.results21, go_sem, d0, d1, d2, d3, d4, d5]) rfl ⟨rfl, ?_⟩
  exact ((((((hB.setCell (p := ⟨w.heap.size + 1, 0, none⟩) (by simp) _).setCell (p := ⟨w.heap.size + 1, 1, none⟩) (by simp) _).setCell (p := ⟨w.heap.size + 1, 2, none⟩) (by simp) _).setCell (p := ⟨w.heap.size + 1, 3, none⟩) (by simp) _).setCell (p := ⟨w.heap.size + 1, 4, none⟩) (by simp) _).setCell (p := ⟨w.heap.size + 1, 5, none⟩) (by simp) _)

set_option maxRecDepth 100000 in
set_option maxHeartbeats 1000000 in
theorem args_4 (nu ar po x0 x1 x2 x3 x4 x5 : Int) (w : World) :
    Calls Try.prog 21 #[.int .i64 4, .agg #[.int .u32 nu, .int .u32 ar, .int .u64 po, .int .u64 x0, .int .u64 x1, .int .u64 x2, .int .u64 x3, .int .u64 x4, .int .u64 x5]] w fun e w' => e = .returned (.agg #[.int .u64 x0, .int .u64 x1, .int .u64 x2, .int .u64 x3, .int .u64 x4, .int .u64 x5]) ∧ Below w.heap.size w w' := by
  have hof : ∀ (W : World), Calls Try.prog 16 #[.int .i64 4] W fun e w' => e = .returned (.tuple #[.agg #[.string ⟨#[114, 105, 115, 99, 118, 54, 52]⟩, .int .u32 3221225715, .bool false, .int .i64 64], .int .i64 0]) ∧ Below W.heap.size W w' := of_any 4
  have Hof := Lib.hid hof
  clear hof
  go_enter Try.func21, Try.ntmps21
  go_wp2_with (go_at_call 16; refine (Hof.out _).mono ?_; rintro e w1 ⟨rfl, hb1⟩; have bT := ((((Blk.new (w.alloc (.cells #[.int .u32 nu, .int .u32 ar, .int .u64 po, .int .u64 x0, .int .u64 x1, .int .u64 x2, .int .u64 x3, .int .u64 x4, .int .u64 x5] 53)) 50 #[.int .u64 0, .int .u64 0, .int .u64 0, .int .u64 0, .int .u64 0, .int .u64 0]).alloc (.cells #[.int .u64 x0, .int .u64 x1, .int .u64 x2, .int .u64 x3, .int .u64 x4, .int .u64 x5] 50)).below hb1 (by simp)).alloc (.cells #[.string ⟨#[114, 105, 115, 99, 118, 54, 52]⟩, .int .u32 3221225715, .bool false, .int .i64 64] 36)); have bX := (((Blk.new ((w.alloc (.cells #[.int .u32 nu, .int .u32 ar, .int .u64 po, .int .u64 x0, .int .u64 x1, .int .u64 x2, .int .u64 x3, .int .u64 x4, .int .u64 x5] 53)).alloc (.cells #[.int .u64 0, .int .u64 0, .int .u64 0, .int .u64 0, .int .u64 0, .int .u64 0] 50)) 50 #[.int .u64 x0, .int .u64 x1, .int .u64 x2, .int .u64 x3, .int .u64 x4, .int .u64 x5]).below hb1 (by simp)).alloc (.cells #[.string ⟨#[114, 105, 115, 99, 118, 54, 52]⟩, .int .u32 3221225715, .bool false, .int .i64 64] 36)); have s1 := hb1.size; simp only [World.size_alloc] at bT bX s1; have t0 := bX.cell 0; have t1 := bX.cell 1; have t2 := bX.cell 2; have t3 := bX.cell 3; have t4 := bX.cell 4; have t5 := bX.cell 5; have u0 := bT.cell 0; have u1 := bT.cell 1; have u2 := bT.cell 2; have u3 := bT.cell 3; have u4 := bT.cell 4; have u5 := bT.cell 5; simp only [List.getElem?_toArray, List.getElem?_cons_zero, List.getElem?_cons_succ] at t0 t1 t2 t3 t4 t5 u0 u1 u2 u3 u4 u5; have g0 := bT.frozen 0; have g1 := bT.frozen 1; have g2 := bT.frozen 2; have g3 := bT.frozen 3; have g4 := bT.frozen 4; have g5 := bT.frozen 5)
  have hB : Below w.heap.size w (w1.alloc (.cells #[.string ⟨#[114, 105, 115, 99, 118, 54, 52]⟩, .int .u32 3221225715, .bool false, .int .i64 64] 36)) := ((((((Below.refl _ w).alloc (Nat.le_refl _) _).alloc (by simp) _).alloc (by simp; omega) _).trans (hb1.mono (by simp; omega))).alloc (by omega) _)
  have bF := ((((((bT.set 0 (.int .u64 x0)).set 1 (.int .u64 x1)).set 2 (.int .u64 x2)).set 3 (.int .u64 x3)).set 4 (.int .u64 x4)).set 5 (.int .u64 x5))
  have d0 := bF.cell 0
  have d1 := bF.cell 1
  have d2 := bF.cell 2
  have d3 := bF.cell 3
  have d4 := bF.cell 4
  have d5 := bF.cell 5
  simp at d0 d1 d2 d3 d4 d5
  refine bodyPost_ret (v := .agg #[.int .u64 x0, .int .u64 x1, .int .u64 x2, .int .u64 x3, .int .u64 x4, .int .u64 x5]) (by simp [results, Try.results21, go_sem, d0, d1, d2, d3, d4, d5]) rfl ⟨rfl, ?_⟩
  exact ((((((hB.setCell (p := ⟨w.heap.size + 1, 0, none⟩) (by simp) _).setCell (p := ⟨w.heap.size + 1, 1, none⟩) (by simp) _).setCell (p := ⟨w.heap.size + 1, 2, none⟩) (by simp) _).setCell (p := ⟨w.heap.size + 1, 3, none⟩) (by simp) _).setCell (p := ⟨w.heap.size + 1, 4, none⟩) (by simp) _).setCell (p := ⟨w.heap.size + 1, 5, none⟩) (by simp) _)

theorem of_out (a : Int) (h : a < 0 ∨ 4 < a) : ofAns a = .tuple #[.agg #[.string ⟨#[]⟩, .int .u32 0, .bool false, .int .i64 0], .int .i64 16] := by
  have e : findRow (fun x => x.n == a) abiRows = none := by
    unfold findRow
    rw [List.find?_eq_none]
    intro x hx
    simp only [abiRows, List.mem_cons, List.mem_nil_iff, or_false] at hx
    rcases hx with rfl | rfl | rfl | rfl | rfl <;> simp [r0, r1, r2, r3, r4] <;> omega
  simp only [ofAns, e]

set_option maxRecDepth 100000 in
set_option maxHeartbeats 1000000 in
theorem args_out (a : Int) (h : a < 0 ∨ 4 < a) (nu ar po x0 x1 x2 x3 x4 x5 : Int) (w : World) :
    Calls Try.prog 21 #[.int .i64 a, .agg #[.int .u32 nu, .int .u32 ar, .int .u64 po, .int .u64 x0, .int .u64 x1, .int .u64 x2, .int .u64 x3, .int .u64 x4, .int .u64 x5]] w fun e w' => e = .returned (.agg #[.int .u64 x0, .int .u64 x1, .int .u64 x2, .int .u64 x3, .int .u64 x4, .int .u64 x5]) ∧ Below w.heap.size w w' := by
  have hof := of_any a
  rw [of_out a h] at hof
  clear h
  have Hof := Lib.hid hof
  clear hof
  go_enter Try.func21, Try.ntmps21
  go_wp2_with (go_at_call 16; refine (Hof.out _).mono ?_; rintro e w1 ⟨rfl, hb1⟩; have bT := ((((Blk.new (w.alloc (.cells #[.int .u32 nu, .int .u32 ar, .int .u64 po, .int .u64 x0, .int .u64 x1, .int .u64 x2, .int .u64 x3, .int .u64 x4, .int .u64 x5] 53)) 50 #[.int .u64 0, .int .u64 0, .int .u64 0, .int .u64 0, .int .u64 0, .int .u64 0]).alloc (.cells #[.int .u64 x0, .int .u64 x1, .int .u64 x2, .int .u64 x3, .int .u64 x4, .int .u64 x5] 50)).below hb1 (by simp)).alloc (.cells #[.string ⟨#[]⟩, .int .u32 0, .bool false, .int .i64 0] 36)); have bX := (((Blk.new ((w.alloc (.cells #[.int .u32 nu, .int .u32 ar, .int .u64 po, .int .u64 x0, .int .u64 x1, .int .u64 x2, .int .u64 x3, .int .u64 x4, .int .u64 x5] 53)).alloc (.cells #[.int .u64 0, .int .u64 0, .int .u64 0, .int .u64 0, .int .u64 0, .int .u64 0] 50)) 50 #[.int .u64 x0, .int .u64 x1, .int .u64 x2, .int .u64 x3, .int .u64 x4, .int .u64 x5]).below hb1 (by simp)).alloc (.cells #[.string ⟨#[]⟩, .int .u32 0, .bool false, .int .i64 0] 36)); have s1 := hb1.size; simp only [World.size_alloc] at bT bX s1; have t0 := bX.cell 0; have t1 := bX.cell 1; have t2 := bX.cell 2; have t3 := bX.cell 3; have t4 := bX.cell 4; have t5 := bX.cell 5; have u0 := bT.cell 0; have u1 := bT.cell 1; have u2 := bT.cell 2; have u3 := bT.cell 3; have u4 := bT.cell 4; have u5 := bT.cell 5; simp only [List.getElem?_toArray, List.getElem?_cons_zero, List.getElem?_cons_succ] at t0 t1 t2 t3 t4 t5 u0 u1 u2 u3 u4 u5; have g0 := bT.frozen 0; have g1 := bT.frozen 1; have g2 := bT.frozen 2; have g3 := bT.frozen 3; have g4 := bT.frozen 4; have g5 := bT.frozen 5)
  have hB : Below w.heap.size w (w1.alloc (.cells #[.string ⟨#[]⟩, .int .u32 0, .bool false, .int .i64 0] 36)) := ((((((Below.refl _ w).alloc (Nat.le_refl _) _).alloc (by simp) _).alloc (by simp; omega) _).trans (hb1.mono (by simp; omega))).alloc (by omega) _)
  have bF := ((((((bT.set 0 (.int .u64 x0)).set 1 (.int .u64 x1)).set 2 (.int .u64 x2)).set 3 (.int .u64 x3)).set 4 (.int .u64 x4)).set 5 (.int .u64 x5))
  have d0 := bF.cell 0
  have d1 := bF.cell 1
  have d2 := bF.cell 2
  have d3 := bF.cell 3
  have d4 := bF.cell 4
  have d5 := bF.cell 5
  simp at d0 d1 d2 d3 d4 d5
  refine bodyPost_ret (v := .agg #[.int .u64 x0, .int .u64 x1, .int .u64 x2, .int .u64 x3, .int .u64 x4, .int .u64 x5]) (by simp [results, Try.results21, go_sem, d0, d1, d2, d3, d4, d5]) rfl ⟨rfl, ?_⟩
  exact ((((((hB.setCell (p := ⟨w.heap.size + 1, 0, none⟩) (by simp) _).setCell (p := ⟨w.heap.size + 1, 1, none⟩) (by simp) _).setCell (p := ⟨w.heap.size + 1, 2, none⟩) (by simp) _).setCell (p := ⟨w.heap.size + 1, 3, none⟩) (by simp) _).setCell (p := ⟨w.heap.size + 1, 4, none⟩) (by simp) _).setCell (p := ⟨w.heap.size + 1, 5, none⟩) (by simp) _)

def argN (a x : Int) : Int := if a = 2 then x % 4294967296 else x
theorem args_any (a nu ar po x0 x1 x2 x3 x4 x5 : Int) (h0a : 0 ≤ x0) (h0b : x0 < 18446744073709551616) (h1a : 0 ≤ x1) (h1b : x1 < 18446744073709551616) (h2a : 0 ≤ x2) (h2b : x2 < 18446744073709551616) (h3a : 0 ≤ x3) (h3b : x3 < 18446744073709551616) (h4a : 0 ≤ x4) (h4b : x4 < 18446744073709551616) (h5a : 0 ≤ x5) (h5b : x5 < 18446744073709551616) (w : World) :
    Calls Try.prog 21 #[.int .i64 a, .agg #[.int .u32 nu, .int .u32 ar, .int .u64 po, .int .u64 x0, .int .u64 x1, .int .u64 x2, .int .u64 x3, .int .u64 x4, .int .u64 x5]] w fun e w' => e = .returned (.agg #[.int .u64 (argN a x0), .int .u64 (argN a x1), .int .u64 (argN a x2), .int .u64 (argN a x3), .int .u64 (argN a x4), .int .u64 (argN a x5)]) ∧ Below w.heap.size w w' := by
  by_cases h2 : a = 2
  · subst h2
    exact args_two nu ar po x0 x1 x2 x3 x4 x5 h0a h0b h1a h1b h2a h2b h3a h3b h4a h4b h5a h5b w
  have e : ∀ x, argN a x = x := fun x => by unfold argN; rw [if_neg h2]
  simp only [e]
  by_cases ho : a < 0 ∨ 4 < a
  · exact args_out a ho nu ar po x0 x1 x2 x3 x4 x5 w
  rcases (by omega : a = 0 ∨ a = 1 ∨ a = 3 ∨ a = 4) with rfl | rfl | rfl | rfl
  · exact args_0 nu ar po x0 x1 x2 x3 x4 x5 w
  · exact args_1 nu ar po x0 x1 x2 x3 x4 x5 w
  · exact args_3 nu ar po x0 x1 x2 x3 x4 x5 w
  · exact args_4 nu ar po x0 x1 x2 x3 x4 x5 w
end Go.Proofs.Ytddlapcgfhbjdaa
