/- The law AbiRows is true of every ABI and name: the row of any ABI, and the ABI of any name. No condition. -/
import Derived.Test.YtddlapcgfhbjdaaAbiOf
import Derived.Test.YtddlapcgfhbjdaaAbiArgs
import Derived.Test.YtddlapcgfhbjdaaLift
import Derived.Deep.RegionHeld3
import Derived.Lib.SmallJoins
namespace Go.Proofs.Ytddlapcgfhbjdaa.lawAbiRows
open Go Go.Proofs Go.RowKit Go.ChangeShapes Go.WideShapes Go.ChangeAt

theorem names_any (w : World) : Calls Try.prog 19 #[] w fun e w' => e = .returned (.slice (some ⟨w.heap.size, 0, none⟩) 5 5) ∧ w.alloc (.cells #[.string ⟨#[120, 56, 54, 95, 54, 52]⟩, .string ⟨#[120, 51, 50]⟩, .string ⟨#[105, 51, 56, 54]⟩, .string ⟨#[97, 114, 109, 54, 52]⟩, .string ⟨#[114, 105, 115, 99, 118, 54, 52]⟩] 9) = w' := by
  go_enter Try.func19, Try.ntmps19
  go_wp2
  go_ret
  exact ⟨rfl, rfl⟩

/-- What the law's loop has found behind k names. -/
def nameL : Nat → List UInt8
  | 0 => [120, 56, 54, 95, 54, 52]
  | 1 => [120, 51, 50]
  | 2 => [105, 51, 56, 54]
  | 3 => [97, 114, 109, 54, 52]
  | 4 => [114, 105, 115, 99, 118, 54, 52]
  | _ => []
def wU (l : List UInt8) : Nat → Int
  | 0 => 0
  | k + 1 => if (nameL k == l) = true then (k : Int) else wU l k
def fU (l : List UInt8) : Nat → Bool
  | 0 => false
  | k + 1 => if (nameL k == l) = true then true else fU l k

theorem named_call (l : List UInt8) (w : World) : Calls Try.prog 18 #[.string ⟨l.toArray⟩] w fun e w' => e = .returned (.tuple #[.int .i64 (wU l 5), .int .i64 (if fU l 5 = true then 0 else 14)]) ∧ Below w.heap.size w w' := by
  have h := named_any ⟨l.toArray⟩ w
  have e : namedAns ⟨l.toArray⟩ = .tuple #[.int .i64 (wU l 5), .int .i64 (if fU l 5 = true then 0 else 14)] := by
    unfold namedAns findRow
    simp only [abiRows, List.find?, r0, r1, r2, r3, r4, wU, fU, nameL, ByteArray.toList_mk]
    by_cases h0 : l = [120, 56, 54, 95, 54, 52]
    · subst h0; rfl
    by_cases h1 : l = [120, 51, 50]
    · subst h1; rfl
    by_cases h2 : l = [105, 51, 56, 54]
    · subst h2; rfl
    by_cases h3 : l = [97, 114, 109, 54, 52]
    · subst h3; rfl
    by_cases h4 : l = [114, 105, 115, 99, 118, 54, 52]
    · subst h4; rfl
    simp only [beq_eq_false_iff_ne.2 (Ne.symm h0), beq_eq_false_iff_ne.2 (Ne.symm h1), beq_eq_false_iff_ne.2 (Ne.symm h2), beq_eq_false_iff_ne.2 (Ne.symm h3), beq_eq_false_iff_ne.2 (Ne.symm h4)]
    rfl
  rw [e] at h
  exact h

set_option maxRecDepth 100000 in
theorem long (a : Int) (l : List UInt8) (hl : 50 < l.length) (w : World) :
    Calls Try.prog 7 #[.int .i64 a, .string ⟨l.toArray⟩] w fun e w' => e = .returned (.bool true) ∧ Below w.heap.size w w' := by
  have hl' : (50 : Int) < (l.length : Int) := by omega
  go_enter Try.func7, Try.ntmps7
  go_wp2_with fail
  go_ret
  exact ⟨rfl, Below.refl _ _⟩

theorem token_0 (w : World) : Calls Try.prog 20 #[.int .i64 0] w fun e w' => e = .returned (.int .u32 3221225534) ∧ Below w.heap.size w w' := by
  go_enter Try.func20, Try.ntmps20
  go_wp2
  go_ret
  exact ⟨rfl, (Below.refl _ w).alloc (Nat.le_refl _) _⟩

theorem token_1 (w : World) : Calls Try.prog 20 #[.int .i64 1] w fun e w' => e = .returned (.int .u32 3221225534) ∧ Below w.heap.size w w' := by
  go_enter Try.func20, Try.ntmps20
  go_wp2
  go_ret
  exact ⟨rfl, (Below.refl _ w).alloc (Nat.le_refl _) _⟩

theorem token_2 (w : World) : Calls Try.prog 20 #[.int .i64 2] w fun e w' => e = .returned (.int .u32 1073741827) ∧ Below w.heap.size w w' := by
  go_enter Try.func20, Try.ntmps20
  go_wp2
  go_ret
  exact ⟨rfl, (Below.refl _ w).alloc (Nat.le_refl _) _⟩

theorem token_3 (w : World) : Calls Try.prog 20 #[.int .i64 3] w fun e w' => e = .returned (.int .u32 3221225655) ∧ Below w.heap.size w w' := by
  go_enter Try.func20, Try.ntmps20
  go_wp2
  go_ret
  exact ⟨rfl, (Below.refl _ w).alloc (Nat.le_refl _) _⟩

theorem token_4 (w : World) : Calls Try.prog 20 #[.int .i64 4] w fun e w' => e = .returned (.int .u32 3221225715) ∧ Below w.heap.size w w' := by
  go_enter Try.func20, Try.ntmps20
  go_wp2
  go_ret
  exact ⟨rfl, (Below.refl _ w).alloc (Nat.le_refl _) _⟩

set_option maxRecDepth 100000 in
set_option maxHeartbeats 1000000 in
theorem lo_true (a : Int) (h : a < 0) (l : List UInt8) (hl : l.length ≤ 50) (hfd : fU l 5 = true) (w : World) :
    Calls Try.prog 7 #[.int .i64 a, .string ⟨l.toArray⟩] w fun e w' => e = .returned (.bool true) ∧ Below w.heap.size w w' := by
  have hl' : (l.length : Int) ≤ 50 := by omega
  have hof := of_any a
  rw [of_out a (.inl h)] at hof
  have hna := named_call l
  rw [hfd] at hna
  simp only [if_true] at hna
  have Hof := Lib.hid hof
  have Hna := Lib.hid hna
  have Hfd := Lib.hid hfd
  clear hof hna hfd
  go_enter Try.func7, Try.ntmps7
  go_wp2_with (first | (go_at_call 16; refine (Hof.out _).mono ?_; rintro e w1 ⟨rfl, hb1⟩) | (go_at_call 18; refine (Hna.out _).mono ?_; rintro e w2 ⟨rfl, hb2⟩) | (go_at_call 19; refine (names_any _).mono ?_; rintro e w3 ⟨rfl, rfl⟩))
  have bI := (((Blk.new w1 36 #[.string ⟨#[]⟩, .int .u32 0, .bool false, .int .i64 0]).below hb2 (by simp)).alloc (.cells #[.string ⟨#[120, 56, 54, 95, 54, 52]⟩, .string ⟨#[120, 51, 50]⟩, .string ⟨#[105, 51, 56, 54]⟩, .string ⟨#[97, 114, 109, 54, 52]⟩, .string ⟨#[114, 105, 115, 99, 118, 54, 52]⟩] 9))
  have bN := Blk.new w2 9 #[.string ⟨#[120, 56, 54, 95, 54, 52]⟩, .string ⟨#[120, 51, 50]⟩, .string ⟨#[105, 51, 56, 54]⟩, .string ⟨#[97, 114, 109, 54, 52]⟩, .string ⟨#[114, 105, 115, 99, 118, 54, 52]⟩]
  have s1 := hb1.size
  have s2 := hb2.size
  simp only [World.size_alloc] at s2
  have hB : Below w.heap.size w (w2.alloc (.cells #[.string ⟨#[120, 56, 54, 95, 54, 52]⟩, .string ⟨#[120, 51, 50]⟩, .string ⟨#[105, 51, 56, 54]⟩, .string ⟨#[97, 114, 109, 54, 52]⟩, .string ⟨#[114, 105, 115, 99, 118, 54, 52]⟩] 9)) := (((hb1.alloc s1 _).trans (hb2.mono (by simp; omega))).alloc (by omega) _)
  obtain ⟨W, hW⟩ : ∃ W, w2.alloc (.cells #[.string ⟨#[120, 56, 54, 95, 54, 52]⟩, .string ⟨#[120, 51, 50]⟩, .string ⟨#[105, 51, 56, 54]⟩, .string ⟨#[97, 114, 109, 54, 52]⟩, .string ⟨#[114, 105, 115, 99, 118, 54, 52]⟩] 9) = W := ⟨_, rfl⟩
  rw [hW] at bI bN hB ⊢
  have hsW : w2.heap.size + 1 = W.heap.size := by rw [← hW]; simp
  have HW := Lib.hid hsW
  clear hW hsW
  go_loop [10, 11, 12] (fun a10 a11 i => (i = .int .i64 0 ∧ a10 = .int .i64 (wU l 0) ∧ a11 = .bool (fU l 0)) ∨ (i = .int .i64 1 ∧ a10 = .int .i64 (wU l 1) ∧ a11 = .bool (fU l 1)) ∨ (i = .int .i64 2 ∧ a10 = .int .i64 (wU l 2) ∧ a11 = .bool (fU l 2)) ∨ (i = .int .i64 3 ∧ a10 = .int .i64 (wU l 3) ∧ a11 = .bool (fU l 3)) ∨ (i = .int .i64 4 ∧ a10 = .int .i64 (wU l 4) ∧ a11 = .bool (fU l 4)) ∨ (i = .int .i64 5 ∧ a10 = .int .i64 (wU l 5) ∧ a11 = .bool (fU l 5))) (fun _ _ i => 5 - (intOf i).toNat)
  case atStart => exact .inl ⟨rfl, rfl, rfl⟩
  case round =>
    rcases hrel with ⟨rfl, rfl, rfl⟩ | ⟨rfl, rfl, rfl⟩ | ⟨rfl, rfl, rfl⟩ | ⟨rfl, rfl, rfl⟩ | ⟨rfl, rfl, rfl⟩ | ⟨rfl, rfl, rfl⟩
    · have cn := bN.cell 0
      simp only [List.getElem?_toArray, List.getElem?_cons_zero, List.getElem?_cons_succ] at cn
      cases hq : (nameL 0 == l) with
      | true =>
        have hq' : ([120, 56, 54, 95, 54, 52] == l) = true := hq
        have e1 : wU l 1 = 0 := by simp only [wU, hq]; rfl
        have e2 : fU l 1 = true := by simp only [fU, hq]; rfl
        clear hq
        have E1 := Lib.hid e1
        have E2 := Lib.hid e2
        clear e1 e2
        go_wp2
        go_round
        case rel => exact .inr (.inl ⟨rfl, by rw [E1.out], by rw [E2.out]⟩)
        case measure => simp [intOf]
      | false =>
        have hq' : ([120, 56, 54, 95, 54, 52] == l) = false := hq
        have e1 : wU l 1 = wU l 0 := by simp only [wU, hq]; rfl
        have e2 : fU l 1 = fU l 0 := by simp only [fU, hq]; rfl
        clear hq
        have E1 := Lib.hid e1
        have E2 := Lib.hid e2
        clear e1 e2
        go_wp2
        go_round
        case rel => exact .inr (.inl ⟨rfl, by rw [E1.out], by rw [E2.out]⟩)
        case measure => simp [intOf]
    · have cn := bN.cell 1
      simp only [List.getElem?_toArray, List.getElem?_cons_zero, List.getElem?_cons_succ] at cn
      cases hq : (nameL 1 == l) with
      | true =>
        have hq' : ([120, 51, 50] == l) = true := hq
        have e1 : wU l 2 = 1 := by simp only [wU, hq]; rfl
        have e2 : fU l 2 = true := by simp only [fU, hq]; rfl
        clear hq
        have E1 := Lib.hid e1
        have E2 := Lib.hid e2
        clear e1 e2
        go_wp2
        go_round
        case rel => exact .inr (.inr (.inl ⟨rfl, by rw [E1.out], by rw [E2.out]⟩))
        case measure => simp [intOf]
      | false =>
        have hq' : ([120, 51, 50] == l) = false := hq
        have e1 : wU l 2 = wU l 1 := by simp only [wU, hq]; rfl
        have e2 : fU l 2 = fU l 1 := by simp only [fU, hq]; rfl
        clear hq
        have E1 := Lib.hid e1
        have E2 := Lib.hid e2
        clear e1 e2
        go_wp2
        go_round
        case rel => exact .inr (.inr (.inl ⟨rfl, by rw [E1.out], by rw [E2.out]⟩))
        case measure => simp [intOf]
    · have cn := bN.cell 2
      simp only [List.getElem?_toArray, List.getElem?_cons_zero, List.getElem?_cons_succ] at cn
      cases hq : (nameL 2 == l) with
      | true =>
        have hq' : ([105, 51, 56, 54] == l) = true := hq
        have e1 : wU l 3 = 2 := by simp only [wU, hq]; rfl
        have e2 : fU l 3 = true := by simp only [fU, hq]; rfl
        clear hq
        have E1 := Lib.hid e1
        have E2 := Lib.hid e2
        clear e1 e2
        go_wp2
        go_round
        case rel => exact .inr (.inr (.inr (.inl ⟨rfl, by rw [E1.out], by rw [E2.out]⟩)))
        case measure => simp [intOf]
      | false =>
        have hq' : ([105, 51, 56, 54] == l) = false := hq
        have e1 : wU l 3 = wU l 2 := by simp only [wU, hq]; rfl
        have e2 : fU l 3 = fU l 2 := by simp only [fU, hq]; rfl
        clear hq
        have E1 := Lib.hid e1
        have E2 := Lib.hid e2
        clear e1 e2
        go_wp2
        go_round
        case rel => exact .inr (.inr (.inr (.inl ⟨rfl, by rw [E1.out], by rw [E2.out]⟩)))
        case measure => simp [intOf]
    · have cn := bN.cell 3
      simp only [List.getElem?_toArray, List.getElem?_cons_zero, List.getElem?_cons_succ] at cn
      cases hq : (nameL 3 == l) with
      | true =>
        have hq' : ([97, 114, 109, 54, 52] == l) = true := hq
        have e1 : wU l 4 = 3 := by simp only [wU, hq]; rfl
        have e2 : fU l 4 = true := by simp only [fU, hq]; rfl
        clear hq
        have E1 := Lib.hid e1
        have E2 := Lib.hid e2
        clear e1 e2
        go_wp2
        go_round
        case rel => exact .inr (.inr (.inr (.inr (.inl ⟨rfl, by rw [E1.out], by rw [E2.out]⟩))))
        case measure => simp [intOf]
      | false =>
        have hq' : ([97, 114, 109, 54, 52] == l) = false := hq
        have e1 : wU l 4 = wU l 3 := by simp only [wU, hq]; rfl
        have e2 : fU l 4 = fU l 3 := by simp only [fU, hq]; rfl
        clear hq
        have E1 := Lib.hid e1
        have E2 := Lib.hid e2
        clear e1 e2
        go_wp2
        go_round
        case rel => exact .inr (.inr (.inr (.inr (.inl ⟨rfl, by rw [E1.out], by rw [E2.out]⟩))))
        case measure => simp [intOf]
    · have cn := bN.cell 4
      simp only [List.getElem?_toArray, List.getElem?_cons_zero, List.getElem?_cons_succ] at cn
      cases hq : (nameL 4 == l) with
      | true =>
        have hq' : ([114, 105, 115, 99, 118, 54, 52] == l) = true := hq
        have e1 : wU l 5 = 4 := by simp only [wU, hq]; rfl
        have e2 : fU l 5 = true := by simp only [fU, hq]; rfl
        clear hq
        have E1 := Lib.hid e1
        have E2 := Lib.hid e2
        clear e1 e2
        go_wp2
        go_round
        case rel => exact .inr (.inr (.inr (.inr (.inr (⟨rfl, by rw [E1.out], by rw [E2.out]⟩)))))
        case measure => simp [intOf]
      | false =>
        have hq' : ([114, 105, 115, 99, 118, 54, 52] == l) = false := hq
        have e1 : wU l 5 = wU l 4 := by simp only [wU, hq]; rfl
        have e2 : fU l 5 = fU l 4 := by simp only [fU, hq]; rfl
        clear hq
        have E1 := Lib.hid e1
        have E2 := Lib.hid e2
        clear e1 e2
        go_wp2
        go_round
        case rel => exact .inr (.inr (.inr (.inr (.inr (⟨rfl, by rw [E1.out], by rw [E2.out]⟩)))))
        case measure => simp [intOf]
    · generalize wU l 5 = q
      have hfd := Hfd.out
      rw [hfd]
      have i0 := bI.cell 0
      have i1 := bI.cell 1
      have i2 := bI.cell 2
      have i3 := bI.cell 3
      have n0 := bN.cell 0
      have n1 := bN.cell 1
      have n2 := bN.cell 2
      have n3 := bN.cell 3
      have n4 := bN.cell 4
      simp only [List.getElem?_toArray, List.getElem?_cons_zero, List.getElem?_cons_succ] at i0 i1 i2 i3 n0 n1 n2 n3 n4
      clear hfd
      go_wp2_with (go_at_call 13; refine (awake08_any _).mono ?_; rintro e w5 ⟨rfl, hb5⟩)
      go_ret
      exact ⟨rfl, hB.trans (hb5.mono hB.size)⟩

set_option maxRecDepth 100000 in
set_option maxHeartbeats 1000000 in
theorem hi_true (a : Int) (h : 4 < a) (l : List UInt8) (hl : l.length ≤ 50) (hfd : fU l 5 = true) (w : World) :
    Calls Try.prog 7 #[.int .i64 a, .string ⟨l.toArray⟩] w fun e w' => e = .returned (.bool true) ∧ Below w.heap.size w w' := by
  have hl' : (l.length : Int) ≤ 50 := by omega
  have hof := of_any a
  rw [of_out a (.inr h)] at hof
  have hna := named_call l
  rw [hfd] at hna
  simp only [if_true] at hna
  have Hof := Lib.hid hof
  have Hna := Lib.hid hna
  have Hfd := Lib.hid hfd
  clear hof hna hfd
  go_enter Try.func7, Try.ntmps7
  go_wp2_with (first | (go_at_call 16; refine (Hof.out _).mono ?_; rintro e w1 ⟨rfl, hb1⟩) | (go_at_call 18; refine (Hna.out _).mono ?_; rintro e w2 ⟨rfl, hb2⟩) | (go_at_call 19; refine (names_any _).mono ?_; rintro e w3 ⟨rfl, rfl⟩))
  have bI := (((Blk.new w1 36 #[.string ⟨#[]⟩, .int .u32 0, .bool false, .int .i64 0]).below hb2 (by simp)).alloc (.cells #[.string ⟨#[120, 56, 54, 95, 54, 52]⟩, .string ⟨#[120, 51, 50]⟩, .string ⟨#[105, 51, 56, 54]⟩, .string ⟨#[97, 114, 109, 54, 52]⟩, .string ⟨#[114, 105, 115, 99, 118, 54, 52]⟩] 9))
  have bN := Blk.new w2 9 #[.string ⟨#[120, 56, 54, 95, 54, 52]⟩, .string ⟨#[120, 51, 50]⟩, .string ⟨#[105, 51, 56, 54]⟩, .string ⟨#[97, 114, 109, 54, 52]⟩, .string ⟨#[114, 105, 115, 99, 118, 54, 52]⟩]
  have s1 := hb1.size
  have s2 := hb2.size
  simp only [World.size_alloc] at s2
  have hB : Below w.heap.size w (w2.alloc (.cells #[.string ⟨#[120, 56, 54, 95, 54, 52]⟩, .string ⟨#[120, 51, 50]⟩, .string ⟨#[105, 51, 56, 54]⟩, .string ⟨#[97, 114, 109, 54, 52]⟩, .string ⟨#[114, 105, 115, 99, 118, 54, 52]⟩] 9)) := (((hb1.alloc s1 _).trans (hb2.mono (by simp; omega))).alloc (by omega) _)
  obtain ⟨W, hW⟩ : ∃ W, w2.alloc (.cells #[.string ⟨#[120, 56, 54, 95, 54, 52]⟩, .string ⟨#[120, 51, 50]⟩, .string ⟨#[105, 51, 56, 54]⟩, .string ⟨#[97, 114, 109, 54, 52]⟩, .string ⟨#[114, 105, 115, 99, 118, 54, 52]⟩] 9) = W := ⟨_, rfl⟩
  rw [hW] at bI bN hB ⊢
  have hsW : w2.heap.size + 1 = W.heap.size := by rw [← hW]; simp
  have HW := Lib.hid hsW
  clear hW hsW
  go_loop [10, 11, 12] (fun a10 a11 i => (i = .int .i64 0 ∧ a10 = .int .i64 (wU l 0) ∧ a11 = .bool (fU l 0)) ∨ (i = .int .i64 1 ∧ a10 = .int .i64 (wU l 1) ∧ a11 = .bool (fU l 1)) ∨ (i = .int .i64 2 ∧ a10 = .int .i64 (wU l 2) ∧ a11 = .bool (fU l 2)) ∨ (i = .int .i64 3 ∧ a10 = .int .i64 (wU l 3) ∧ a11 = .bool (fU l 3)) ∨ (i = .int .i64 4 ∧ a10 = .int .i64 (wU l 4) ∧ a11 = .bool (fU l 4)) ∨ (i = .int .i64 5 ∧ a10 = .int .i64 (wU l 5) ∧ a11 = .bool (fU l 5))) (fun _ _ i => 5 - (intOf i).toNat)
  case atStart => exact .inl ⟨rfl, rfl, rfl⟩
  case round =>
    rcases hrel with ⟨rfl, rfl, rfl⟩ | ⟨rfl, rfl, rfl⟩ | ⟨rfl, rfl, rfl⟩ | ⟨rfl, rfl, rfl⟩ | ⟨rfl, rfl, rfl⟩ | ⟨rfl, rfl, rfl⟩
    · have cn := bN.cell 0
      simp only [List.getElem?_toArray, List.getElem?_cons_zero, List.getElem?_cons_succ] at cn
      cases hq : (nameL 0 == l) with
      | true =>
        have hq' : ([120, 56, 54, 95, 54, 52] == l) = true := hq
        have e1 : wU l 1 = 0 := by simp only [wU, hq]; rfl
        have e2 : fU l 1 = true := by simp only [fU, hq]; rfl
        clear hq
        have E1 := Lib.hid e1
        have E2 := Lib.hid e2
        clear e1 e2
        go_wp2
        go_round
        case rel => exact .inr (.inl ⟨rfl, by rw [E1.out], by rw [E2.out]⟩)
        case measure => simp [intOf]
      | false =>
        have hq' : ([120, 56, 54, 95, 54, 52] == l) = false := hq
        have e1 : wU l 1 = wU l 0 := by simp only [wU, hq]; rfl
        have e2 : fU l 1 = fU l 0 := by simp only [fU, hq]; rfl
        clear hq
        have E1 := Lib.hid e1
        have E2 := Lib.hid e2
        clear e1 e2
        go_wp2
        go_round
        case rel => exact .inr (.inl ⟨rfl, by rw [E1.out], by rw [E2.out]⟩)
        case measure => simp [intOf]
    · have cn := bN.cell 1
      simp only [List.getElem?_toArray, List.getElem?_cons_zero, List.getElem?_cons_succ] at cn
      cases hq : (nameL 1 == l) with
      | true =>
        have hq' : ([120, 51, 50] == l) = true := hq
        have e1 : wU l 2 = 1 := by simp only [wU, hq]; rfl
        have e2 : fU l 2 = true := by simp only [fU, hq]; rfl
        clear hq
        have E1 := Lib.hid e1
        have E2 := Lib.hid e2
        clear e1 e2
        go_wp2
        go_round
        case rel => exact .inr (.inr (.inl ⟨rfl, by rw [E1.out], by rw [E2.out]⟩))
        case measure => simp [intOf]
      | false =>
        have hq' : ([120, 51, 50] == l) = false := hq
        have e1 : wU l 2 = wU l 1 := by simp only [wU, hq]; rfl
        have e2 : fU l 2 = fU l 1 := by simp only [fU, hq]; rfl
        clear hq
        have E1 := Lib.hid e1
        have E2 := Lib.hid e2
        clear e1 e2
        go_wp2
        go_round
        case rel => exact .inr (.inr (.inl ⟨rfl, by rw [E1.out], by rw [E2.out]⟩))
        case measure => simp [intOf]
    · have cn := bN.cell 2
      simp only [List.getElem?_toArray, List.getElem?_cons_zero, List.getElem?_cons_succ] at cn
      cases hq : (nameL 2 == l) with
      | true =>
        have hq' : ([105, 51, 56, 54] == l) = true := hq
        have e1 : wU l 3 = 2 := by simp only [wU, hq]; rfl
        have e2 : fU l 3 = true := by simp only [fU, hq]; rfl
        clear hq
        have E1 := Lib.hid e1
        have E2 := Lib.hid e2
        clear e1 e2
        go_wp2
        go_round
        case rel => exact .inr (.inr (.inr (.inl ⟨rfl, by rw [E1.out], by rw [E2.out]⟩)))
        case measure => simp [intOf]
      | false =>
        have hq' : ([105, 51, 56, 54] == l) = false := hq
        have e1 : wU l 3 = wU l 2 := by simp only [wU, hq]; rfl
        have e2 : fU l 3 = fU l 2 := by simp only [fU, hq]; rfl
        clear hq
        have E1 := Lib.hid e1
        have E2 := Lib.hid e2
        clear e1 e2
        go_wp2
        go_round
        case rel => exact .inr (.inr (.inr (.inl ⟨rfl, by rw [E1.out], by rw [E2.out]⟩)))
        case measure => simp [intOf]
    · have cn := bN.cell 3
      simp only [List.getElem?_toArray, List.getElem?_cons_zero, List.getElem?_cons_succ] at cn
      cases hq : (nameL 3 == l) with
      | true =>
        have hq' : ([97, 114, 109, 54, 52] == l) = true := hq
        have e1 : wU l 4 = 3 := by simp only [wU, hq]; rfl
        have e2 : fU l 4 = true := by simp only [fU, hq]; rfl
        clear hq
        have E1 := Lib.hid e1
        have E2 := Lib.hid e2
        clear e1 e2
        go_wp2
        go_round
        case rel => exact .inr (.inr (.inr (.inr (.inl ⟨rfl, by rw [E1.out], by rw [E2.out]⟩))))
        case measure => simp [intOf]
      | false =>
        have hq' : ([97, 114, 109, 54, 52] == l) = false := hq
        have e1 : wU l 4 = wU l 3 := by simp only [wU, hq]; rfl
        have e2 : fU l 4 = fU l 3 := by simp only [fU, hq]; rfl
        clear hq
        have E1 := Lib.hid e1
        have E2 := Lib.hid e2
        clear e1 e2
        go_wp2
        go_round
        case rel => exact .inr (.inr (.inr (.inr (.inl ⟨rfl, by rw [E1.out], by rw [E2.out]⟩))))
        case measure => simp [intOf]
    · have cn := bN.cell 4
      simp only [List.getElem?_toArray, List.getElem?_cons_zero, List.getElem?_cons_succ] at cn
      cases hq : (nameL 4 == l) with
      | true =>
        have hq' : ([114, 105, 115, 99, 118, 54, 52] == l) = true := hq
        have e1 : wU l 5 = 4 := by simp only [wU, hq]; rfl
        have e2 : fU l 5 = true := by simp only [fU, hq]; rfl
        clear hq
        have E1 := Lib.hid e1
        have E2 := Lib.hid e2
        clear e1 e2
        go_wp2
        go_round
        case rel => exact .inr (.inr (.inr (.inr (.inr (⟨rfl, by rw [E1.out], by rw [E2.out]⟩)))))
        case measure => simp [intOf]
      | false =>
        have hq' : ([114, 105, 115, 99, 118, 54, 52] == l) = false := hq
        have e1 : wU l 5 = wU l 4 := by simp only [wU, hq]; rfl
        have e2 : fU l 5 = fU l 4 := by simp only [fU, hq]; rfl
        clear hq
        have E1 := Lib.hid e1
        have E2 := Lib.hid e2
        clear e1 e2
        go_wp2
        go_round
        case rel => exact .inr (.inr (.inr (.inr (.inr (⟨rfl, by rw [E1.out], by rw [E2.out]⟩)))))
        case measure => simp [intOf]
    · generalize wU l 5 = q
      have hfd := Hfd.out
      rw [hfd]
      have i0 := bI.cell 0
      have i1 := bI.cell 1
      have i2 := bI.cell 2
      have i3 := bI.cell 3
      have n0 := bN.cell 0
      have n1 := bN.cell 1
      have n2 := bN.cell 2
      have n3 := bN.cell 3
      have n4 := bN.cell 4
      simp only [List.getElem?_toArray, List.getElem?_cons_zero, List.getElem?_cons_succ] at i0 i1 i2 i3 n0 n1 n2 n3 n4
      clear hfd
      go_wp2_with (go_at_call 13; refine (awake08_any _).mono ?_; rintro e w5 ⟨rfl, hb5⟩)
      go_ret
      exact ⟨rfl, hB.trans (hb5.mono hB.size)⟩

set_option maxRecDepth 100000 in
set_option maxHeartbeats 1000000 in
theorem in0_true (l : List UInt8) (hl : l.length ≤ 50) (hfd : fU l 5 = true) (w : World) :
    Calls Try.prog 7 #[.int .i64 0, .string ⟨l.toArray⟩] w fun e w' => e = .returned (.bool true) ∧ Below w.heap.size w w' := by
  have hl' : (l.length : Int) ≤ 50 := by omega
  have hof : ∀ (W : World), Calls Try.prog 16 #[.int .i64 0] W fun e w' => e = .returned (.tuple #[.agg #[.string ⟨#[120, 56, 54, 95, 54, 52]⟩, .int .u32 3221225534, .bool false, .int .i64 64], .int .i64 0]) ∧ Below W.heap.size W w' := of_any 0
  have hna := named_call l
  rw [hfd] at hna
  simp only [if_true] at hna
  have Hof := Lib.hid hof
  have Hna := Lib.hid hna
  have Hfd := Lib.hid hfd
  clear hof hna hfd
  go_enter Try.func7, Try.ntmps7
  go_wp2_with (first | (go_at_call 16; refine (Hof.out _).mono ?_; rintro e w1 ⟨rfl, hb1⟩) | (go_at_call 18; refine (Hna.out _).mono ?_; rintro e w2 ⟨rfl, hb2⟩) | (go_at_call 19; refine (names_any _).mono ?_; rintro e w3 ⟨rfl, rfl⟩))
  have bI := (((Blk.new w1 36 #[.string ⟨#[120, 56, 54, 95, 54, 52]⟩, .int .u32 3221225534, .bool false, .int .i64 64]).below hb2 (by simp)).alloc (.cells #[.string ⟨#[120, 56, 54, 95, 54, 52]⟩, .string ⟨#[120, 51, 50]⟩, .string ⟨#[105, 51, 56, 54]⟩, .string ⟨#[97, 114, 109, 54, 52]⟩, .string ⟨#[114, 105, 115, 99, 118, 54, 52]⟩] 9))
  have bN := Blk.new w2 9 #[.string ⟨#[120, 56, 54, 95, 54, 52]⟩, .string ⟨#[120, 51, 50]⟩, .string ⟨#[105, 51, 56, 54]⟩, .string ⟨#[97, 114, 109, 54, 52]⟩, .string ⟨#[114, 105, 115, 99, 118, 54, 52]⟩]
  have s1 := hb1.size
  have s2 := hb2.size
  simp only [World.size_alloc] at s2
  have hB : Below w.heap.size w (w2.alloc (.cells #[.string ⟨#[120, 56, 54, 95, 54, 52]⟩, .string ⟨#[120, 51, 50]⟩, .string ⟨#[105, 51, 56, 54]⟩, .string ⟨#[97, 114, 109, 54, 52]⟩, .string ⟨#[114, 105, 115, 99, 118, 54, 52]⟩] 9)) := (((hb1.alloc s1 _).trans (hb2.mono (by simp; omega))).alloc (by omega) _)
  obtain ⟨W, hW⟩ : ∃ W, w2.alloc (.cells #[.string ⟨#[120, 56, 54, 95, 54, 52]⟩, .string ⟨#[120, 51, 50]⟩, .string ⟨#[105, 51, 56, 54]⟩, .string ⟨#[97, 114, 109, 54, 52]⟩, .string ⟨#[114, 105, 115, 99, 118, 54, 52]⟩] 9) = W := ⟨_, rfl⟩
  rw [hW] at bI bN hB ⊢
  have hsW : w2.heap.size + 1 = W.heap.size := by rw [← hW]; simp
  have HW := Lib.hid hsW
  clear hW hsW
  go_loop [10, 11, 12] (fun a10 a11 i => (i = .int .i64 0 ∧ a10 = .int .i64 (wU l 0) ∧ a11 = .bool (fU l 0)) ∨ (i = .int .i64 1 ∧ a10 = .int .i64 (wU l 1) ∧ a11 = .bool (fU l 1)) ∨ (i = .int .i64 2 ∧ a10 = .int .i64 (wU l 2) ∧ a11 = .bool (fU l 2)) ∨ (i = .int .i64 3 ∧ a10 = .int .i64 (wU l 3) ∧ a11 = .bool (fU l 3)) ∨ (i = .int .i64 4 ∧ a10 = .int .i64 (wU l 4) ∧ a11 = .bool (fU l 4)) ∨ (i = .int .i64 5 ∧ a10 = .int .i64 (wU l 5) ∧ a11 = .bool (fU l 5))) (fun _ _ i => 5 - (intOf i).toNat)
  case atStart => exact .inl ⟨rfl, rfl, rfl⟩
  case round =>
    rcases hrel with ⟨rfl, rfl, rfl⟩ | ⟨rfl, rfl, rfl⟩ | ⟨rfl, rfl, rfl⟩ | ⟨rfl, rfl, rfl⟩ | ⟨rfl, rfl, rfl⟩ | ⟨rfl, rfl, rfl⟩
    · have cn := bN.cell 0
      simp only [List.getElem?_toArray, List.getElem?_cons_zero, List.getElem?_cons_succ] at cn
      cases hq : (nameL 0 == l) with
      | true =>
        have hq' : ([120, 56, 54, 95, 54, 52] == l) = true := hq
        have e1 : wU l 1 = 0 := by simp only [wU, hq]; rfl
        have e2 : fU l 1 = true := by simp only [fU, hq]; rfl
        clear hq
        have E1 := Lib.hid e1
        have E2 := Lib.hid e2
        clear e1 e2
        go_wp2
        go_round
        case rel => exact .inr (.inl ⟨rfl, by rw [E1.out], by rw [E2.out]⟩)
        case measure => simp [intOf]
      | false =>
        have hq' : ([120, 56, 54, 95, 54, 52] == l) = false := hq
        have e1 : wU l 1 = wU l 0 := by simp only [wU, hq]; rfl
        have e2 : fU l 1 = fU l 0 := by simp only [fU, hq]; rfl
        clear hq
        have E1 := Lib.hid e1
        have E2 := Lib.hid e2
        clear e1 e2
        go_wp2
        go_round
        case rel => exact .inr (.inl ⟨rfl, by rw [E1.out], by rw [E2.out]⟩)
        case measure => simp [intOf]
    · have cn := bN.cell 1
      simp only [List.getElem?_toArray, List.getElem?_cons_zero, List.getElem?_cons_succ] at cn
      cases hq : (nameL 1 == l) with
      | true =>
        have hq' : ([120, 51, 50] == l) = true := hq
        have e1 : wU l 2 = 1 := by simp only [wU, hq]; rfl
        have e2 : fU l 2 = true := by simp only [fU, hq]; rfl
        clear hq
        have E1 := Lib.hid e1
        have E2 := Lib.hid e2
        clear e1 e2
        go_wp2
        go_round
        case rel => exact .inr (.inr (.inl ⟨rfl, by rw [E1.out], by rw [E2.out]⟩))
        case measure => simp [intOf]
      | false =>
        have hq' : ([120, 51, 50] == l) = false := hq
        have e1 : wU l 2 = wU l 1 := by simp only [wU, hq]; rfl
        have e2 : fU l 2 = fU l 1 := by simp only [fU, hq]; rfl
        clear hq
        have E1 := Lib.hid e1
        have E2 := Lib.hid e2
        clear e1 e2
        go_wp2
        go_round
        case rel => exact .inr (.inr (.inl ⟨rfl, by rw [E1.out], by rw [E2.out]⟩))
        case measure => simp [intOf]
    · have cn := bN.cell 2
      simp only [List.getElem?_toArray, List.getElem?_cons_zero, List.getElem?_cons_succ] at cn
      cases hq : (nameL 2 == l) with
      | true =>
        have hq' : ([105, 51, 56, 54] == l) = true := hq
        have e1 : wU l 3 = 2 := by simp only [wU, hq]; rfl
        have e2 : fU l 3 = true := by simp only [fU, hq]; rfl
        clear hq
        have E1 := Lib.hid e1
        have E2 := Lib.hid e2
        clear e1 e2
        go_wp2
        go_round
        case rel => exact .inr (.inr (.inr (.inl ⟨rfl, by rw [E1.out], by rw [E2.out]⟩)))
        case measure => simp [intOf]
      | false =>
        have hq' : ([105, 51, 56, 54] == l) = false := hq
        have e1 : wU l 3 = wU l 2 := by simp only [wU, hq]; rfl
        have e2 : fU l 3 = fU l 2 := by simp only [fU, hq]; rfl
        clear hq
        have E1 := Lib.hid e1
        have E2 := Lib.hid e2
        clear e1 e2
        go_wp2
        go_round
        case rel => exact .inr (.inr (.inr (.inl ⟨rfl, by rw [E1.out], by rw [E2.out]⟩)))
        case measure => simp [intOf]
    · have cn := bN.cell 3
      simp only [List.getElem?_toArray, List.getElem?_cons_zero, List.getElem?_cons_succ] at cn
      cases hq : (nameL 3 == l) with
      | true =>
        have hq' : ([97, 114, 109, 54, 52] == l) = true := hq
        have e1 : wU l 4 = 3 := by simp only [wU, hq]; rfl
        have e2 : fU l 4 = true := by simp only [fU, hq]; rfl
        clear hq
        have E1 := Lib.hid e1
        have E2 := Lib.hid e2
        clear e1 e2
        go_wp2
        go_round
        case rel => exact .inr (.inr (.inr (.inr (.inl ⟨rfl, by rw [E1.out], by rw [E2.out]⟩))))
        case measure => simp [intOf]
      | false =>
        have hq' : ([97, 114, 109, 54, 52] == l) = false := hq
        have e1 : wU l 4 = wU l 3 := by simp only [wU, hq]; rfl
        have e2 : fU l 4 = fU l 3 := by simp only [fU, hq]; rfl
        clear hq
        have E1 := Lib.hid e1
        have E2 := Lib.hid e2
        clear e1 e2
        go_wp2
        go_round
        case rel => exact .inr (.inr (.inr (.inr (.inl ⟨rfl, by rw [E1.out], by rw [E2.out]⟩))))
        case measure => simp [intOf]
    · have cn := bN.cell 4
      simp only [List.getElem?_toArray, List.getElem?_cons_zero, List.getElem?_cons_succ] at cn
      cases hq : (nameL 4 == l) with
      | true =>
        have hq' : ([114, 105, 115, 99, 118, 54, 52] == l) = true := hq
        have e1 : wU l 5 = 4 := by simp only [wU, hq]; rfl
        have e2 : fU l 5 = true := by simp only [fU, hq]; rfl
        clear hq
        have E1 := Lib.hid e1
        have E2 := Lib.hid e2
        clear e1 e2
        go_wp2
        go_round
        case rel => exact .inr (.inr (.inr (.inr (.inr (⟨rfl, by rw [E1.out], by rw [E2.out]⟩)))))
        case measure => simp [intOf]
      | false =>
        have hq' : ([114, 105, 115, 99, 118, 54, 52] == l) = false := hq
        have e1 : wU l 5 = wU l 4 := by simp only [wU, hq]; rfl
        have e2 : fU l 5 = fU l 4 := by simp only [fU, hq]; rfl
        clear hq
        have E1 := Lib.hid e1
        have E2 := Lib.hid e2
        clear e1 e2
        go_wp2
        go_round
        case rel => exact .inr (.inr (.inr (.inr (.inr (⟨rfl, by rw [E1.out], by rw [E2.out]⟩)))))
        case measure => simp [intOf]
    · generalize wU l 5 = q
      have hfd := Hfd.out
      rw [hfd]
      have i0 := bI.cell 0
      have i1 := bI.cell 1
      have i2 := bI.cell 2
      have i3 := bI.cell 3
      have n0 := bN.cell 0
      have n1 := bN.cell 1
      have n2 := bN.cell 2
      have n3 := bN.cell 3
      have n4 := bN.cell 4
      simp only [List.getElem?_toArray, List.getElem?_cons_zero, List.getElem?_cons_succ] at i0 i1 i2 i3 n0 n1 n2 n3 n4
      clear hfd
      go_wp2_with fail
      go_region_held3 (fun w' => w'.cell? ⟨w1.heap.size, 0, none⟩ = some (.string ⟨#[120, 56, 54, 95, 54, 52]⟩) ∧ w'.cell? ⟨w1.heap.size, 1, none⟩ = some (.int .u32 3221225534) ∧ w'.cell? ⟨w1.heap.size, 2, none⟩ = some (.bool false) ∧ w'.cell? ⟨w1.heap.size, 3, none⟩ = some (.int .i64 64) ∧ w'.cell? ⟨w2.heap.size, 0, none⟩ = some (.string ⟨#[120, 56, 54, 95, 54, 52]⟩)) (first | go_keep | exact ⟨cell_later hb4 (by assumption), cell_later hb4 (by assumption), cell_later hb4 (by assumption), cell_later hb4 (by assumption), cell_later hb4 (by assumption)⟩ | (go_split_ands; exact ⟨cell_later hb5 (by assumption), cell_later hb5 (by assumption), cell_later hb5 (by assumption), cell_later hb5 (by assumption), cell_later hb5 (by assumption)⟩)) (first | (go_at_call 20; refine (token_0 _).mono ?_; rintro e w4 ⟨rfl, hb4⟩) | (go_at_call 13; refine (awake08_any _).mono ?_; rintro e w5 ⟨rfl, hb5⟩))
      go_wp2
      go_ret
      have s4 := hb4.size
      exact ⟨rfl, (hB.drew.trans (hb4.mono hB.size)).trans (hb5.mono (Nat.le_trans hB.size s4))⟩

set_option maxRecDepth 100000 in
set_option maxHeartbeats 1000000 in
theorem in1_true (l : List UInt8) (hl : l.length ≤ 50) (hfd : fU l 5 = true) (w : World) :
    Calls Try.prog 7 #[.int .i64 1, .string ⟨l.toArray⟩] w fun e w' => e = .returned (.bool true) ∧ Below w.heap.size w w' := by
  have hl' : (l.length : Int) ≤ 50 := by omega
  have hof : ∀ (W : World), Calls Try.prog 16 #[.int .i64 1] W fun e w' => e = .returned (.tuple #[.agg #[.string ⟨#[120, 51, 50]⟩, .int .u32 3221225534, .bool true, .int .i64 64], .int .i64 0]) ∧ Below W.heap.size W w' := of_any 1
  have hna := named_call l
  rw [hfd] at hna
  simp only [if_true] at hna
  have Hof := Lib.hid hof
  have Hna := Lib.hid hna
  have Hfd := Lib.hid hfd
  clear hof hna hfd
  go_enter Try.func7, Try.ntmps7
  go_wp2_with (first | (go_at_call 16; refine (Hof.out _).mono ?_; rintro e w1 ⟨rfl, hb1⟩) | (go_at_call 18; refine (Hna.out _).mono ?_; rintro e w2 ⟨rfl, hb2⟩) | (go_at_call 19; refine (names_any _).mono ?_; rintro e w3 ⟨rfl, rfl⟩))
  have bI := (((Blk.new w1 36 #[.string ⟨#[120, 51, 50]⟩, .int .u32 3221225534, .bool true, .int .i64 64]).below hb2 (by simp)).alloc (.cells #[.string ⟨#[120, 56, 54, 95, 54, 52]⟩, .string ⟨#[120, 51, 50]⟩, .string ⟨#[105, 51, 56, 54]⟩, .string ⟨#[97, 114, 109, 54, 52]⟩, .string ⟨#[114, 105, 115, 99, 118, 54, 52]⟩] 9))
  have bN := Blk.new w2 9 #[.string ⟨#[120, 56, 54, 95, 54, 52]⟩, .string ⟨#[120, 51, 50]⟩, .string ⟨#[105, 51, 56, 54]⟩, .string ⟨#[97, 114, 109, 54, 52]⟩, .string ⟨#[114, 105, 115, 99, 118, 54, 52]⟩]
  have s1 := hb1.size
  have s2 := hb2.size
  simp only [World.size_alloc] at s2
  have hB : Below w.heap.size w (w2.alloc (.cells #[.string ⟨#[120, 56, 54, 95, 54, 52]⟩, .string ⟨#[120, 51, 50]⟩, .string ⟨#[105, 51, 56, 54]⟩, .string ⟨#[97, 114, 109, 54, 52]⟩, .string ⟨#[114, 105, 115, 99, 118, 54, 52]⟩] 9)) := (((hb1.alloc s1 _).trans (hb2.mono (by simp; omega))).alloc (by omega) _)
  obtain ⟨W, hW⟩ : ∃ W, w2.alloc (.cells #[.string ⟨#[120, 56, 54, 95, 54, 52]⟩, .string ⟨#[120, 51, 50]⟩, .string ⟨#[105, 51, 56, 54]⟩, .string ⟨#[97, 114, 109, 54, 52]⟩, .string ⟨#[114, 105, 115, 99, 118, 54, 52]⟩] 9) = W := ⟨_, rfl⟩
  rw [hW] at bI bN hB ⊢
  have hsW : w2.heap.size + 1 = W.heap.size := by rw [← hW]; simp
  have HW := Lib.hid hsW
  clear hW hsW
  go_loop [10, 11, 12] (fun a10 a11 i => (i = .int .i64 0 ∧ a10 = .int .i64 (wU l 0) ∧ a11 = .bool (fU l 0)) ∨ (i = .int .i64 1 ∧ a10 = .int .i64 (wU l 1) ∧ a11 = .bool (fU l 1)) ∨ (i = .int .i64 2 ∧ a10 = .int .i64 (wU l 2) ∧ a11 = .bool (fU l 2)) ∨ (i = .int .i64 3 ∧ a10 = .int .i64 (wU l 3) ∧ a11 = .bool (fU l 3)) ∨ (i = .int .i64 4 ∧ a10 = .int .i64 (wU l 4) ∧ a11 = .bool (fU l 4)) ∨ (i = .int .i64 5 ∧ a10 = .int .i64 (wU l 5) ∧ a11 = .bool (fU l 5))) (fun _ _ i => 5 - (intOf i).toNat)
  case atStart => exact .inl ⟨rfl, rfl, rfl⟩
  case round =>
    rcases hrel with ⟨rfl, rfl, rfl⟩ | ⟨rfl, rfl, rfl⟩ | ⟨rfl, rfl, rfl⟩ | ⟨rfl, rfl, rfl⟩ | ⟨rfl, rfl, rfl⟩ | ⟨rfl, rfl, rfl⟩
    · have cn := bN.cell 0
      simp only [List.getElem?_toArray, List.getElem?_cons_zero, List.getElem?_cons_succ] at cn
      cases hq : (nameL 0 == l) with
      | true =>
        have hq' : ([120, 56, 54, 95, 54, 52] == l) = true := hq
        have e1 : wU l 1 = 0 := by simp only [wU, hq]; rfl
        have e2 : fU l 1 = true := by simp only [fU, hq]; rfl
        clear hq
        have E1 := Lib.hid e1
        have E2 := Lib.hid e2
        clear e1 e2
        go_wp2
        go_round
        case rel => exact .inr (.inl ⟨rfl, by rw [E1.out], by rw [E2.out]⟩)
        case measure => simp [intOf]
      | false =>
        have hq' : ([120, 56, 54, 95, 54, 52] == l) = false := hq
        have e1 : wU l 1 = wU l 0 := by simp only [wU, hq]; rfl
        have e2 : fU l 1 = fU l 0 := by simp only [fU, hq]; rfl
        clear hq
        have E1 := Lib.hid e1
        have E2 := Lib.hid e2
        clear e1 e2
        go_wp2
        go_round
        case rel => exact .inr (.inl ⟨rfl, by rw [E1.out], by rw [E2.out]⟩)
        case measure => simp [intOf]
    · have cn := bN.cell 1
      simp only [List.getElem?_toArray, List.getElem?_cons_zero, List.getElem?_cons_succ] at cn
      cases hq : (nameL 1 == l) with
      | true =>
        have hq' : ([120, 51, 50] == l) = true := hq
        have e1 : wU l 2 = 1 := by simp only [wU, hq]; rfl
        have e2 : fU l 2 = true := by simp only [fU, hq]; rfl
        clear hq
        have E1 := Lib.hid e1
        have E2 := Lib.hid e2
        clear e1 e2
        go_wp2
        go_round
        case rel => exact .inr (.inr (.inl ⟨rfl, by rw [E1.out], by rw [E2.out]⟩))
        case measure => simp [intOf]
      | false =>
        have hq' : ([120, 51, 50] == l) = false := hq
        have e1 : wU l 2 = wU l 1 := by simp only [wU, hq]; rfl
        have e2 : fU l 2 = fU l 1 := by simp only [fU, hq]; rfl
        clear hq
        have E1 := Lib.hid e1
        have E2 := Lib.hid e2
        clear e1 e2
        go_wp2
        go_round
        case rel => exact .inr (.inr (.inl ⟨rfl, by rw [E1.out], by rw [E2.out]⟩))
        case measure => simp [intOf]
    · have cn := bN.cell 2
      simp only [List.getElem?_toArray, List.getElem?_cons_zero, List.getElem?_cons_succ] at cn
      cases hq : (nameL 2 == l) with
      | true =>
        have hq' : ([105, 51, 56, 54] == l) = true := hq
        have e1 : wU l 3 = 2 := by simp only [wU, hq]; rfl
        have e2 : fU l 3 = true := by simp only [fU, hq]; rfl
        clear hq
        have E1 := Lib.hid e1
        have E2 := Lib.hid e2
        clear e1 e2
        go_wp2
        go_round
        case rel => exact .inr (.inr (.inr (.inl ⟨rfl, by rw [E1.out], by rw [E2.out]⟩)))
        case measure => simp [intOf]
      | false =>
        have hq' : ([105, 51, 56, 54] == l) = false := hq
        have e1 : wU l 3 = wU l 2 := by simp only [wU, hq]; rfl
        have e2 : fU l 3 = fU l 2 := by simp only [fU, hq]; rfl
        clear hq
        have E1 := Lib.hid e1
        have E2 := Lib.hid e2
        clear e1 e2
        go_wp2
        go_round
        case rel => exact .inr (.inr (.inr (.inl ⟨rfl, by rw [E1.out], by rw [E2.out]⟩)))
        case measure => simp [intOf]
    · have cn := bN.cell 3
      simp only [List.getElem?_toArray, List.getElem?_cons_zero, List.getElem?_cons_succ] at cn
      cases hq : (nameL 3 == l) with
      | true =>
        have hq' : ([97, 114, 109, 54, 52] == l) = true := hq
        have e1 : wU l 4 = 3 := by simp only [wU, hq]; rfl
        have e2 : fU l 4 = true := by simp only [fU, hq]; rfl
        clear hq
        have E1 := Lib.hid e1
        have E2 := Lib.hid e2
        clear e1 e2
        go_wp2
        go_round
        case rel => exact .inr (.inr (.inr (.inr (.inl ⟨rfl, by rw [E1.out], by rw [E2.out]⟩))))
        case measure => simp [intOf]
      | false =>
        have hq' : ([97, 114, 109, 54, 52] == l) = false := hq
        have e1 : wU l 4 = wU l 3 := by simp only [wU, hq]; rfl
        have e2 : fU l 4 = fU l 3 := by simp only [fU, hq]; rfl
        clear hq
        have E1 := Lib.hid e1
        have E2 := Lib.hid e2
        clear e1 e2
        go_wp2
        go_round
        case rel => exact .inr (.inr (.inr (.inr (.inl ⟨rfl, by rw [E1.out], by rw [E2.out]⟩))))
        case measure => simp [intOf]
    · have cn := bN.cell 4
      simp only [List.getElem?_toArray, List.getElem?_cons_zero, List.getElem?_cons_succ] at cn
      cases hq : (nameL 4 == l) with
      | true =>
        have hq' : ([114, 105, 115, 99, 118, 54, 52] == l) = true := hq
        have e1 : wU l 5 = 4 := by simp only [wU, hq]; rfl
        have e2 : fU l 5 = true := by simp only [fU, hq]; rfl
        clear hq
        have E1 := Lib.hid e1
        have E2 := Lib.hid e2
        clear e1 e2
        go_wp2
        go_round
        case rel => exact .inr (.inr (.inr (.inr (.inr (⟨rfl, by rw [E1.out], by rw [E2.out]⟩)))))
        case measure => simp [intOf]
      | false =>
        have hq' : ([114, 105, 115, 99, 118, 54, 52] == l) = false := hq
        have e1 : wU l 5 = wU l 4 := by simp only [wU, hq]; rfl
        have e2 : fU l 5 = fU l 4 := by simp only [fU, hq]; rfl
        clear hq
        have E1 := Lib.hid e1
        have E2 := Lib.hid e2
        clear e1 e2
        go_wp2
        go_round
        case rel => exact .inr (.inr (.inr (.inr (.inr (⟨rfl, by rw [E1.out], by rw [E2.out]⟩)))))
        case measure => simp [intOf]
    · generalize wU l 5 = q
      have hfd := Hfd.out
      rw [hfd]
      have i0 := bI.cell 0
      have i1 := bI.cell 1
      have i2 := bI.cell 2
      have i3 := bI.cell 3
      have n0 := bN.cell 0
      have n1 := bN.cell 1
      have n2 := bN.cell 2
      have n3 := bN.cell 3
      have n4 := bN.cell 4
      simp only [List.getElem?_toArray, List.getElem?_cons_zero, List.getElem?_cons_succ] at i0 i1 i2 i3 n0 n1 n2 n3 n4
      clear hfd
      go_wp2_with fail
      go_region_held3 (fun w' => w'.cell? ⟨w1.heap.size, 0, none⟩ = some (.string ⟨#[120, 51, 50]⟩) ∧ w'.cell? ⟨w1.heap.size, 1, none⟩ = some (.int .u32 3221225534) ∧ w'.cell? ⟨w1.heap.size, 2, none⟩ = some (.bool true) ∧ w'.cell? ⟨w1.heap.size, 3, none⟩ = some (.int .i64 64) ∧ w'.cell? ⟨w2.heap.size, 1, none⟩ = some (.string ⟨#[120, 51, 50]⟩)) (first | go_keep | exact ⟨cell_later hb4 (by assumption), cell_later hb4 (by assumption), cell_later hb4 (by assumption), cell_later hb4 (by assumption), cell_later hb4 (by assumption)⟩ | (go_split_ands; exact ⟨cell_later hb5 (by assumption), cell_later hb5 (by assumption), cell_later hb5 (by assumption), cell_later hb5 (by assumption), cell_later hb5 (by assumption)⟩)) (first | (go_at_call 20; refine (token_1 _).mono ?_; rintro e w4 ⟨rfl, hb4⟩) | (go_at_call 13; refine (awake08_any _).mono ?_; rintro e w5 ⟨rfl, hb5⟩))
      go_wp2
      go_ret
      have s4 := hb4.size
      exact ⟨rfl, (hB.drew.trans (hb4.mono hB.size)).trans (hb5.mono (Nat.le_trans hB.size s4))⟩

set_option maxRecDepth 100000 in
set_option maxHeartbeats 1000000 in
theorem in2_true (l : List UInt8) (hl : l.length ≤ 50) (hfd : fU l 5 = true) (w : World) :
    Calls Try.prog 7 #[.int .i64 2, .string ⟨l.toArray⟩] w fun e w' => e = .returned (.bool true) ∧ Below w.heap.size w w' := by
  have hl' : (l.length : Int) ≤ 50 := by omega
  have hof : ∀ (W : World), Calls Try.prog 16 #[.int .i64 2] W fun e w' => e = .returned (.tuple #[.agg #[.string ⟨#[105, 51, 56, 54]⟩, .int .u32 1073741827, .bool false, .int .i64 32], .int .i64 0]) ∧ Below W.heap.size W w' := of_any 2
  have hna := named_call l
  rw [hfd] at hna
  simp only [if_true] at hna
  have Hof := Lib.hid hof
  have Hna := Lib.hid hna
  have Hfd := Lib.hid hfd
  clear hof hna hfd
  go_enter Try.func7, Try.ntmps7
  go_wp2_with (first | (go_at_call 16; refine (Hof.out _).mono ?_; rintro e w1 ⟨rfl, hb1⟩) | (go_at_call 18; refine (Hna.out _).mono ?_; rintro e w2 ⟨rfl, hb2⟩) | (go_at_call 19; refine (names_any _).mono ?_; rintro e w3 ⟨rfl, rfl⟩))
  have bI := (((Blk.new w1 36 #[.string ⟨#[105, 51, 56, 54]⟩, .int .u32 1073741827, .bool false, .int .i64 32]).below hb2 (by simp)).alloc (.cells #[.string ⟨#[120, 56, 54, 95, 54, 52]⟩, .string ⟨#[120, 51, 50]⟩, .string ⟨#[105, 51, 56, 54]⟩, .string ⟨#[97, 114, 109, 54, 52]⟩, .string ⟨#[114, 105, 115, 99, 118, 54, 52]⟩] 9))
  have bN := Blk.new w2 9 #[.string ⟨#[120, 56, 54, 95, 54, 52]⟩, .string ⟨#[120, 51, 50]⟩, .string ⟨#[105, 51, 56, 54]⟩, .string ⟨#[97, 114, 109, 54, 52]⟩, .string ⟨#[114, 105, 115, 99, 118, 54, 52]⟩]
  have s1 := hb1.size
  have s2 := hb2.size
  simp only [World.size_alloc] at s2
  have hB : Below w.heap.size w (w2.alloc (.cells #[.string ⟨#[120, 56, 54, 95, 54, 52]⟩, .string ⟨#[120, 51, 50]⟩, .string ⟨#[105, 51, 56, 54]⟩, .string ⟨#[97, 114, 109, 54, 52]⟩, .string ⟨#[114, 105, 115, 99, 118, 54, 52]⟩] 9)) := (((hb1.alloc s1 _).trans (hb2.mono (by simp; omega))).alloc (by omega) _)
  obtain ⟨W, hW⟩ : ∃ W, w2.alloc (.cells #[.string ⟨#[120, 56, 54, 95, 54, 52]⟩, .string ⟨#[120, 51, 50]⟩, .string ⟨#[105, 51, 56, 54]⟩, .string ⟨#[97, 114, 109, 54, 52]⟩, .string ⟨#[114, 105, 115, 99, 118, 54, 52]⟩] 9) = W := ⟨_, rfl⟩
  rw [hW] at bI bN hB ⊢
  have hsW : w2.heap.size + 1 = W.heap.size := by rw [← hW]; simp
  have HW := Lib.hid hsW
  clear hW hsW
  go_loop [10, 11, 12] (fun a10 a11 i => (i = .int .i64 0 ∧ a10 = .int .i64 (wU l 0) ∧ a11 = .bool (fU l 0)) ∨ (i = .int .i64 1 ∧ a10 = .int .i64 (wU l 1) ∧ a11 = .bool (fU l 1)) ∨ (i = .int .i64 2 ∧ a10 = .int .i64 (wU l 2) ∧ a11 = .bool (fU l 2)) ∨ (i = .int .i64 3 ∧ a10 = .int .i64 (wU l 3) ∧ a11 = .bool (fU l 3)) ∨ (i = .int .i64 4 ∧ a10 = .int .i64 (wU l 4) ∧ a11 = .bool (fU l 4)) ∨ (i = .int .i64 5 ∧ a10 = .int .i64 (wU l 5) ∧ a11 = .bool (fU l 5))) (fun _ _ i => 5 - (intOf i).toNat)
  case atStart => exact .inl ⟨rfl, rfl, rfl⟩
  case round =>
    rcases hrel with ⟨rfl, rfl, rfl⟩ | ⟨rfl, rfl, rfl⟩ | ⟨rfl, rfl, rfl⟩ | ⟨rfl, rfl, rfl⟩ | ⟨rfl, rfl, rfl⟩ | ⟨rfl, rfl, rfl⟩
    · have cn := bN.cell 0
      simp only [List.getElem?_toArray, List.getElem?_cons_zero, List.getElem?_cons_succ] at cn
      cases hq : (nameL 0 == l) with
      | true =>
        have hq' : ([120, 56, 54, 95, 54, 52] == l) = true := hq
        have e1 : wU l 1 = 0 := by simp only [wU, hq]; rfl
        have e2 : fU l 1 = true := by simp only [fU, hq]; rfl
        clear hq
        have E1 := Lib.hid e1
        have E2 := Lib.hid e2
        clear e1 e2
        go_wp2
        go_round
        case rel => exact .inr (.inl ⟨rfl, by rw [E1.out], by rw [E2.out]⟩)
        case measure => simp [intOf]
      | false =>
        have hq' : ([120, 56, 54, 95, 54, 52] == l) = false := hq
        have e1 : wU l 1 = wU l 0 := by simp only [wU, hq]; rfl
        have e2 : fU l 1 = fU l 0 := by simp only [fU, hq]; rfl
        clear hq
        have E1 := Lib.hid e1
        have E2 := Lib.hid e2
        clear e1 e2
        go_wp2
        go_round
        case rel => exact .inr (.inl ⟨rfl, by rw [E1.out], by rw [E2.out]⟩)
        case measure => simp [intOf]
    · have cn := bN.cell 1
      simp only [List.getElem?_toArray, List.getElem?_cons_zero, List.getElem?_cons_succ] at cn
      cases hq : (nameL 1 == l) with
      | true =>
        have hq' : ([120, 51, 50] == l) = true := hq
        have e1 : wU l 2 = 1 := by simp only [wU, hq]; rfl
        have e2 : fU l 2 = true := by simp only [fU, hq]; rfl
        clear hq
        have E1 := Lib.hid e1
        have E2 := Lib.hid e2
        clear e1 e2
        go_wp2
        go_round
        case rel => exact .inr (.inr (.inl ⟨rfl, by rw [E1.out], by rw [E2.out]⟩))
        case measure => simp [intOf]
      | false =>
        have hq' : ([120, 51, 50] == l) = false := hq
        have e1 : wU l 2 = wU l 1 := by simp only [wU, hq]; rfl
        have e2 : fU l 2 = fU l 1 := by simp only [fU, hq]; rfl
        clear hq
        have E1 := Lib.hid e1
        have E2 := Lib.hid e2
        clear e1 e2
        go_wp2
        go_round
        case rel => exact .inr (.inr (.inl ⟨rfl, by rw [E1.out], by rw [E2.out]⟩))
        case measure => simp [intOf]
    · have cn := bN.cell 2
      simp only [List.getElem?_toArray, List.getElem?_cons_zero, List.getElem?_cons_succ] at cn
      cases hq : (nameL 2 == l) with
      | true =>
        have hq' : ([105, 51, 56, 54] == l) = true := hq
        have e1 : wU l 3 = 2 := by simp only [wU, hq]; rfl
        have e2 : fU l 3 = true := by simp only [fU, hq]; rfl
        clear hq
        have E1 := Lib.hid e1
        have E2 := Lib.hid e2
        clear e1 e2
        go_wp2
        go_round
        case rel => exact .inr (.inr (.inr (.inl ⟨rfl, by rw [E1.out], by rw [E2.out]⟩)))
        case measure => simp [intOf]
      | false =>
        have hq' : ([105, 51, 56, 54] == l) = false := hq
        have e1 : wU l 3 = wU l 2 := by simp only [wU, hq]; rfl
        have e2 : fU l 3 = fU l 2 := by simp only [fU, hq]; rfl
        clear hq
        have E1 := Lib.hid e1
        have E2 := Lib.hid e2
        clear e1 e2
        go_wp2
        go_round
        case rel => exact .inr (.inr (.inr (.inl ⟨rfl, by rw [E1.out], by rw [E2.out]⟩)))
        case measure => simp [intOf]
    · have cn := bN.cell 3
      simp only [List.getElem?_toArray, List.getElem?_cons_zero, List.getElem?_cons_succ] at cn
      cases hq : (nameL 3 == l) with
      | true =>
        have hq' : ([97, 114, 109, 54, 52] == l) = true := hq
        have e1 : wU l 4 = 3 := by simp only [wU, hq]; rfl
        have e2 : fU l 4 = true := by simp only [fU, hq]; rfl
        clear hq
        have E1 := Lib.hid e1
        have E2 := Lib.hid e2
        clear e1 e2
        go_wp2
        go_round
        case rel => exact .inr (.inr (.inr (.inr (.inl ⟨rfl, by rw [E1.out], by rw [E2.out]⟩))))
        case measure => simp [intOf]
      | false =>
        have hq' : ([97, 114, 109, 54, 52] == l) = false := hq
        have e1 : wU l 4 = wU l 3 := by simp only [wU, hq]; rfl
        have e2 : fU l 4 = fU l 3 := by simp only [fU, hq]; rfl
        clear hq
        have E1 := Lib.hid e1
        have E2 := Lib.hid e2
        clear e1 e2
        go_wp2
        go_round
        case rel => exact .inr (.inr (.inr (.inr (.inl ⟨rfl, by rw [E1.out], by rw [E2.out]⟩))))
        case measure => simp [intOf]
    · have cn := bN.cell 4
      simp only [List.getElem?_toArray, List.getElem?_cons_zero, List.getElem?_cons_succ] at cn
      cases hq : (nameL 4 == l) with
      | true =>
        have hq' : ([114, 105, 115, 99, 118, 54, 52] == l) = true := hq
        have e1 : wU l 5 = 4 := by simp only [wU, hq]; rfl
        have e2 : fU l 5 = true := by simp only [fU, hq]; rfl
        clear hq
        have E1 := Lib.hid e1
        have E2 := Lib.hid e2
        clear e1 e2
        go_wp2
        go_round
        case rel => exact .inr (.inr (.inr (.inr (.inr (⟨rfl, by rw [E1.out], by rw [E2.out]⟩)))))
        case measure => simp [intOf]
      | false =>
        have hq' : ([114, 105, 115, 99, 118, 54, 52] == l) = false := hq
        have e1 : wU l 5 = wU l 4 := by simp only [wU, hq]; rfl
        have e2 : fU l 5 = fU l 4 := by simp only [fU, hq]; rfl
        clear hq
        have E1 := Lib.hid e1
        have E2 := Lib.hid e2
        clear e1 e2
        go_wp2
        go_round
        case rel => exact .inr (.inr (.inr (.inr (.inr (⟨rfl, by rw [E1.out], by rw [E2.out]⟩)))))
        case measure => simp [intOf]
    · generalize wU l 5 = q
      have hfd := Hfd.out
      rw [hfd]
      have i0 := bI.cell 0
      have i1 := bI.cell 1
      have i2 := bI.cell 2
      have i3 := bI.cell 3
      have n0 := bN.cell 0
      have n1 := bN.cell 1
      have n2 := bN.cell 2
      have n3 := bN.cell 3
      have n4 := bN.cell 4
      simp only [List.getElem?_toArray, List.getElem?_cons_zero, List.getElem?_cons_succ] at i0 i1 i2 i3 n0 n1 n2 n3 n4
      clear hfd
      go_wp2_with fail
      go_region_held3 (fun w' => w'.cell? ⟨w1.heap.size, 0, none⟩ = some (.string ⟨#[105, 51, 56, 54]⟩) ∧ w'.cell? ⟨w1.heap.size, 1, none⟩ = some (.int .u32 1073741827) ∧ w'.cell? ⟨w1.heap.size, 2, none⟩ = some (.bool false) ∧ w'.cell? ⟨w1.heap.size, 3, none⟩ = some (.int .i64 32) ∧ w'.cell? ⟨w2.heap.size, 2, none⟩ = some (.string ⟨#[105, 51, 56, 54]⟩)) (first | go_keep | exact ⟨cell_later hb4 (by assumption), cell_later hb4 (by assumption), cell_later hb4 (by assumption), cell_later hb4 (by assumption), cell_later hb4 (by assumption)⟩ | (go_split_ands; exact ⟨cell_later hb5 (by assumption), cell_later hb5 (by assumption), cell_later hb5 (by assumption), cell_later hb5 (by assumption), cell_later hb5 (by assumption)⟩)) (first | (go_at_call 20; refine (token_2 _).mono ?_; rintro e w4 ⟨rfl, hb4⟩) | (go_at_call 13; refine (awake08_any _).mono ?_; rintro e w5 ⟨rfl, hb5⟩))
      go_wp2
      go_ret
      have s4 := hb4.size
      exact ⟨rfl, (hB.drew.trans (hb4.mono hB.size)).trans (hb5.mono (Nat.le_trans hB.size s4))⟩

set_option maxRecDepth 100000 in
set_option maxHeartbeats 1000000 in
theorem in3_true (l : List UInt8) (hl : l.length ≤ 50) (hfd : fU l 5 = true) (w : World) :
    Calls Try.prog 7 #[.int .i64 3, .string ⟨l.toArray⟩] w fun e w' => e = .returned (.bool true) ∧ Below w.heap.size w w' := by
  have hl' : (l.length : Int) ≤ 50 := by omega
  have hof : ∀ (W : World), Calls Try.prog 16 #[.int .i64 3] W fun e w' => e = .returned (.tuple #[.agg #[.string ⟨#[97, 114, 109, 54, 52]⟩, .int .u32 3221225655, .bool false, .int .i64 64], .int .i64 0]) ∧ Below W.heap.size W w' := of_any 3
  have hna := named_call l
  rw [hfd] at hna
  simp only [if_true] at hna
  have Hof := Lib.hid hof
  have Hna := Lib.hid hna
  have Hfd := Lib.hid hfd
  clear hof hna hfd
  go_enter Try.func7, Try.ntmps7
  go_wp2_with (first | (go_at_call 16; refine (Hof.out _).mono ?_; rintro e w1 ⟨rfl, hb1⟩) | (go_at_call 18; refine (Hna.out _).mono ?_; rintro e w2 ⟨rfl, hb2⟩) | (go_at_call 19; refine (names_any _).mono ?_; rintro e w3 ⟨rfl, rfl⟩))
  have bI := (((Blk.new w1 36 #[.string ⟨#[97, 114, 109, 54, 52]⟩, .int .u32 3221225655, .bool false, .int .i64 64]).below hb2 (by simp)).alloc (.cells #[.string ⟨#[120, 56, 54, 95, 54, 52]⟩, .string ⟨#[120, 51, 50]⟩, .string ⟨#[105, 51, 56, 54]⟩, .string ⟨#[97, 114, 109, 54, 52]⟩, .string ⟨#[114, 105, 115, 99, 118, 54, 52]⟩] 9))
  have bN := Blk.new w2 9 #[.string ⟨#[120, 56, 54, 95, 54, 52]⟩, .string ⟨#[120, 51, 50]⟩, .string ⟨#[105, 51, 56, 54]⟩, .string ⟨#[97, 114, 109, 54, 52]⟩, .string ⟨#[114, 105, 115, 99, 118, 54, 52]⟩]
  have s1 := hb1.size
  have s2 := hb2.size
  simp only [World.size_alloc] at s2
  have hB : Below w.heap.size w (w2.alloc (.cells #[.string ⟨#[120, 56, 54, 95, 54, 52]⟩, .string ⟨#[120, 51, 50]⟩, .string ⟨#[105, 51, 56, 54]⟩, .string ⟨#[97, 114, 109, 54, 52]⟩, .string ⟨#[114, 105, 115, 99, 118, 54, 52]⟩] 9)) := (((hb1.alloc s1 _).trans (hb2.mono (by simp; omega))).alloc (by omega) _)
  obtain ⟨W, hW⟩ : ∃ W, w2.alloc (.cells #[.string ⟨#[120, 56, 54, 95, 54, 52]⟩, .string ⟨#[120, 51, 50]⟩, .string ⟨#[105, 51, 56, 54]⟩, .string ⟨#[97, 114, 109, 54, 52]⟩, .string ⟨#[114, 105, 115, 99, 118, 54, 52]⟩] 9) = W := ⟨_, rfl⟩
  rw [hW] at bI bN hB ⊢
  have hsW : w2.heap.size + 1 = W.heap.size := by rw [← hW]; simp
  have HW := Lib.hid hsW
  clear hW hsW
  go_loop [10, 11, 12] (fun a10 a11 i => (i = .int .i64 0 ∧ a10 = .int .i64 (wU l 0) ∧ a11 = .bool (fU l 0)) ∨ (i = .int .i64 1 ∧ a10 = .int .i64 (wU l 1) ∧ a11 = .bool (fU l 1)) ∨ (i = .int .i64 2 ∧ a10 = .int .i64 (wU l 2) ∧ a11 = .bool (fU l 2)) ∨ (i = .int .i64 3 ∧ a10 = .int .i64 (wU l 3) ∧ a11 = .bool (fU l 3)) ∨ (i = .int .i64 4 ∧ a10 = .int .i64 (wU l 4) ∧ a11 = .bool (fU l 4)) ∨ (i = .int .i64 5 ∧ a10 = .int .i64 (wU l 5) ∧ a11 = .bool (fU l 5))) (fun _ _ i => 5 - (intOf i).toNat)
  case atStart => exact .inl ⟨rfl, rfl, rfl⟩
  case round =>
    rcases hrel with ⟨rfl, rfl, rfl⟩ | ⟨rfl, rfl, rfl⟩ | ⟨rfl, rfl, rfl⟩ | ⟨rfl, rfl, rfl⟩ | ⟨rfl, rfl, rfl⟩ | ⟨rfl, rfl, rfl⟩
    · have cn := bN.cell 0
      simp only [List.getElem?_toArray, List.getElem?_cons_zero, List.getElem?_cons_succ] at cn
      cases hq : (nameL 0 == l) with
      | true =>
        have hq' : ([120, 56, 54, 95, 54, 52] == l) = true := hq
        have e1 : wU l 1 = 0 := by simp only [wU, hq]; rfl
        have e2 : fU l 1 = true := by simp only [fU, hq]; rfl
        clear hq
        have E1 := Lib.hid e1
        have E2 := Lib.hid e2
        clear e1 e2
        go_wp2
        go_round
        case rel => exact .inr (.inl ⟨rfl, by rw [E1.out], by rw [E2.out]⟩)
        case measure => simp [intOf]
      | false =>
        have hq' : ([120, 56, 54, 95, 54, 52] == l) = false := hq
        have e1 : wU l 1 = wU l 0 := by simp only [wU, hq]; rfl
        have e2 : fU l 1 = fU l 0 := by simp only [fU, hq]; rfl
        clear hq
        have E1 := Lib.hid e1
        have E2 := Lib.hid e2
        clear e1 e2
        go_wp2
        go_round
        case rel => exact .inr (.inl ⟨rfl, by rw [E1.out], by rw [E2.out]⟩)
        case measure => simp [intOf]
    · have cn := bN.cell 1
      simp only [List.getElem?_toArray, List.getElem?_cons_zero, List.getElem?_cons_succ] at cn
      cases hq : (nameL 1 == l) with
      | true =>
        have hq' : ([120, 51, 50] == l) = true := hq
        have e1 : wU l 2 = 1 := by simp only [wU, hq]; rfl
        have e2 : fU l 2 = true := by simp only [fU, hq]; rfl
        clear hq
        have E1 := Lib.hid e1
        have E2 := Lib.hid e2
        clear e1 e2
        go_wp2
        go_round
        case rel => exact .inr (.inr (.inl ⟨rfl, by rw [E1.out], by rw [E2.out]⟩))
        case measure => simp [intOf]
      | false =>
        have hq' : ([120, 51, 50] == l) = false := hq
        have e1 : wU l 2 = wU l 1 := by simp only [wU, hq]; rfl
        have e2 : fU l 2 = fU l 1 := by simp only [fU, hq]; rfl
        clear hq
        have E1 := Lib.hid e1
        have E2 := Lib.hid e2
        clear e1 e2
        go_wp2
        go_round
        case rel => exact .inr (.inr (.inl ⟨rfl, by rw [E1.out], by rw [E2.out]⟩))
        case measure => simp [intOf]
    · have cn := bN.cell 2
      simp only [List.getElem?_toArray, List.getElem?_cons_zero, List.getElem?_cons_succ] at cn
      cases hq : (nameL 2 == l) with
      | true =>
        have hq' : ([105, 51, 56, 54] == l) = true := hq
        have e1 : wU l 3 = 2 := by simp only [wU, hq]; rfl
        have e2 : fU l 3 = true := by simp only [fU, hq]; rfl
        clear hq
        have E1 := Lib.hid e1
        have E2 := Lib.hid e2
        clear e1 e2
        go_wp2
        go_round
        case rel => exact .inr (.inr (.inr (.inl ⟨rfl, by rw [E1.out], by rw [E2.out]⟩)))
        case measure => simp [intOf]
      | false =>
        have hq' : ([105, 51, 56, 54] == l) = false := hq
        have e1 : wU l 3 = wU l 2 := by simp only [wU, hq]; rfl
        have e2 : fU l 3 = fU l 2 := by simp only [fU, hq]; rfl
        clear hq
        have E1 := Lib.hid e1
        have E2 := Lib.hid e2
        clear e1 e2
        go_wp2
        go_round
        case rel => exact .inr (.inr (.inr (.inl ⟨rfl, by rw [E1.out], by rw [E2.out]⟩)))
        case measure => simp [intOf]
    · have cn := bN.cell 3
      simp only [List.getElem?_toArray, List.getElem?_cons_zero, List.getElem?_cons_succ] at cn
      cases hq : (nameL 3 == l) with
      | true =>
        have hq' : ([97, 114, 109, 54, 52] == l) = true := hq
        have e1 : wU l 4 = 3 := by simp only [wU, hq]; rfl
        have e2 : fU l 4 = true := by simp only [fU, hq]; rfl
        clear hq
        have E1 := Lib.hid e1
        have E2 := Lib.hid e2
        clear e1 e2
        go_wp2
        go_round
        case rel => exact .inr (.inr (.inr (.inr (.inl ⟨rfl, by rw [E1.out], by rw [E2.out]⟩))))
        case measure => simp [intOf]
      | false =>
        have hq' : ([97, 114, 109, 54, 52] == l) = false := hq
        have e1 : wU l 4 = wU l 3 := by simp only [wU, hq]; rfl
        have e2 : fU l 4 = fU l 3 := by simp only [fU, hq]; rfl
        clear hq
        have E1 := Lib.hid e1
        have E2 := Lib.hid e2
        clear e1 e2
        go_wp2
        go_round
        case rel => exact .inr (.inr (.inr (.inr (.inl ⟨rfl, by rw [E1.out], by rw [E2.out]⟩))))
        case measure => simp [intOf]
    · have cn := bN.cell 4
      simp only [List.getElem?_toArray, List.getElem?_cons_zero, List.getElem?_cons_succ] at cn
      cases hq : (nameL 4 == l) with
      | true =>
        have hq' : ([114, 105, 115, 99, 118, 54, 52] == l) = true := hq
        have e1 : wU l 5 = 4 := by simp only [wU, hq]; rfl
        have e2 : fU l 5 = true := by simp only [fU, hq]; rfl
        clear hq
        have E1 := Lib.hid e1
        have E2 := Lib.hid e2
        clear e1 e2
        go_wp2
        go_round
        case rel => exact .inr (.inr (.inr (.inr (.inr (⟨rfl, by rw [E1.out], by rw [E2.out]⟩)))))
        case measure => simp [intOf]
      | false =>
        have hq' : ([114, 105, 115, 99, 118, 54, 52] == l) = false := hq
        have e1 : wU l 5 = wU l 4 := by simp only [wU, hq]; rfl
        have e2 : fU l 5 = fU l 4 := by simp only [fU, hq]; rfl
        clear hq
        have E1 := Lib.hid e1
        have E2 := Lib.hid e2
        clear e1 e2
        go_wp2
        go_round
        case rel => exact .inr (.inr (.inr (.inr (.inr (⟨rfl, by rw [E1.out], by rw [E2.out]⟩)))))
        case measure => simp [intOf]
    · generalize wU l 5 = q
      have hfd := Hfd.out
      rw [hfd]
      have i0 := bI.cell 0
      have i1 := bI.cell 1
      have i2 := bI.cell 2
      have i3 := bI.cell 3
      have n0 := bN.cell 0
      have n1 := bN.cell 1
      have n2 := bN.cell 2
      have n3 := bN.cell 3
      have n4 := bN.cell 4
      simp only [List.getElem?_toArray, List.getElem?_cons_zero, List.getElem?_cons_succ] at i0 i1 i2 i3 n0 n1 n2 n3 n4
      clear hfd
      go_wp2_with fail
      go_region_held3 (fun w' => w'.cell? ⟨w1.heap.size, 0, none⟩ = some (.string ⟨#[97, 114, 109, 54, 52]⟩) ∧ w'.cell? ⟨w1.heap.size, 1, none⟩ = some (.int .u32 3221225655) ∧ w'.cell? ⟨w1.heap.size, 2, none⟩ = some (.bool false) ∧ w'.cell? ⟨w1.heap.size, 3, none⟩ = some (.int .i64 64) ∧ w'.cell? ⟨w2.heap.size, 3, none⟩ = some (.string ⟨#[97, 114, 109, 54, 52]⟩)) (first | go_keep | exact ⟨cell_later hb4 (by assumption), cell_later hb4 (by assumption), cell_later hb4 (by assumption), cell_later hb4 (by assumption), cell_later hb4 (by assumption)⟩ | (go_split_ands; exact ⟨cell_later hb5 (by assumption), cell_later hb5 (by assumption), cell_later hb5 (by assumption), cell_later hb5 (by assumption), cell_later hb5 (by assumption)⟩)) (first | (go_at_call 20; refine (token_3 _).mono ?_; rintro e w4 ⟨rfl, hb4⟩) | (go_at_call 13; refine (awake08_any _).mono ?_; rintro e w5 ⟨rfl, hb5⟩))
      go_wp2
      go_ret
      have s4 := hb4.size
      exact ⟨rfl, (hB.drew.trans (hb4.mono hB.size)).trans (hb5.mono (Nat.le_trans hB.size s4))⟩

set_option maxRecDepth 100000 in
set_option maxHeartbeats 1000000 in
theorem in4_true (l : List UInt8) (hl : l.length ≤ 50) (hfd : fU l 5 = true) (w : World) :
    Calls Try.prog 7 #[.int .i64 4, .string ⟨l.toArray⟩] w fun e w' => e = .returned (.bool true) ∧ Below w.heap.size w w' := by
  have hl' : (l.length : Int) ≤ 50 := by omega
  have hof : ∀ (W : World), Calls Try.prog 16 #[.int .i64 4] W fun e w' => e = .returned (.tuple #[.agg #[.string ⟨#[114, 105, 115, 99, 118, 54, 52]⟩, .int .u32 3221225715, .bool false, .int .i64 64], .int .i64 0]) ∧ Below W.heap.size W w' := of_any 4
  have hna := named_call l
  rw [hfd] at hna
  simp only [if_true] at hna
  have Hof := Lib.hid hof
  have Hna := Lib.hid hna
  have Hfd := Lib.hid hfd
  clear hof hna hfd
  go_enter Try.func7, Try.ntmps7
  go_wp2_with (first | (go_at_call 16; refine (Hof.out _).mono ?_; rintro e w1 ⟨rfl, hb1⟩) | (go_at_call 18; refine (Hna.out _).mono ?_; rintro e w2 ⟨rfl, hb2⟩) | (go_at_call 19; refine (names_any _).mono ?_; rintro e w3 ⟨rfl, rfl⟩))
  have bI := (((Blk.new w1 36 #[.string ⟨#[114, 105, 115, 99, 118, 54, 52]⟩, .int .u32 3221225715, .bool false, .int .i64 64]).below hb2 (by simp)).alloc (.cells #[.string ⟨#[120, 56, 54, 95, 54, 52]⟩, .string ⟨#[120, 51, 50]⟩, .string ⟨#[105, 51, 56, 54]⟩, .string ⟨#[97, 114, 109, 54, 52]⟩, .string ⟨#[114, 105, 115, 99, 118, 54, 52]⟩] 9))
  have bN := Blk.new w2 9 #[.string ⟨#[120, 56, 54, 95, 54, 52]⟩, .string ⟨#[120, 51, 50]⟩, .string ⟨#[105, 51, 56, 54]⟩, .string ⟨#[97, 114, 109, 54, 52]⟩, .string ⟨#[114, 105, 115, 99, 118, 54, 52]⟩]
  have s1 := hb1.size
  have s2 := hb2.size
  simp only [World.size_alloc] at s2
  have hB : Below w.heap.size w (w2.alloc (.cells #[.string ⟨#[120, 56, 54, 95, 54, 52]⟩, .string ⟨#[120, 51, 50]⟩, .string ⟨#[105, 51, 56, 54]⟩, .string ⟨#[97, 114, 109, 54, 52]⟩, .string ⟨#[114, 105, 115, 99, 118, 54, 52]⟩] 9)) := (((hb1.alloc s1 _).trans (hb2.mono (by simp; omega))).alloc (by omega) _)
  obtain ⟨W, hW⟩ : ∃ W, w2.alloc (.cells #[.string ⟨#[120, 56, 54, 95, 54, 52]⟩, .string ⟨#[120, 51, 50]⟩, .string ⟨#[105, 51, 56, 54]⟩, .string ⟨#[97, 114, 109, 54, 52]⟩, .string ⟨#[114, 105, 115, 99, 118, 54, 52]⟩] 9) = W := ⟨_, rfl⟩
  rw [hW] at bI bN hB ⊢
  have hsW : w2.heap.size + 1 = W.heap.size := by rw [← hW]; simp
  have HW := Lib.hid hsW
  clear hW hsW
  go_loop [10, 11, 12] (fun a10 a11 i => (i = .int .i64 0 ∧ a10 = .int .i64 (wU l 0) ∧ a11 = .bool (fU l 0)) ∨ (i = .int .i64 1 ∧ a10 = .int .i64 (wU l 1) ∧ a11 = .bool (fU l 1)) ∨ (i = .int .i64 2 ∧ a10 = .int .i64 (wU l 2) ∧ a11 = .bool (fU l 2)) ∨ (i = .int .i64 3 ∧ a10 = .int .i64 (wU l 3) ∧ a11 = .bool (fU l 3)) ∨ (i = .int .i64 4 ∧ a10 = .int .i64 (wU l 4) ∧ a11 = .bool (fU l 4)) ∨ (i = .int .i64 5 ∧ a10 = .int .i64 (wU l 5) ∧ a11 = .bool (fU l 5))) (fun _ _ i => 5 - (intOf i).toNat)
  case atStart => exact .inl ⟨rfl, rfl, rfl⟩
  case round =>
    rcases hrel with ⟨rfl, rfl, rfl⟩ | ⟨rfl, rfl, rfl⟩ | ⟨rfl, rfl, rfl⟩ | ⟨rfl, rfl, rfl⟩ | ⟨rfl, rfl, rfl⟩ | ⟨rfl, rfl, rfl⟩
    · have cn := bN.cell 0
      simp only [List.getElem?_toArray, List.getElem?_cons_zero, List.getElem?_cons_succ] at cn
      cases hq : (nameL 0 == l) with
      | true =>
        have hq' : ([120, 56, 54, 95, 54, 52] == l) = true := hq
        have e1 : wU l 1 = 0 := by simp only [wU, hq]; rfl
        have e2 : fU l 1 = true := by simp only [fU, hq]; rfl
        clear hq
        have E1 := Lib.hid e1
        have E2 := Lib.hid e2
        clear e1 e2
        go_wp2
        go_round
        case rel => exact .inr (.inl ⟨rfl, by rw [E1.out], by rw [E2.out]⟩)
        case measure => simp [intOf]
      | false =>
        have hq' : ([120, 56, 54, 95, 54, 52] == l) = false := hq
        have e1 : wU l 1 = wU l 0 := by simp only [wU, hq]; rfl
        have e2 : fU l 1 = fU l 0 := by simp only [fU, hq]; rfl
        clear hq
        have E1 := Lib.hid e1
        have E2 := Lib.hid e2
        clear e1 e2
        go_wp2
        go_round
        case rel => exact .inr (.inl ⟨rfl, by rw [E1.out], by rw [E2.out]⟩)
        case measure => simp [intOf]
    · have cn := bN.cell 1
      simp only [List.getElem?_toArray, List.getElem?_cons_zero, List.getElem?_cons_succ] at cn
      cases hq : (nameL 1 == l) with
      | true =>
        have hq' : ([120, 51, 50] == l) = true := hq
        have e1 : wU l 2 = 1 := by simp only [wU, hq]; rfl
        have e2 : fU l 2 = true := by simp only [fU, hq]; rfl
        clear hq
        have E1 := Lib.hid e1
        have E2 := Lib.hid e2
        clear e1 e2
        go_wp2
        go_round
        case rel => exact .inr (.inr (.inl ⟨rfl, by rw [E1.out], by rw [E2.out]⟩))
        case measure => simp [intOf]
      | false =>
        have hq' : ([120, 51, 50] == l) = false := hq
        have e1 : wU l 2 = wU l 1 := by simp only [wU, hq]; rfl
        have e2 : fU l 2 = fU l 1 := by simp only [fU, hq]; rfl
        clear hq
        have E1 := Lib.hid e1
        have E2 := Lib.hid e2
        clear e1 e2
        go_wp2
        go_round
        case rel => exact .inr (.inr (.inl ⟨rfl, by rw [E1.out], by rw [E2.out]⟩))
        case measure => simp [intOf]
    · have cn := bN.cell 2
      simp only [List.getElem?_toArray, List.getElem?_cons_zero, List.getElem?_cons_succ] at cn
      cases hq : (nameL 2 == l) with
      | true =>
        have hq' : ([105, 51, 56, 54] == l) = true := hq
        have e1 : wU l 3 = 2 := by simp only [wU, hq]; rfl
        have e2 : fU l 3 = true := by simp only [fU, hq]; rfl
        clear hq
        have E1 := Lib.hid e1
        have E2 := Lib.hid e2
        clear e1 e2
        go_wp2
        go_round
        case rel => exact .inr (.inr (.inr (.inl ⟨rfl, by rw [E1.out], by rw [E2.out]⟩)))
        case measure => simp [intOf]
      | false =>
        have hq' : ([105, 51, 56, 54] == l) = false := hq
        have e1 : wU l 3 = wU l 2 := by simp only [wU, hq]; rfl
        have e2 : fU l 3 = fU l 2 := by simp only [fU, hq]; rfl
        clear hq
        have E1 := Lib.hid e1
        have E2 := Lib.hid e2
        clear e1 e2
        go_wp2
        go_round
        case rel => exact .inr (.inr (.inr (.inl ⟨rfl, by rw [E1.out], by rw [E2.out]⟩)))
        case measure => simp [intOf]
    · have cn := bN.cell 3
      simp only [List.getElem?_toArray, List.getElem?_cons_zero, List.getElem?_cons_succ] at cn
      cases hq : (nameL 3 == l) with
      | true =>
        have hq' : ([97, 114, 109, 54, 52] == l) = true := hq
        have e1 : wU l 4 = 3 := by simp only [wU, hq]; rfl
        have e2 : fU l 4 = true := by simp only [fU, hq]; rfl
        clear hq
        have E1 := Lib.hid e1
        have E2 := Lib.hid e2
        clear e1 e2
        go_wp2
        go_round
        case rel => exact .inr (.inr (.inr (.inr (.inl ⟨rfl, by rw [E1.out], by rw [E2.out]⟩))))
        case measure => simp [intOf]
      | false =>
        have hq' : ([97, 114, 109, 54, 52] == l) = false := hq
        have e1 : wU l 4 = wU l 3 := by simp only [wU, hq]; rfl
        have e2 : fU l 4 = fU l 3 := by simp only [fU, hq]; rfl
        clear hq
        have E1 := Lib.hid e1
        have E2 := Lib.hid e2
        clear e1 e2
        go_wp2
        go_round
        case rel => exact .inr (.inr (.inr (.inr (.inl ⟨rfl, by rw [E1.out], by rw [E2.out]⟩))))
        case measure => simp [intOf]
    · have cn := bN.cell 4
      simp only [List.getElem?_toArray, List.getElem?_cons_zero, List.getElem?_cons_succ] at cn
      cases hq : (nameL 4 == l) with
      | true =>
        have hq' : ([114, 105, 115, 99, 118, 54, 52] == l) = true := hq
        have e1 : wU l 5 = 4 := by simp only [wU, hq]; rfl
        have e2 : fU l 5 = true := by simp only [fU, hq]; rfl
        clear hq
        have E1 := Lib.hid e1
        have E2 := Lib.hid e2
        clear e1 e2
        go_wp2
        go_round
        case rel => exact .inr (.inr (.inr (.inr (.inr (⟨rfl, by rw [E1.out], by rw [E2.out]⟩)))))
        case measure => simp [intOf]
      | false =>
        have hq' : ([114, 105, 115, 99, 118, 54, 52] == l) = false := hq
        have e1 : wU l 5 = wU l 4 := by simp only [wU, hq]; rfl
        have e2 : fU l 5 = fU l 4 := by simp only [fU, hq]; rfl
        clear hq
        have E1 := Lib.hid e1
        have E2 := Lib.hid e2
        clear e1 e2
        go_wp2
        go_round
        case rel => exact .inr (.inr (.inr (.inr (.inr (⟨rfl, by rw [E1.out], by rw [E2.out]⟩)))))
        case measure => simp [intOf]
    · generalize wU l 5 = q
      have hfd := Hfd.out
      rw [hfd]
      have i0 := bI.cell 0
      have i1 := bI.cell 1
      have i2 := bI.cell 2
      have i3 := bI.cell 3
      have n0 := bN.cell 0
      have n1 := bN.cell 1
      have n2 := bN.cell 2
      have n3 := bN.cell 3
      have n4 := bN.cell 4
      simp only [List.getElem?_toArray, List.getElem?_cons_zero, List.getElem?_cons_succ] at i0 i1 i2 i3 n0 n1 n2 n3 n4
      clear hfd
      go_wp2_with fail
      go_region_held3 (fun w' => w'.cell? ⟨w1.heap.size, 0, none⟩ = some (.string ⟨#[114, 105, 115, 99, 118, 54, 52]⟩) ∧ w'.cell? ⟨w1.heap.size, 1, none⟩ = some (.int .u32 3221225715) ∧ w'.cell? ⟨w1.heap.size, 2, none⟩ = some (.bool false) ∧ w'.cell? ⟨w1.heap.size, 3, none⟩ = some (.int .i64 64) ∧ w'.cell? ⟨w2.heap.size, 4, none⟩ = some (.string ⟨#[114, 105, 115, 99, 118, 54, 52]⟩)) (first | go_keep | exact ⟨cell_later hb4 (by assumption), cell_later hb4 (by assumption), cell_later hb4 (by assumption), cell_later hb4 (by assumption), cell_later hb4 (by assumption)⟩ | (go_split_ands; exact ⟨cell_later hb5 (by assumption), cell_later hb5 (by assumption), cell_later hb5 (by assumption), cell_later hb5 (by assumption), cell_later hb5 (by assumption)⟩)) (first | (go_at_call 20; refine (token_4 _).mono ?_; rintro e w4 ⟨rfl, hb4⟩) | (go_at_call 13; refine (awake08_any _).mono ?_; rintro e w5 ⟨rfl, hb5⟩))
      go_wp2
      go_ret
      have s4 := hb4.size
      exact ⟨rfl, (hB.drew.trans (hb4.mono hB.size)).trans (hb5.mono (Nat.le_trans hB.size s4))⟩

set_option maxRecDepth 100000 in
set_option maxHeartbeats 1000000 in
theorem lo_false (a : Int) (h : a < 0) (l : List UInt8) (hl : l.length ≤ 50) (hfd : fU l 5 = false) (w : World) :
    Calls Try.prog 7 #[.int .i64 a, .string ⟨l.toArray⟩] w fun e w' => e = .returned (.bool true) ∧ Below w.heap.size w w' := by
  have hl' : (l.length : Int) ≤ 50 := by omega
  have hof := of_any a
  rw [of_out a (.inl h)] at hof
  have hna := named_call l
  rw [hfd] at hna
  simp only [Bool.false_eq_true, if_false] at hna
  have Hof := Lib.hid hof
  have Hna := Lib.hid hna
  have Hfd := Lib.hid hfd
  clear hof hna hfd
  go_enter Try.func7, Try.ntmps7
  go_wp2_with (first | (go_at_call 16; refine (Hof.out _).mono ?_; rintro e w1 ⟨rfl, hb1⟩) | (go_at_call 18; refine (Hna.out _).mono ?_; rintro e w2 ⟨rfl, hb2⟩) | (go_at_call 19; refine (names_any _).mono ?_; rintro e w3 ⟨rfl, rfl⟩))
  have bI := (((Blk.new w1 36 #[.string ⟨#[]⟩, .int .u32 0, .bool false, .int .i64 0]).below hb2 (by simp)).alloc (.cells #[.string ⟨#[120, 56, 54, 95, 54, 52]⟩, .string ⟨#[120, 51, 50]⟩, .string ⟨#[105, 51, 56, 54]⟩, .string ⟨#[97, 114, 109, 54, 52]⟩, .string ⟨#[114, 105, 115, 99, 118, 54, 52]⟩] 9))
  have bN := Blk.new w2 9 #[.string ⟨#[120, 56, 54, 95, 54, 52]⟩, .string ⟨#[120, 51, 50]⟩, .string ⟨#[105, 51, 56, 54]⟩, .string ⟨#[97, 114, 109, 54, 52]⟩, .string ⟨#[114, 105, 115, 99, 118, 54, 52]⟩]
  have s1 := hb1.size
  have s2 := hb2.size
  simp only [World.size_alloc] at s2
  have hB : Below w.heap.size w (w2.alloc (.cells #[.string ⟨#[120, 56, 54, 95, 54, 52]⟩, .string ⟨#[120, 51, 50]⟩, .string ⟨#[105, 51, 56, 54]⟩, .string ⟨#[97, 114, 109, 54, 52]⟩, .string ⟨#[114, 105, 115, 99, 118, 54, 52]⟩] 9)) := (((hb1.alloc s1 _).trans (hb2.mono (by simp; omega))).alloc (by omega) _)
  obtain ⟨W, hW⟩ : ∃ W, w2.alloc (.cells #[.string ⟨#[120, 56, 54, 95, 54, 52]⟩, .string ⟨#[120, 51, 50]⟩, .string ⟨#[105, 51, 56, 54]⟩, .string ⟨#[97, 114, 109, 54, 52]⟩, .string ⟨#[114, 105, 115, 99, 118, 54, 52]⟩] 9) = W := ⟨_, rfl⟩
  rw [hW] at bI bN hB ⊢
  have hsW : w2.heap.size + 1 = W.heap.size := by rw [← hW]; simp
  have HW := Lib.hid hsW
  clear hW hsW
  go_loop [10, 11, 12] (fun a10 a11 i => (i = .int .i64 0 ∧ a10 = .int .i64 (wU l 0) ∧ a11 = .bool (fU l 0)) ∨ (i = .int .i64 1 ∧ a10 = .int .i64 (wU l 1) ∧ a11 = .bool (fU l 1)) ∨ (i = .int .i64 2 ∧ a10 = .int .i64 (wU l 2) ∧ a11 = .bool (fU l 2)) ∨ (i = .int .i64 3 ∧ a10 = .int .i64 (wU l 3) ∧ a11 = .bool (fU l 3)) ∨ (i = .int .i64 4 ∧ a10 = .int .i64 (wU l 4) ∧ a11 = .bool (fU l 4)) ∨ (i = .int .i64 5 ∧ a10 = .int .i64 (wU l 5) ∧ a11 = .bool (fU l 5))) (fun _ _ i => 5 - (intOf i).toNat)
  case atStart => exact .inl ⟨rfl, rfl, rfl⟩
  case round =>
    rcases hrel with ⟨rfl, rfl, rfl⟩ | ⟨rfl, rfl, rfl⟩ | ⟨rfl, rfl, rfl⟩ | ⟨rfl, rfl, rfl⟩ | ⟨rfl, rfl, rfl⟩ | ⟨rfl, rfl, rfl⟩
    · have cn := bN.cell 0
      simp only [List.getElem?_toArray, List.getElem?_cons_zero, List.getElem?_cons_succ] at cn
      cases hq : (nameL 0 == l) with
      | true =>
        have hq' : ([120, 56, 54, 95, 54, 52] == l) = true := hq
        have e1 : wU l 1 = 0 := by simp only [wU, hq]; rfl
        have e2 : fU l 1 = true := by simp only [fU, hq]; rfl
        clear hq
        have E1 := Lib.hid e1
        have E2 := Lib.hid e2
        clear e1 e2
        go_wp2
        go_round
        case rel => exact .inr (.inl ⟨rfl, by rw [E1.out], by rw [E2.out]⟩)
        case measure => simp [intOf]
      | false =>
        have hq' : ([120, 56, 54, 95, 54, 52] == l) = false := hq
        have e1 : wU l 1 = wU l 0 := by simp only [wU, hq]; rfl
        have e2 : fU l 1 = fU l 0 := by simp only [fU, hq]; rfl
        clear hq
        have E1 := Lib.hid e1
        have E2 := Lib.hid e2
        clear e1 e2
        go_wp2
        go_round
        case rel => exact .inr (.inl ⟨rfl, by rw [E1.out], by rw [E2.out]⟩)
        case measure => simp [intOf]
    · have cn := bN.cell 1
      simp only [List.getElem?_toArray, List.getElem?_cons_zero, List.getElem?_cons_succ] at cn
      cases hq : (nameL 1 == l) with
      | true =>
        have hq' : ([120, 51, 50] == l) = true := hq
        have e1 : wU l 2 = 1 := by simp only [wU, hq]; rfl
        have e2 : fU l 2 = true := by simp only [fU, hq]; rfl
        clear hq
        have E1 := Lib.hid e1
        have E2 := Lib.hid e2
        clear e1 e2
        go_wp2
        go_round
        case rel => exact .inr (.inr (.inl ⟨rfl, by rw [E1.out], by rw [E2.out]⟩))
        case measure => simp [intOf]
      | false =>
        have hq' : ([120, 51, 50] == l) = false := hq
        have e1 : wU l 2 = wU l 1 := by simp only [wU, hq]; rfl
        have e2 : fU l 2 = fU l 1 := by simp only [fU, hq]; rfl
        clear hq
        have E1 := Lib.hid e1
        have E2 := Lib.hid e2
        clear e1 e2
        go_wp2
        go_round
        case rel => exact .inr (.inr (.inl ⟨rfl, by rw [E1.out], by rw [E2.out]⟩))
        case measure => simp [intOf]
    · have cn := bN.cell 2
      simp only [List.getElem?_toArray, List.getElem?_cons_zero, List.getElem?_cons_succ] at cn
      cases hq : (nameL 2 == l) with
      | true =>
        have hq' : ([105, 51, 56, 54] == l) = true := hq
        have e1 : wU l 3 = 2 := by simp only [wU, hq]; rfl
        have e2 : fU l 3 = true := by simp only [fU, hq]; rfl
        clear hq
        have E1 := Lib.hid e1
        have E2 := Lib.hid e2
        clear e1 e2
        go_wp2
        go_round
        case rel => exact .inr (.inr (.inr (.inl ⟨rfl, by rw [E1.out], by rw [E2.out]⟩)))
        case measure => simp [intOf]
      | false =>
        have hq' : ([105, 51, 56, 54] == l) = false := hq
        have e1 : wU l 3 = wU l 2 := by simp only [wU, hq]; rfl
        have e2 : fU l 3 = fU l 2 := by simp only [fU, hq]; rfl
        clear hq
        have E1 := Lib.hid e1
        have E2 := Lib.hid e2
        clear e1 e2
        go_wp2
        go_round
        case rel => exact .inr (.inr (.inr (.inl ⟨rfl, by rw [E1.out], by rw [E2.out]⟩)))
        case measure => simp [intOf]
    · have cn := bN.cell 3
      simp only [List.getElem?_toArray, List.getElem?_cons_zero, List.getElem?_cons_succ] at cn
      cases hq : (nameL 3 == l) with
      | true =>
        have hq' : ([97, 114, 109, 54, 52] == l) = true := hq
        have e1 : wU l 4 = 3 := by simp only [wU, hq]; rfl
        have e2 : fU l 4 = true := by simp only [fU, hq]; rfl
        clear hq
        have E1 := Lib.hid e1
        have E2 := Lib.hid e2
        clear e1 e2
        go_wp2
        go_round
        case rel => exact .inr (.inr (.inr (.inr (.inl ⟨rfl, by rw [E1.out], by rw [E2.out]⟩))))
        case measure => simp [intOf]
      | false =>
        have hq' : ([97, 114, 109, 54, 52] == l) = false := hq
        have e1 : wU l 4 = wU l 3 := by simp only [wU, hq]; rfl
        have e2 : fU l 4 = fU l 3 := by simp only [fU, hq]; rfl
        clear hq
        have E1 := Lib.hid e1
        have E2 := Lib.hid e2
        clear e1 e2
        go_wp2
        go_round
        case rel => exact .inr (.inr (.inr (.inr (.inl ⟨rfl, by rw [E1.out], by rw [E2.out]⟩))))
        case measure => simp [intOf]
    · have cn := bN.cell 4
      simp only [List.getElem?_toArray, List.getElem?_cons_zero, List.getElem?_cons_succ] at cn
      cases hq : (nameL 4 == l) with
      | true =>
        have hq' : ([114, 105, 115, 99, 118, 54, 52] == l) = true := hq
        have e1 : wU l 5 = 4 := by simp only [wU, hq]; rfl
        have e2 : fU l 5 = true := by simp only [fU, hq]; rfl
        clear hq
        have E1 := Lib.hid e1
        have E2 := Lib.hid e2
        clear e1 e2
        go_wp2
        go_round
        case rel => exact .inr (.inr (.inr (.inr (.inr (⟨rfl, by rw [E1.out], by rw [E2.out]⟩)))))
        case measure => simp [intOf]
      | false =>
        have hq' : ([114, 105, 115, 99, 118, 54, 52] == l) = false := hq
        have e1 : wU l 5 = wU l 4 := by simp only [wU, hq]; rfl
        have e2 : fU l 5 = fU l 4 := by simp only [fU, hq]; rfl
        clear hq
        have E1 := Lib.hid e1
        have E2 := Lib.hid e2
        clear e1 e2
        go_wp2
        go_round
        case rel => exact .inr (.inr (.inr (.inr (.inr (⟨rfl, by rw [E1.out], by rw [E2.out]⟩)))))
        case measure => simp [intOf]
    · generalize wU l 5 = q
      have hfd := Hfd.out
      rw [hfd]
      have i0 := bI.cell 0
      have i1 := bI.cell 1
      have i2 := bI.cell 2
      have i3 := bI.cell 3
      have n0 := bN.cell 0
      have n1 := bN.cell 1
      have n2 := bN.cell 2
      have n3 := bN.cell 3
      have n4 := bN.cell 4
      simp only [List.getElem?_toArray, List.getElem?_cons_zero, List.getElem?_cons_succ] at i0 i1 i2 i3 n0 n1 n2 n3 n4
      clear hfd
      go_wp2_with (go_at_call 13; refine (awake08_any _).mono ?_; rintro e w5 ⟨rfl, hb5⟩)
      go_ret
      exact ⟨rfl, hB.trans (hb5.mono hB.size)⟩

set_option maxRecDepth 100000 in
set_option maxHeartbeats 1000000 in
theorem hi_false (a : Int) (h : 4 < a) (l : List UInt8) (hl : l.length ≤ 50) (hfd : fU l 5 = false) (w : World) :
    Calls Try.prog 7 #[.int .i64 a, .string ⟨l.toArray⟩] w fun e w' => e = .returned (.bool true) ∧ Below w.heap.size w w' := by
  have hl' : (l.length : Int) ≤ 50 := by omega
  have hof := of_any a
  rw [of_out a (.inr h)] at hof
  have hna := named_call l
  rw [hfd] at hna
  simp only [Bool.false_eq_true, if_false] at hna
  have Hof := Lib.hid hof
  have Hna := Lib.hid hna
  have Hfd := Lib.hid hfd
  clear hof hna hfd
  go_enter Try.func7, Try.ntmps7
  go_wp2_with (first | (go_at_call 16; refine (Hof.out _).mono ?_; rintro e w1 ⟨rfl, hb1⟩) | (go_at_call 18; refine (Hna.out _).mono ?_; rintro e w2 ⟨rfl, hb2⟩) | (go_at_call 19; refine (names_any _).mono ?_; rintro e w3 ⟨rfl, rfl⟩))
  have bI := (((Blk.new w1 36 #[.string ⟨#[]⟩, .int .u32 0, .bool false, .int .i64 0]).below hb2 (by simp)).alloc (.cells #[.string ⟨#[120, 56, 54, 95, 54, 52]⟩, .string ⟨#[120, 51, 50]⟩, .string ⟨#[105, 51, 56, 54]⟩, .string ⟨#[97, 114, 109, 54, 52]⟩, .string ⟨#[114, 105, 115, 99, 118, 54, 52]⟩] 9))
  have bN := Blk.new w2 9 #[.string ⟨#[120, 56, 54, 95, 54, 52]⟩, .string ⟨#[120, 51, 50]⟩, .string ⟨#[105, 51, 56, 54]⟩, .string ⟨#[97, 114, 109, 54, 52]⟩, .string ⟨#[114, 105, 115, 99, 118, 54, 52]⟩]
  have s1 := hb1.size
  have s2 := hb2.size
  simp only [World.size_alloc] at s2
  have hB : Below w.heap.size w (w2.alloc (.cells #[.string ⟨#[120, 56, 54, 95, 54, 52]⟩, .string ⟨#[120, 51, 50]⟩, .string ⟨#[105, 51, 56, 54]⟩, .string ⟨#[97, 114, 109, 54, 52]⟩, .string ⟨#[114, 105, 115, 99, 118, 54, 52]⟩] 9)) := (((hb1.alloc s1 _).trans (hb2.mono (by simp; omega))).alloc (by omega) _)
  obtain ⟨W, hW⟩ : ∃ W, w2.alloc (.cells #[.string ⟨#[120, 56, 54, 95, 54, 52]⟩, .string ⟨#[120, 51, 50]⟩, .string ⟨#[105, 51, 56, 54]⟩, .string ⟨#[97, 114, 109, 54, 52]⟩, .string ⟨#[114, 105, 115, 99, 118, 54, 52]⟩] 9) = W := ⟨_, rfl⟩
  rw [hW] at bI bN hB ⊢
  have hsW : w2.heap.size + 1 = W.heap.size := by rw [← hW]; simp
  have HW := Lib.hid hsW
  clear hW hsW
  go_loop [10, 11, 12] (fun a10 a11 i => (i = .int .i64 0 ∧ a10 = .int .i64 (wU l 0) ∧ a11 = .bool (fU l 0)) ∨ (i = .int .i64 1 ∧ a10 = .int .i64 (wU l 1) ∧ a11 = .bool (fU l 1)) ∨ (i = .int .i64 2 ∧ a10 = .int .i64 (wU l 2) ∧ a11 = .bool (fU l 2)) ∨ (i = .int .i64 3 ∧ a10 = .int .i64 (wU l 3) ∧ a11 = .bool (fU l 3)) ∨ (i = .int .i64 4 ∧ a10 = .int .i64 (wU l 4) ∧ a11 = .bool (fU l 4)) ∨ (i = .int .i64 5 ∧ a10 = .int .i64 (wU l 5) ∧ a11 = .bool (fU l 5))) (fun _ _ i => 5 - (intOf i).toNat)
  case atStart => exact .inl ⟨rfl, rfl, rfl⟩
  case round =>
    rcases hrel with ⟨rfl, rfl, rfl⟩ | ⟨rfl, rfl, rfl⟩ | ⟨rfl, rfl, rfl⟩ | ⟨rfl, rfl, rfl⟩ | ⟨rfl, rfl, rfl⟩ | ⟨rfl, rfl, rfl⟩
    · have cn := bN.cell 0
      simp only [List.getElem?_toArray, List.getElem?_cons_zero, List.getElem?_cons_succ] at cn
      cases hq : (nameL 0 == l) with
      | true =>
        have hq' : ([120, 56, 54, 95, 54, 52] == l) = true := hq
        have e1 : wU l 1 = 0 := by simp only [wU, hq]; rfl
        have e2 : fU l 1 = true := by simp only [fU, hq]; rfl
        clear hq
        have E1 := Lib.hid e1
        have E2 := Lib.hid e2
        clear e1 e2
        go_wp2
        go_round
        case rel => exact .inr (.inl ⟨rfl, by rw [E1.out], by rw [E2.out]⟩)
        case measure => simp [intOf]
      | false =>
        have hq' : ([120, 56, 54, 95, 54, 52] == l) = false := hq
        have e1 : wU l 1 = wU l 0 := by simp only [wU, hq]; rfl
        have e2 : fU l 1 = fU l 0 := by simp only [fU, hq]; rfl
        clear hq
        have E1 := Lib.hid e1
        have E2 := Lib.hid e2
        clear e1 e2
        go_wp2
        go_round
        case rel => exact .inr (.inl ⟨rfl, by rw [E1.out], by rw [E2.out]⟩)
        case measure => simp [intOf]
    · have cn := bN.cell 1
      simp only [List.getElem?_toArray, List.getElem?_cons_zero, List.getElem?_cons_succ] at cn
      cases hq : (nameL 1 == l) with
      | true =>
        have hq' : ([120, 51, 50] == l) = true := hq
        have e1 : wU l 2 = 1 := by simp only [wU, hq]; rfl
        have e2 : fU l 2 = true := by simp only [fU, hq]; rfl
        clear hq
        have E1 := Lib.hid e1
        have E2 := Lib.hid e2
        clear e1 e2
        go_wp2
        go_round
        case rel => exact .inr (.inr (.inl ⟨rfl, by rw [E1.out], by rw [E2.out]⟩))
        case measure => simp [intOf]
      | false =>
        have hq' : ([120, 51, 50] == l) = false := hq
        have e1 : wU l 2 = wU l 1 := by simp only [wU, hq]; rfl
        have e2 : fU l 2 = fU l 1 := by simp only [fU, hq]; rfl
        clear hq
        have E1 := Lib.hid e1
        have E2 := Lib.hid e2
        clear e1 e2
        go_wp2
        go_round
        case rel => exact .inr (.inr (.inl ⟨rfl, by rw [E1.out], by rw [E2.out]⟩))
        case measure => simp [intOf]
    · have cn := bN.cell 2
      simp only [List.getElem?_toArray, List.getElem?_cons_zero, List.getElem?_cons_succ] at cn
      cases hq : (nameL 2 == l) with
      | true =>
        have hq' : ([105, 51, 56, 54] == l) = true := hq
        have e1 : wU l 3 = 2 := by simp only [wU, hq]; rfl
        have e2 : fU l 3 = true := by simp only [fU, hq]; rfl
        clear hq
        have E1 := Lib.hid e1
        have E2 := Lib.hid e2
        clear e1 e2
        go_wp2
        go_round
        case rel => exact .inr (.inr (.inr (.inl ⟨rfl, by rw [E1.out], by rw [E2.out]⟩)))
        case measure => simp [intOf]
      | false =>
        have hq' : ([105, 51, 56, 54] == l) = false := hq
        have e1 : wU l 3 = wU l 2 := by simp only [wU, hq]; rfl
        have e2 : fU l 3 = fU l 2 := by simp only [fU, hq]; rfl
        clear hq
        have E1 := Lib.hid e1
        have E2 := Lib.hid e2
        clear e1 e2
        go_wp2
        go_round
        case rel => exact .inr (.inr (.inr (.inl ⟨rfl, by rw [E1.out], by rw [E2.out]⟩)))
        case measure => simp [intOf]
    · have cn := bN.cell 3
      simp only [List.getElem?_toArray, List.getElem?_cons_zero, List.getElem?_cons_succ] at cn
      cases hq : (nameL 3 == l) with
      | true =>
        have hq' : ([97, 114, 109, 54, 52] == l) = true := hq
        have e1 : wU l 4 = 3 := by simp only [wU, hq]; rfl
        have e2 : fU l 4 = true := by simp only [fU, hq]; rfl
        clear hq
        have E1 := Lib.hid e1
        have E2 := Lib.hid e2
        clear e1 e2
        go_wp2
        go_round
        case rel => exact .inr (.inr (.inr (.inr (.inl ⟨rfl, by rw [E1.out], by rw [E2.out]⟩))))
        case measure => simp [intOf]
      | false =>
        have hq' : ([97, 114, 109, 54, 52] == l) = false := hq
        have e1 : wU l 4 = wU l 3 := by simp only [wU, hq]; rfl
        have e2 : fU l 4 = fU l 3 := by simp only [fU, hq]; rfl
        clear hq
        have E1 := Lib.hid e1
        have E2 := Lib.hid e2
        clear e1 e2
        go_wp2
        go_round
        case rel => exact .inr (.inr (.inr (.inr (.inl ⟨rfl, by rw [E1.out], by rw [E2.out]⟩))))
        case measure => simp [intOf]
    · have cn := bN.cell 4
      simp only [List.getElem?_toArray, List.getElem?_cons_zero, List.getElem?_cons_succ] at cn
      cases hq : (nameL 4 == l) with
      | true =>
        have hq' : ([114, 105, 115, 99, 118, 54, 52] == l) = true := hq
        have e1 : wU l 5 = 4 := by simp only [wU, hq]; rfl
        have e2 : fU l 5 = true := by simp only [fU, hq]; rfl
        clear hq
        have E1 := Lib.hid e1
        have E2 := Lib.hid e2
        clear e1 e2
        go_wp2
        go_round
        case rel => exact .inr (.inr (.inr (.inr (.inr (⟨rfl, by rw [E1.out], by rw [E2.out]⟩)))))
        case measure => simp [intOf]
      | false =>
        have hq' : ([114, 105, 115, 99, 118, 54, 52] == l) = false := hq
        have e1 : wU l 5 = wU l 4 := by simp only [wU, hq]; rfl
        have e2 : fU l 5 = fU l 4 := by simp only [fU, hq]; rfl
        clear hq
        have E1 := Lib.hid e1
        have E2 := Lib.hid e2
        clear e1 e2
        go_wp2
        go_round
        case rel => exact .inr (.inr (.inr (.inr (.inr (⟨rfl, by rw [E1.out], by rw [E2.out]⟩)))))
        case measure => simp [intOf]
    · generalize wU l 5 = q
      have hfd := Hfd.out
      rw [hfd]
      have i0 := bI.cell 0
      have i1 := bI.cell 1
      have i2 := bI.cell 2
      have i3 := bI.cell 3
      have n0 := bN.cell 0
      have n1 := bN.cell 1
      have n2 := bN.cell 2
      have n3 := bN.cell 3
      have n4 := bN.cell 4
      simp only [List.getElem?_toArray, List.getElem?_cons_zero, List.getElem?_cons_succ] at i0 i1 i2 i3 n0 n1 n2 n3 n4
      clear hfd
      go_wp2_with (go_at_call 13; refine (awake08_any _).mono ?_; rintro e w5 ⟨rfl, hb5⟩)
      go_ret
      exact ⟨rfl, hB.trans (hb5.mono hB.size)⟩

set_option maxRecDepth 100000 in
set_option maxHeartbeats 1000000 in
theorem in0_false (l : List UInt8) (hl : l.length ≤ 50) (hfd : fU l 5 = false) (w : World) :
    Calls Try.prog 7 #[.int .i64 0, .string ⟨l.toArray⟩] w fun e w' => e = .returned (.bool true) ∧ Below w.heap.size w w' := by
  have hl' : (l.length : Int) ≤ 50 := by omega
  have hof : ∀ (W : World), Calls Try.prog 16 #[.int .i64 0] W fun e w' => e = .returned (.tuple #[.agg #[.string ⟨#[120, 56, 54, 95, 54, 52]⟩, .int .u32 3221225534, .bool false, .int .i64 64], .int .i64 0]) ∧ Below W.heap.size W w' := of_any 0
  have hna := named_call l
  rw [hfd] at hna
  simp only [Bool.false_eq_true, if_false] at hna
  have Hof := Lib.hid hof
  have Hna := Lib.hid hna
  have Hfd := Lib.hid hfd
  clear hof hna hfd
  go_enter Try.func7, Try.ntmps7
  go_wp2_with (first | (go_at_call 16; refine (Hof.out _).mono ?_; rintro e w1 ⟨rfl, hb1⟩) | (go_at_call 18; refine (Hna.out _).mono ?_; rintro e w2 ⟨rfl, hb2⟩) | (go_at_call 19; refine (names_any _).mono ?_; rintro e w3 ⟨rfl, rfl⟩))
  have bI := (((Blk.new w1 36 #[.string ⟨#[120, 56, 54, 95, 54, 52]⟩, .int .u32 3221225534, .bool false, .int .i64 64]).below hb2 (by simp)).alloc (.cells #[.string ⟨#[120, 56, 54, 95, 54, 52]⟩, .string ⟨#[120, 51, 50]⟩, .string ⟨#[105, 51, 56, 54]⟩, .string ⟨#[97, 114, 109, 54, 52]⟩, .string ⟨#[114, 105, 115, 99, 118, 54, 52]⟩] 9))
  have bN := Blk.new w2 9 #[.string ⟨#[120, 56, 54, 95, 54, 52]⟩, .string ⟨#[120, 51, 50]⟩, .string ⟨#[105, 51, 56, 54]⟩, .string ⟨#[97, 114, 109, 54, 52]⟩, .string ⟨#[114, 105, 115, 99, 118, 54, 52]⟩]
  have s1 := hb1.size
  have s2 := hb2.size
  simp only [World.size_alloc] at s2
  have hB : Below w.heap.size w (w2.alloc (.cells #[.string ⟨#[120, 56, 54, 95, 54, 52]⟩, .string ⟨#[120, 51, 50]⟩, .string ⟨#[105, 51, 56, 54]⟩, .string ⟨#[97, 114, 109, 54, 52]⟩, .string ⟨#[114, 105, 115, 99, 118, 54, 52]⟩] 9)) := (((hb1.alloc s1 _).trans (hb2.mono (by simp; omega))).alloc (by omega) _)
  obtain ⟨W, hW⟩ : ∃ W, w2.alloc (.cells #[.string ⟨#[120, 56, 54, 95, 54, 52]⟩, .string ⟨#[120, 51, 50]⟩, .string ⟨#[105, 51, 56, 54]⟩, .string ⟨#[97, 114, 109, 54, 52]⟩, .string ⟨#[114, 105, 115, 99, 118, 54, 52]⟩] 9) = W := ⟨_, rfl⟩
  rw [hW] at bI bN hB ⊢
  have hsW : w2.heap.size + 1 = W.heap.size := by rw [← hW]; simp
  have HW := Lib.hid hsW
  clear hW hsW
  go_loop [10, 11, 12] (fun a10 a11 i => (i = .int .i64 0 ∧ a10 = .int .i64 (wU l 0) ∧ a11 = .bool (fU l 0)) ∨ (i = .int .i64 1 ∧ a10 = .int .i64 (wU l 1) ∧ a11 = .bool (fU l 1)) ∨ (i = .int .i64 2 ∧ a10 = .int .i64 (wU l 2) ∧ a11 = .bool (fU l 2)) ∨ (i = .int .i64 3 ∧ a10 = .int .i64 (wU l 3) ∧ a11 = .bool (fU l 3)) ∨ (i = .int .i64 4 ∧ a10 = .int .i64 (wU l 4) ∧ a11 = .bool (fU l 4)) ∨ (i = .int .i64 5 ∧ a10 = .int .i64 (wU l 5) ∧ a11 = .bool (fU l 5))) (fun _ _ i => 5 - (intOf i).toNat)
  case atStart => exact .inl ⟨rfl, rfl, rfl⟩
  case round =>
    rcases hrel with ⟨rfl, rfl, rfl⟩ | ⟨rfl, rfl, rfl⟩ | ⟨rfl, rfl, rfl⟩ | ⟨rfl, rfl, rfl⟩ | ⟨rfl, rfl, rfl⟩ | ⟨rfl, rfl, rfl⟩
    · have cn := bN.cell 0
      simp only [List.getElem?_toArray, List.getElem?_cons_zero, List.getElem?_cons_succ] at cn
      cases hq : (nameL 0 == l) with
      | true =>
        have hq' : ([120, 56, 54, 95, 54, 52] == l) = true := hq
        have e1 : wU l 1 = 0 := by simp only [wU, hq]; rfl
        have e2 : fU l 1 = true := by simp only [fU, hq]; rfl
        clear hq
        have E1 := Lib.hid e1
        have E2 := Lib.hid e2
        clear e1 e2
        go_wp2
        go_round
        case rel => exact .inr (.inl ⟨rfl, by rw [E1.out], by rw [E2.out]⟩)
        case measure => simp [intOf]
      | false =>
        have hq' : ([120, 56, 54, 95, 54, 52] == l) = false := hq
        have e1 : wU l 1 = wU l 0 := by simp only [wU, hq]; rfl
        have e2 : fU l 1 = fU l 0 := by simp only [fU, hq]; rfl
        clear hq
        have E1 := Lib.hid e1
        have E2 := Lib.hid e2
        clear e1 e2
        go_wp2
        go_round
        case rel => exact .inr (.inl ⟨rfl, by rw [E1.out], by rw [E2.out]⟩)
        case measure => simp [intOf]
    · have cn := bN.cell 1
      simp only [List.getElem?_toArray, List.getElem?_cons_zero, List.getElem?_cons_succ] at cn
      cases hq : (nameL 1 == l) with
      | true =>
        have hq' : ([120, 51, 50] == l) = true := hq
        have e1 : wU l 2 = 1 := by simp only [wU, hq]; rfl
        have e2 : fU l 2 = true := by simp only [fU, hq]; rfl
        clear hq
        have E1 := Lib.hid e1
        have E2 := Lib.hid e2
        clear e1 e2
        go_wp2
        go_round
        case rel => exact .inr (.inr (.inl ⟨rfl, by rw [E1.out], by rw [E2.out]⟩))
        case measure => simp [intOf]
      | false =>
        have hq' : ([120, 51, 50] == l) = false := hq
        have e1 : wU l 2 = wU l 1 := by simp only [wU, hq]; rfl
        have e2 : fU l 2 = fU l 1 := by simp only [fU, hq]; rfl
        clear hq
        have E1 := Lib.hid e1
        have E2 := Lib.hid e2
        clear e1 e2
        go_wp2
        go_round
        case rel => exact .inr (.inr (.inl ⟨rfl, by rw [E1.out], by rw [E2.out]⟩))
        case measure => simp [intOf]
    · have cn := bN.cell 2
      simp only [List.getElem?_toArray, List.getElem?_cons_zero, List.getElem?_cons_succ] at cn
      cases hq : (nameL 2 == l) with
      | true =>
        have hq' : ([105, 51, 56, 54] == l) = true := hq
        have e1 : wU l 3 = 2 := by simp only [wU, hq]; rfl
        have e2 : fU l 3 = true := by simp only [fU, hq]; rfl
        clear hq
        have E1 := Lib.hid e1
        have E2 := Lib.hid e2
        clear e1 e2
        go_wp2
        go_round
        case rel => exact .inr (.inr (.inr (.inl ⟨rfl, by rw [E1.out], by rw [E2.out]⟩)))
        case measure => simp [intOf]
      | false =>
        have hq' : ([105, 51, 56, 54] == l) = false := hq
        have e1 : wU l 3 = wU l 2 := by simp only [wU, hq]; rfl
        have e2 : fU l 3 = fU l 2 := by simp only [fU, hq]; rfl
        clear hq
        have E1 := Lib.hid e1
        have E2 := Lib.hid e2
        clear e1 e2
        go_wp2
        go_round
        case rel => exact .inr (.inr (.inr (.inl ⟨rfl, by rw [E1.out], by rw [E2.out]⟩)))
        case measure => simp [intOf]
    · have cn := bN.cell 3
      simp only [List.getElem?_toArray, List.getElem?_cons_zero, List.getElem?_cons_succ] at cn
      cases hq : (nameL 3 == l) with
      | true =>
        have hq' : ([97, 114, 109, 54, 52] == l) = true := hq
        have e1 : wU l 4 = 3 := by simp only [wU, hq]; rfl
        have e2 : fU l 4 = true := by simp only [fU, hq]; rfl
        clear hq
        have E1 := Lib.hid e1
        have E2 := Lib.hid e2
        clear e1 e2
        go_wp2
        go_round
        case rel => exact .inr (.inr (.inr (.inr (.inl ⟨rfl, by rw [E1.out], by rw [E2.out]⟩))))
        case measure => simp [intOf]
      | false =>
        have hq' : ([97, 114, 109, 54, 52] == l) = false := hq
        have e1 : wU l 4 = wU l 3 := by simp only [wU, hq]; rfl
        have e2 : fU l 4 = fU l 3 := by simp only [fU, hq]; rfl
        clear hq
        have E1 := Lib.hid e1
        have E2 := Lib.hid e2
        clear e1 e2
        go_wp2
        go_round
        case rel => exact .inr (.inr (.inr (.inr (.inl ⟨rfl, by rw [E1.out], by rw [E2.out]⟩))))
        case measure => simp [intOf]
    · have cn := bN.cell 4
      simp only [List.getElem?_toArray, List.getElem?_cons_zero, List.getElem?_cons_succ] at cn
      cases hq : (nameL 4 == l) with
      | true =>
        have hq' : ([114, 105, 115, 99, 118, 54, 52] == l) = true := hq
        have e1 : wU l 5 = 4 := by simp only [wU, hq]; rfl
        have e2 : fU l 5 = true := by simp only [fU, hq]; rfl
        clear hq
        have E1 := Lib.hid e1
        have E2 := Lib.hid e2
        clear e1 e2
        go_wp2
        go_round
        case rel => exact .inr (.inr (.inr (.inr (.inr (⟨rfl, by rw [E1.out], by rw [E2.out]⟩)))))
        case measure => simp [intOf]
      | false =>
        have hq' : ([114, 105, 115, 99, 118, 54, 52] == l) = false := hq
        have e1 : wU l 5 = wU l 4 := by simp only [wU, hq]; rfl
        have e2 : fU l 5 = fU l 4 := by simp only [fU, hq]; rfl
        clear hq
        have E1 := Lib.hid e1
        have E2 := Lib.hid e2
        clear e1 e2
        go_wp2
        go_round
        case rel => exact .inr (.inr (.inr (.inr (.inr (⟨rfl, by rw [E1.out], by rw [E2.out]⟩)))))
        case measure => simp [intOf]
    · generalize wU l 5 = q
      have hfd := Hfd.out
      rw [hfd]
      have i0 := bI.cell 0
      have i1 := bI.cell 1
      have i2 := bI.cell 2
      have i3 := bI.cell 3
      have n0 := bN.cell 0
      have n1 := bN.cell 1
      have n2 := bN.cell 2
      have n3 := bN.cell 3
      have n4 := bN.cell 4
      simp only [List.getElem?_toArray, List.getElem?_cons_zero, List.getElem?_cons_succ] at i0 i1 i2 i3 n0 n1 n2 n3 n4
      clear hfd
      go_wp2_with fail
      go_region_held3 (fun w' => w'.cell? ⟨w1.heap.size, 0, none⟩ = some (.string ⟨#[120, 56, 54, 95, 54, 52]⟩) ∧ w'.cell? ⟨w1.heap.size, 1, none⟩ = some (.int .u32 3221225534) ∧ w'.cell? ⟨w1.heap.size, 2, none⟩ = some (.bool false) ∧ w'.cell? ⟨w1.heap.size, 3, none⟩ = some (.int .i64 64) ∧ w'.cell? ⟨w2.heap.size, 0, none⟩ = some (.string ⟨#[120, 56, 54, 95, 54, 52]⟩)) (first | go_keep | exact ⟨cell_later hb4 (by assumption), cell_later hb4 (by assumption), cell_later hb4 (by assumption), cell_later hb4 (by assumption), cell_later hb4 (by assumption)⟩ | (go_split_ands; exact ⟨cell_later hb5 (by assumption), cell_later hb5 (by assumption), cell_later hb5 (by assumption), cell_later hb5 (by assumption), cell_later hb5 (by assumption)⟩)) (first | (go_at_call 20; refine (token_0 _).mono ?_; rintro e w4 ⟨rfl, hb4⟩) | (go_at_call 13; refine (awake08_any _).mono ?_; rintro e w5 ⟨rfl, hb5⟩))
      go_wp2
      go_ret
      have s4 := hb4.size
      exact ⟨rfl, (hB.drew.trans (hb4.mono hB.size)).trans (hb5.mono (Nat.le_trans hB.size s4))⟩

set_option maxRecDepth 100000 in
set_option maxHeartbeats 1000000 in
theorem in1_false (l : List UInt8) (hl : l.length ≤ 50) (hfd : fU l 5 = false) (w : World) :
    Calls Try.prog 7 #[.int .i64 1, .string ⟨l.toArray⟩] w fun e w' => e = .returned (.bool true) ∧ Below w.heap.size w w' := by
  have hl' : (l.length : Int) ≤ 50 := by omega
  have hof : ∀ (W : World), Calls Try.prog 16 #[.int .i64 1] W fun e w' => e = .returned (.tuple #[.agg #[.string ⟨#[120, 51, 50]⟩, .int .u32 3221225534, .bool true, .int .i64 64], .int .i64 0]) ∧ Below W.heap.size W w' := of_any 1
  have hna := named_call l
  rw [hfd] at hna
  simp only [Bool.false_eq_true, if_false] at hna
  have Hof := Lib.hid hof
  have Hna := Lib.hid hna
  have Hfd := Lib.hid hfd
  clear hof hna hfd
  go_enter Try.func7, Try.ntmps7
  go_wp2_with (first | (go_at_call 16; refine (Hof.out _).mono ?_; rintro e w1 ⟨rfl, hb1⟩) | (go_at_call 18; refine (Hna.out _).mono ?_; rintro e w2 ⟨rfl, hb2⟩) | (go_at_call 19; refine (names_any _).mono ?_; rintro e w3 ⟨rfl, rfl⟩))
  have bI := (((Blk.new w1 36 #[.string ⟨#[120, 51, 50]⟩, .int .u32 3221225534, .bool true, .int .i64 64]).below hb2 (by simp)).alloc (.cells #[.string ⟨#[120, 56, 54, 95, 54, 52]⟩, .string ⟨#[120, 51, 50]⟩, .string ⟨#[105, 51, 56, 54]⟩, .string ⟨#[97, 114, 109, 54, 52]⟩, .string ⟨#[114, 105, 115, 99, 118, 54, 52]⟩] 9))
  have bN := Blk.new w2 9 #[.string ⟨#[120, 56, 54, 95, 54, 52]⟩, .string ⟨#[120, 51, 50]⟩, .string ⟨#[105, 51, 56, 54]⟩, .string ⟨#[97, 114, 109, 54, 52]⟩, .string ⟨#[114, 105, 115, 99, 118, 54, 52]⟩]
  have s1 := hb1.size
  have s2 := hb2.size
  simp only [World.size_alloc] at s2
  have hB : Below w.heap.size w (w2.alloc (.cells #[.string ⟨#[120, 56, 54, 95, 54, 52]⟩, .string ⟨#[120, 51, 50]⟩, .string ⟨#[105, 51, 56, 54]⟩, .string ⟨#[97, 114, 109, 54, 52]⟩, .string ⟨#[114, 105, 115, 99, 118, 54, 52]⟩] 9)) := (((hb1.alloc s1 _).trans (hb2.mono (by simp; omega))).alloc (by omega) _)
  obtain ⟨W, hW⟩ : ∃ W, w2.alloc (.cells #[.string ⟨#[120, 56, 54, 95, 54, 52]⟩, .string ⟨#[120, 51, 50]⟩, .string ⟨#[105, 51, 56, 54]⟩, .string ⟨#[97, 114, 109, 54, 52]⟩, .string ⟨#[114, 105, 115, 99, 118, 54, 52]⟩] 9) = W := ⟨_, rfl⟩
  rw [hW] at bI bN hB ⊢
  have hsW : w2.heap.size + 1 = W.heap.size := by rw [← hW]; simp
  have HW := Lib.hid hsW
  clear hW hsW
  go_loop [10, 11, 12] (fun a10 a11 i => (i = .int .i64 0 ∧ a10 = .int .i64 (wU l 0) ∧ a11 = .bool (fU l 0)) ∨ (i = .int .i64 1 ∧ a10 = .int .i64 (wU l 1) ∧ a11 = .bool (fU l 1)) ∨ (i = .int .i64 2 ∧ a10 = .int .i64 (wU l 2) ∧ a11 = .bool (fU l 2)) ∨ (i = .int .i64 3 ∧ a10 = .int .i64 (wU l 3) ∧ a11 = .bool (fU l 3)) ∨ (i = .int .i64 4 ∧ a10 = .int .i64 (wU l 4) ∧ a11 = .bool (fU l 4)) ∨ (i = .int .i64 5 ∧ a10 = .int .i64 (wU l 5) ∧ a11 = .bool (fU l 5))) (fun _ _ i => 5 - (intOf i).toNat)
  case atStart => exact .inl ⟨rfl, rfl, rfl⟩
  case round =>
    rcases hrel with ⟨rfl, rfl, rfl⟩ | ⟨rfl, rfl, rfl⟩ | ⟨rfl, rfl, rfl⟩ | ⟨rfl, rfl, rfl⟩ | ⟨rfl, rfl, rfl⟩ | ⟨rfl, rfl, rfl⟩
    · have cn := bN.cell 0
      simp only [List.getElem?_toArray, List.getElem?_cons_zero, List.getElem?_cons_succ] at cn
      cases hq : (nameL 0 == l) with
      | true =>
        have hq' : ([120, 56, 54, 95, 54, 52] == l) = true := hq
        have e1 : wU l 1 = 0 := by simp only [wU, hq]; rfl
        have e2 : fU l 1 = true := by simp only [fU, hq]; rfl
        clear hq
        have E1 := Lib.hid e1
        have E2 := Lib.hid e2
        clear e1 e2
        go_wp2
        go_round
        case rel => exact .inr (.inl ⟨rfl, by rw [E1.out], by rw [E2.out]⟩)
        case measure => simp [intOf]
      | false =>
        have hq' : ([120, 56, 54, 95, 54, 52] == l) = false := hq
        have e1 : wU l 1 = wU l 0 := by simp only [wU, hq]; rfl
        have e2 : fU l 1 = fU l 0 := by simp only [fU, hq]; rfl
        clear hq
        have E1 := Lib.hid e1
        have E2 := Lib.hid e2
        clear e1 e2
        go_wp2
        go_round
        case rel => exact .inr (.inl ⟨rfl, by rw [E1.out], by rw [E2.out]⟩)
        case measure => simp [intOf]
    · have cn := bN.cell 1
      simp only [List.getElem?_toArray, List.getElem?_cons_zero, List.getElem?_cons_succ] at cn
      cases hq : (nameL 1 == l) with
      | true =>
        have hq' : ([120, 51, 50] == l) = true := hq
        have e1 : wU l 2 = 1 := by simp only [wU, hq]; rfl
        have e2 : fU l 2 = true := by simp only [fU, hq]; rfl
        clear hq
        have E1 := Lib.hid e1
        have E2 := Lib.hid e2
        clear e1 e2
        go_wp2
        go_round
        case rel => exact .inr (.inr (.inl ⟨rfl, by rw [E1.out], by rw [E2.out]⟩))
        case measure => simp [intOf]
      | false =>
        have hq' : ([120, 51, 50] == l) = false := hq
        have e1 : wU l 2 = wU l 1 := by simp only [wU, hq]; rfl
        have e2 : fU l 2 = fU l 1 := by simp only [fU, hq]; rfl
        clear hq
        have E1 := Lib.hid e1
        have E2 := Lib.hid e2
        clear e1 e2
        go_wp2
        go_round
        case rel => exact .inr (.inr (.inl ⟨rfl, by rw [E1.out], by rw [E2.out]⟩))
        case measure => simp [intOf]
    · have cn := bN.cell 2
      simp only [List.getElem?_toArray, List.getElem?_cons_zero, List.getElem?_cons_succ] at cn
      cases hq : (nameL 2 == l) with
      | true =>
        have hq' : ([105, 51, 56, 54] == l) = true := hq
        have e1 : wU l 3 = 2 := by simp only [wU, hq]; rfl
        have e2 : fU l 3 = true := by simp only [fU, hq]; rfl
        clear hq
        have E1 := Lib.hid e1
        have E2 := Lib.hid e2
        clear e1 e2
        go_wp2
        go_round
        case rel => exact .inr (.inr (.inr (.inl ⟨rfl, by rw [E1.out], by rw [E2.out]⟩)))
        case measure => simp [intOf]
      | false =>
        have hq' : ([105, 51, 56, 54] == l) = false := hq
        have e1 : wU l 3 = wU l 2 := by simp only [wU, hq]; rfl
        have e2 : fU l 3 = fU l 2 := by simp only [fU, hq]; rfl
        clear hq
        have E1 := Lib.hid e1
        have E2 := Lib.hid e2
        clear e1 e2
        go_wp2
        go_round
        case rel => exact .inr (.inr (.inr (.inl ⟨rfl, by rw [E1.out], by rw [E2.out]⟩)))
        case measure => simp [intOf]
    · have cn := bN.cell 3
      simp only [List.getElem?_toArray, List.getElem?_cons_zero, List.getElem?_cons_succ] at cn
      cases hq : (nameL 3 == l) with
      | true =>
        have hq' : ([97, 114, 109, 54, 52] == l) = true := hq
        have e1 : wU l 4 = 3 := by simp only [wU, hq]; rfl
        have e2 : fU l 4 = true := by simp only [fU, hq]; rfl
        clear hq
        have E1 := Lib.hid e1
        have E2 := Lib.hid e2
        clear e1 e2
        go_wp2
        go_round
        case rel => exact .inr (.inr (.inr (.inr (.inl ⟨rfl, by rw [E1.out], by rw [E2.out]⟩))))
        case measure => simp [intOf]
      | false =>
        have hq' : ([97, 114, 109, 54, 52] == l) = false := hq
        have e1 : wU l 4 = wU l 3 := by simp only [wU, hq]; rfl
        have e2 : fU l 4 = fU l 3 := by simp only [fU, hq]; rfl
        clear hq
        have E1 := Lib.hid e1
        have E2 := Lib.hid e2
        clear e1 e2
        go_wp2
        go_round
        case rel => exact .inr (.inr (.inr (.inr (.inl ⟨rfl, by rw [E1.out], by rw [E2.out]⟩))))
        case measure => simp [intOf]
    · have cn := bN.cell 4
      simp only [List.getElem?_toArray, List.getElem?_cons_zero, List.getElem?_cons_succ] at cn
      cases hq : (nameL 4 == l) with
      | true =>
        have hq' : ([114, 105, 115, 99, 118, 54, 52] == l) = true := hq
        have e1 : wU l 5 = 4 := by simp only [wU, hq]; rfl
        have e2 : fU l 5 = true := by simp only [fU, hq]; rfl
        clear hq
        have E1 := Lib.hid e1
        have E2 := Lib.hid e2
        clear e1 e2
        go_wp2
        go_round
        case rel => exact .inr (.inr (.inr (.inr (.inr (⟨rfl, by rw [E1.out], by rw [E2.out]⟩)))))
        case measure => simp [intOf]
      | false =>
        have hq' : ([114, 105, 115, 99, 118, 54, 52] == l) = false := hq
        have e1 : wU l 5 = wU l 4 := by simp only [wU, hq]; rfl
        have e2 : fU l 5 = fU l 4 := by simp only [fU, hq]; rfl
        clear hq
        have E1 := Lib.hid e1
        have E2 := Lib.hid e2
        clear e1 e2
        go_wp2
        go_round
        case rel => exact .inr (.inr (.inr (.inr (.inr (⟨rfl, by rw [E1.out], by rw [E2.out]⟩)))))
        case measure => simp [intOf]
    · generalize wU l 5 = q
      have hfd := Hfd.out
      rw [hfd]
      have i0 := bI.cell 0
      have i1 := bI.cell 1
      have i2 := bI.cell 2
      have i3 := bI.cell 3
      have n0 := bN.cell 0
      have n1 := bN.cell 1
      have n2 := bN.cell 2
      have n3 := bN.cell 3
      have n4 := bN.cell 4
      simp only [List.getElem?_toArray, List.getElem?_cons_zero, List.getElem?_cons_succ] at i0 i1 i2 i3 n0 n1 n2 n3 n4
      clear hfd
      go_wp2_with fail
      go_region_held3 (fun w' => w'.cell? ⟨w1.heap.size, 0, none⟩ = some (.string ⟨#[120, 51, 50]⟩) ∧ w'.cell? ⟨w1.heap.size, 1, none⟩ = some (.int .u32 3221225534) ∧ w'.cell? ⟨w1.heap.size, 2, none⟩ = some (.bool true) ∧ w'.cell? ⟨w1.heap.size, 3, none⟩ = some (.int .i64 64) ∧ w'.cell? ⟨w2.heap.size, 1, none⟩ = some (.string ⟨#[120, 51, 50]⟩)) (first | go_keep | exact ⟨cell_later hb4 (by assumption), cell_later hb4 (by assumption), cell_later hb4 (by assumption), cell_later hb4 (by assumption), cell_later hb4 (by assumption)⟩ | (go_split_ands; exact ⟨cell_later hb5 (by assumption), cell_later hb5 (by assumption), cell_later hb5 (by assumption), cell_later hb5 (by assumption), cell_later hb5 (by assumption)⟩)) (first | (go_at_call 20; refine (token_1 _).mono ?_; rintro e w4 ⟨rfl, hb4⟩) | (go_at_call 13; refine (awake08_any _).mono ?_; rintro e w5 ⟨rfl, hb5⟩))
      go_wp2
      go_ret
      have s4 := hb4.size
      exact ⟨rfl, (hB.drew.trans (hb4.mono hB.size)).trans (hb5.mono (Nat.le_trans hB.size s4))⟩

set_option maxRecDepth 100000 in
set_option maxHeartbeats 1000000 in
theorem in2_false (l : List UInt8) (hl : l.length ≤ 50) (hfd : fU l 5 = false) (w : World) :
    Calls Try.prog 7 #[.int .i64 2, .string ⟨l.toArray⟩] w fun e w' => e = .returned (.bool true) ∧ Below w.heap.size w w' := by
  have hl' : (l.length : Int) ≤ 50 := by omega
  have hof : ∀ (W : World), Calls Try.prog 16 #[.int .i64 2] W fun e w' => e = .returned (.tuple #[.agg #[.string ⟨#[105, 51, 56, 54]⟩, .int .u32 1073741827, .bool false, .int .i64 32], .int .i64 0]) ∧ Below W.heap.size W w' := of_any 2
  have hna := named_call l
  rw [hfd] at hna
  simp only [Bool.false_eq_true, if_false] at hna
  have Hof := Lib.hid hof
  have Hna := Lib.hid hna
  have Hfd := Lib.hid hfd
  clear hof hna hfd
  go_enter Try.func7, Try.ntmps7
  go_wp2_with (first | (go_at_call 16; refine (Hof.out _).mono ?_; rintro e w1 ⟨rfl, hb1⟩) | (go_at_call 18; refine (Hna.out _).mono ?_; rintro e w2 ⟨rfl, hb2⟩) | (go_at_call 19; refine (names_any _).mono ?_; rintro e w3 ⟨rfl, rfl⟩))
  have bI := (((Blk.new w1 36 #[.string ⟨#[105, 51, 56, 54]⟩, .int .u32 1073741827, .bool false, .int .i64 32]).below hb2 (by simp)).alloc (.cells #[.string ⟨#[120, 56, 54, 95, 54, 52]⟩, .string ⟨#[120, 51, 50]⟩, .string ⟨#[105, 51, 56, 54]⟩, .string ⟨#[97, 114, 109, 54, 52]⟩, .string ⟨#[114, 105, 115, 99, 118, 54, 52]⟩] 9))
  have bN := Blk.new w2 9 #[.string ⟨#[120, 56, 54, 95, 54, 52]⟩, .string ⟨#[120, 51, 50]⟩, .string ⟨#[105, 51, 56, 54]⟩, .string ⟨#[97, 114, 109, 54, 52]⟩, .string ⟨#[114, 105, 115, 99, 118, 54, 52]⟩]
  have s1 := hb1.size
  have s2 := hb2.size
  simp only [World.size_alloc] at s2
  have hB : Below w.heap.size w (w2.alloc (.cells #[.string ⟨#[120, 56, 54, 95, 54, 52]⟩, .string ⟨#[120, 51, 50]⟩, .string ⟨#[105, 51, 56, 54]⟩, .string ⟨#[97, 114, 109, 54, 52]⟩, .string ⟨#[114, 105, 115, 99, 118, 54, 52]⟩] 9)) := (((hb1.alloc s1 _).trans (hb2.mono (by simp; omega))).alloc (by omega) _)
  obtain ⟨W, hW⟩ : ∃ W, w2.alloc (.cells #[.string ⟨#[120, 56, 54, 95, 54, 52]⟩, .string ⟨#[120, 51, 50]⟩, .string ⟨#[105, 51, 56, 54]⟩, .string ⟨#[97, 114, 109, 54, 52]⟩, .string ⟨#[114, 105, 115, 99, 118, 54, 52]⟩] 9) = W := ⟨_, rfl⟩
  rw [hW] at bI bN hB ⊢
  have hsW : w2.heap.size + 1 = W.heap.size := by rw [← hW]; simp
  have HW := Lib.hid hsW
  clear hW hsW
  go_loop [10, 11, 12] (fun a10 a11 i => (i = .int .i64 0 ∧ a10 = .int .i64 (wU l 0) ∧ a11 = .bool (fU l 0)) ∨ (i = .int .i64 1 ∧ a10 = .int .i64 (wU l 1) ∧ a11 = .bool (fU l 1)) ∨ (i = .int .i64 2 ∧ a10 = .int .i64 (wU l 2) ∧ a11 = .bool (fU l 2)) ∨ (i = .int .i64 3 ∧ a10 = .int .i64 (wU l 3) ∧ a11 = .bool (fU l 3)) ∨ (i = .int .i64 4 ∧ a10 = .int .i64 (wU l 4) ∧ a11 = .bool (fU l 4)) ∨ (i = .int .i64 5 ∧ a10 = .int .i64 (wU l 5) ∧ a11 = .bool (fU l 5))) (fun _ _ i => 5 - (intOf i).toNat)
  case atStart => exact .inl ⟨rfl, rfl, rfl⟩
  case round =>
    rcases hrel with ⟨rfl, rfl, rfl⟩ | ⟨rfl, rfl, rfl⟩ | ⟨rfl, rfl, rfl⟩ | ⟨rfl, rfl, rfl⟩ | ⟨rfl, rfl, rfl⟩ | ⟨rfl, rfl, rfl⟩
    · have cn := bN.cell 0
      simp only [List.getElem?_toArray, List.getElem?_cons_zero, List.getElem?_cons_succ] at cn
      cases hq : (nameL 0 == l) with
      | true =>
        have hq' : ([120, 56, 54, 95, 54, 52] == l) = true := hq
        have e1 : wU l 1 = 0 := by simp only [wU, hq]; rfl
        have e2 : fU l 1 = true := by simp only [fU, hq]; rfl
        clear hq
        have E1 := Lib.hid e1
        have E2 := Lib.hid e2
        clear e1 e2
        go_wp2
        go_round
        case rel => exact .inr (.inl ⟨rfl, by rw [E1.out], by rw [E2.out]⟩)
        case measure => simp [intOf]
      | false =>
        have hq' : ([120, 56, 54, 95, 54, 52] == l) = false := hq
        have e1 : wU l 1 = wU l 0 := by simp only [wU, hq]; rfl
        have e2 : fU l 1 = fU l 0 := by simp only [fU, hq]; rfl
        clear hq
        have E1 := Lib.hid e1
        have E2 := Lib.hid e2
        clear e1 e2
        go_wp2
        go_round
        case rel => exact .inr (.inl ⟨rfl, by rw [E1.out], by rw [E2.out]⟩)
        case measure => simp [intOf]
    · have cn := bN.cell 1
      simp only [List.getElem?_toArray, List.getElem?_cons_zero, List.getElem?_cons_succ] at cn
      cases hq : (nameL 1 == l) with
      | true =>
        have hq' : ([120, 51, 50] == l) = true := hq
        have e1 : wU l 2 = 1 := by simp only [wU, hq]; rfl
        have e2 : fU l 2 = true := by simp only [fU, hq]; rfl
        clear hq
        have E1 := Lib.hid e1
        have E2 := Lib.hid e2
        clear e1 e2
        go_wp2
        go_round
        case rel => exact .inr (.inr (.inl ⟨rfl, by rw [E1.out], by rw [E2.out]⟩))
        case measure => simp [intOf]
      | false =>
        have hq' : ([120, 51, 50] == l) = false := hq
        have e1 : wU l 2 = wU l 1 := by simp only [wU, hq]; rfl
        have e2 : fU l 2 = fU l 1 := by simp only [fU, hq]; rfl
        clear hq
        have E1 := Lib.hid e1
        have E2 := Lib.hid e2
        clear e1 e2
        go_wp2
        go_round
        case rel => exact .inr (.inr (.inl ⟨rfl, by rw [E1.out], by rw [E2.out]⟩))
        case measure => simp [intOf]
    · have cn := bN.cell 2
      simp only [List.getElem?_toArray, List.getElem?_cons_zero, List.getElem?_cons_succ] at cn
      cases hq : (nameL 2 == l) with
      | true =>
        have hq' : ([105, 51, 56, 54] == l) = true := hq
        have e1 : wU l 3 = 2 := by simp only [wU, hq]; rfl
        have e2 : fU l 3 = true := by simp only [fU, hq]; rfl
        clear hq
        have E1 := Lib.hid e1
        have E2 := Lib.hid e2
        clear e1 e2
        go_wp2
        go_round
        case rel => exact .inr (.inr (.inr (.inl ⟨rfl, by rw [E1.out], by rw [E2.out]⟩)))
        case measure => simp [intOf]
      | false =>
        have hq' : ([105, 51, 56, 54] == l) = false := hq
        have e1 : wU l 3 = wU l 2 := by simp only [wU, hq]; rfl
        have e2 : fU l 3 = fU l 2 := by simp only [fU, hq]; rfl
        clear hq
        have E1 := Lib.hid e1
        have E2 := Lib.hid e2
        clear e1 e2
        go_wp2
        go_round
        case rel => exact .inr (.inr (.inr (.inl ⟨rfl, by rw [E1.out], by rw [E2.out]⟩)))
        case measure => simp [intOf]
    · have cn := bN.cell 3
      simp only [List.getElem?_toArray, List.getElem?_cons_zero, List.getElem?_cons_succ] at cn
      cases hq : (nameL 3 == l) with
      | true =>
        have hq' : ([97, 114, 109, 54, 52] == l) = true := hq
        have e1 : wU l 4 = 3 := by simp only [wU, hq]; rfl
        have e2 : fU l 4 = true := by simp only [fU, hq]; rfl
        clear hq
        have E1 := Lib.hid e1
        have E2 := Lib.hid e2
        clear e1 e2
        go_wp2
        go_round
        case rel => exact .inr (.inr (.inr (.inr (.inl ⟨rfl, by rw [E1.out], by rw [E2.out]⟩))))
        case measure => simp [intOf]
      | false =>
        have hq' : ([97, 114, 109, 54, 52] == l) = false := hq
        have e1 : wU l 4 = wU l 3 := by simp only [wU, hq]; rfl
        have e2 : fU l 4 = fU l 3 := by simp only [fU, hq]; rfl
        clear hq
        have E1 := Lib.hid e1
        have E2 := Lib.hid e2
        clear e1 e2
        go_wp2
        go_round
        case rel => exact .inr (.inr (.inr (.inr (.inl ⟨rfl, by rw [E1.out], by rw [E2.out]⟩))))
        case measure => simp [intOf]
    · have cn := bN.cell 4
      simp only [List.getElem?_toArray, List.getElem?_cons_zero, List.getElem?_cons_succ] at cn
      cases hq : (nameL 4 == l) with
      | true =>
        have hq' : ([114, 105, 115, 99, 118, 54, 52] == l) = true := hq
        have e1 : wU l 5 = 4 := by simp only [wU, hq]; rfl
        have e2 : fU l 5 = true := by simp only [fU, hq]; rfl
        clear hq
        have E1 := Lib.hid e1
        have E2 := Lib.hid e2
        clear e1 e2
        go_wp2
        go_round
        case rel => exact .inr (.inr (.inr (.inr (.inr (⟨rfl, by rw [E1.out], by rw [E2.out]⟩)))))
        case measure => simp [intOf]
      | false =>
        have hq' : ([114, 105, 115, 99, 118, 54, 52] == l) = false := hq
        have e1 : wU l 5 = wU l 4 := by simp only [wU, hq]; rfl
        have e2 : fU l 5 = fU l 4 := by simp only [fU, hq]; rfl
        clear hq
        have E1 := Lib.hid e1
        have E2 := Lib.hid e2
        clear e1 e2
        go_wp2
        go_round
        case rel => exact .inr (.inr (.inr (.inr (.inr (⟨rfl, by rw [E1.out], by rw [E2.out]⟩)))))
        case measure => simp [intOf]
    · generalize wU l 5 = q
      have hfd := Hfd.out
      rw [hfd]
      have i0 := bI.cell 0
      have i1 := bI.cell 1
      have i2 := bI.cell 2
      have i3 := bI.cell 3
      have n0 := bN.cell 0
      have n1 := bN.cell 1
      have n2 := bN.cell 2
      have n3 := bN.cell 3
      have n4 := bN.cell 4
      simp only [List.getElem?_toArray, List.getElem?_cons_zero, List.getElem?_cons_succ] at i0 i1 i2 i3 n0 n1 n2 n3 n4
      clear hfd
      go_wp2_with fail
      go_region_held3 (fun w' => w'.cell? ⟨w1.heap.size, 0, none⟩ = some (.string ⟨#[105, 51, 56, 54]⟩) ∧ w'.cell? ⟨w1.heap.size, 1, none⟩ = some (.int .u32 1073741827) ∧ w'.cell? ⟨w1.heap.size, 2, none⟩ = some (.bool false) ∧ w'.cell? ⟨w1.heap.size, 3, none⟩ = some (.int .i64 32) ∧ w'.cell? ⟨w2.heap.size, 2, none⟩ = some (.string ⟨#[105, 51, 56, 54]⟩)) (first | go_keep | exact ⟨cell_later hb4 (by assumption), cell_later hb4 (by assumption), cell_later hb4 (by assumption), cell_later hb4 (by assumption), cell_later hb4 (by assumption)⟩ | (go_split_ands; exact ⟨cell_later hb5 (by assumption), cell_later hb5 (by assumption), cell_later hb5 (by assumption), cell_later hb5 (by assumption), cell_later hb5 (by assumption)⟩)) (first | (go_at_call 20; refine (token_2 _).mono ?_; rintro e w4 ⟨rfl, hb4⟩) | (go_at_call 13; refine (awake08_any _).mono ?_; rintro e w5 ⟨rfl, hb5⟩))
      go_wp2
      go_ret
      have s4 := hb4.size
      exact ⟨rfl, (hB.drew.trans (hb4.mono hB.size)).trans (hb5.mono (Nat.le_trans hB.size s4))⟩

set_option maxRecDepth 100000 in
set_option maxHeartbeats 1000000 in
theorem in3_false (l : List UInt8) (hl : l.length ≤ 50) (hfd : fU l 5 = false) (w : World) :
    Calls Try.prog 7 #[.int .i64 3, .string ⟨l.toArray⟩] w fun e w' => e = .returned (.bool true) ∧ Below w.heap.size w w' := by
  have hl' : (l.length : Int) ≤ 50 := by omega
  have hof : ∀ (W : World), Calls Try.prog 16 #[.int .i64 3] W fun e w' => e = .returned (.tuple #[.agg #[.string ⟨#[97, 114, 109, 54, 52]⟩, .int .u32 3221225655, .bool false, .int .i64 64], .int .i64 0]) ∧ Below W.heap.size W w' := of_any 3
  have hna := named_call l
  rw [hfd] at hna
  simp only [Bool.false_eq_true, if_false] at hna
  have Hof := Lib.hid hof
  have Hna := Lib.hid hna
  have Hfd := Lib.hid hfd
  clear hof hna hfd
  go_enter Try.func7, Try.ntmps7
  go_wp2_with (first | (go_at_call 16; refine (Hof.out _).mono ?_; rintro e w1 ⟨rfl, hb1⟩) | (go_at_call 18; refine (Hna.out _).mono ?_; rintro e w2 ⟨rfl, hb2⟩) | (go_at_call 19; refine (names_any _).mono ?_; rintro e w3 ⟨rfl, rfl⟩))
  have bI := (((Blk.new w1 36 #[.string ⟨#[97, 114, 109, 54, 52]⟩, .int .u32 3221225655, .bool false, .int .i64 64]).below hb2 (by simp)).alloc (.cells #[.string ⟨#[120, 56, 54, 95, 54, 52]⟩, .string ⟨#[120, 51, 50]⟩, .string ⟨#[105, 51, 56, 54]⟩, .string ⟨#[97, 114, 109, 54, 52]⟩, .string ⟨#[114, 105, 115, 99, 118, 54, 52]⟩] 9))
  have bN := Blk.new w2 9 #[.string ⟨#[120, 56, 54, 95, 54, 52]⟩, .string ⟨#[120, 51, 50]⟩, .string ⟨#[105, 51, 56, 54]⟩, .string ⟨#[97, 114, 109, 54, 52]⟩, .string ⟨#[114, 105, 115, 99, 118, 54, 52]⟩]
  have s1 := hb1.size
  have s2 := hb2.size
  simp only [World.size_alloc] at s2
  have hB : Below w.heap.size w (w2.alloc (.cells #[.string ⟨#[120, 56, 54, 95, 54, 52]⟩, .string ⟨#[120, 51, 50]⟩, .string ⟨#[105, 51, 56, 54]⟩, .string ⟨#[97, 114, 109, 54, 52]⟩, .string ⟨#[114, 105, 115, 99, 118, 54, 52]⟩] 9)) := (((hb1.alloc s1 _).trans (hb2.mono (by simp; omega))).alloc (by omega) _)
  obtain ⟨W, hW⟩ : ∃ W, w2.alloc (.cells #[.string ⟨#[120, 56, 54, 95, 54, 52]⟩, .string ⟨#[120, 51, 50]⟩, .string ⟨#[105, 51, 56, 54]⟩, .string ⟨#[97, 114, 109, 54, 52]⟩, .string ⟨#[114, 105, 115, 99, 118, 54, 52]⟩] 9) = W := ⟨_, rfl⟩
  rw [hW] at bI bN hB ⊢
  have hsW : w2.heap.size + 1 = W.heap.size := by rw [← hW]; simp
  have HW := Lib.hid hsW
  clear hW hsW
  go_loop [10, 11, 12] (fun a10 a11 i => (i = .int .i64 0 ∧ a10 = .int .i64 (wU l 0) ∧ a11 = .bool (fU l 0)) ∨ (i = .int .i64 1 ∧ a10 = .int .i64 (wU l 1) ∧ a11 = .bool (fU l 1)) ∨ (i = .int .i64 2 ∧ a10 = .int .i64 (wU l 2) ∧ a11 = .bool (fU l 2)) ∨ (i = .int .i64 3 ∧ a10 = .int .i64 (wU l 3) ∧ a11 = .bool (fU l 3)) ∨ (i = .int .i64 4 ∧ a10 = .int .i64 (wU l 4) ∧ a11 = .bool (fU l 4)) ∨ (i = .int .i64 5 ∧ a10 = .int .i64 (wU l 5) ∧ a11 = .bool (fU l 5))) (fun _ _ i => 5 - (intOf i).toNat)
  case atStart => exact .inl ⟨rfl, rfl, rfl⟩
  case round =>
    rcases hrel with ⟨rfl, rfl, rfl⟩ | ⟨rfl, rfl, rfl⟩ | ⟨rfl, rfl, rfl⟩ | ⟨rfl, rfl, rfl⟩ | ⟨rfl, rfl, rfl⟩ | ⟨rfl, rfl, rfl⟩
    · have cn := bN.cell 0
      simp only [List.getElem?_toArray, List.getElem?_cons_zero, List.getElem?_cons_succ] at cn
      cases hq : (nameL 0 == l) with
      | true =>
        have hq' : ([120, 56, 54, 95, 54, 52] == l) = true := hq
        have e1 : wU l 1 = 0 := by simp only [wU, hq]; rfl
        have e2 : fU l 1 = true := by simp only [fU, hq]; rfl
        clear hq
        have E1 := Lib.hid e1
        have E2 := Lib.hid e2
        clear e1 e2
        go_wp2
        go_round
        case rel => exact .inr (.inl ⟨rfl, by rw [E1.out], by rw [E2.out]⟩)
        case measure => simp [intOf]
      | false =>
        have hq' : ([120, 56, 54, 95, 54, 52] == l) = false := hq
        have e1 : wU l 1 = wU l 0 := by simp only [wU, hq]; rfl
        have e2 : fU l 1 = fU l 0 := by simp only [fU, hq]; rfl
        clear hq
        have E1 := Lib.hid e1
        have E2 := Lib.hid e2
        clear e1 e2
        go_wp2
        go_round
        case rel => exact .inr (.inl ⟨rfl, by rw [E1.out], by rw [E2.out]⟩)
        case measure => simp [intOf]
    · have cn := bN.cell 1
      simp only [List.getElem?_toArray, List.getElem?_cons_zero, List.getElem?_cons_succ] at cn
      cases hq : (nameL 1 == l) with
      | true =>
        have hq' : ([120, 51, 50] == l) = true := hq
        have e1 : wU l 2 = 1 := by simp only [wU, hq]; rfl
        have e2 : fU l 2 = true := by simp only [fU, hq]; rfl
        clear hq
        have E1 := Lib.hid e1
        have E2 := Lib.hid e2
        clear e1 e2
        go_wp2
        go_round
        case rel => exact .inr (.inr (.inl ⟨rfl, by rw [E1.out], by rw [E2.out]⟩))
        case measure => simp [intOf]
      | false =>
        have hq' : ([120, 51, 50] == l) = false := hq
        have e1 : wU l 2 = wU l 1 := by simp only [wU, hq]; rfl
        have e2 : fU l 2 = fU l 1 := by simp only [fU, hq]; rfl
        clear hq
        have E1 := Lib.hid e1
        have E2 := Lib.hid e2
        clear e1 e2
        go_wp2
        go_round
        case rel => exact .inr (.inr (.inl ⟨rfl, by rw [E1.out], by rw [E2.out]⟩))
        case measure => simp [intOf]
    · have cn := bN.cell 2
      simp only [List.getElem?_toArray, List.getElem?_cons_zero, List.getElem?_cons_succ] at cn
      cases hq : (nameL 2 == l) with
      | true =>
        have hq' : ([105, 51, 56, 54] == l) = true := hq
        have e1 : wU l 3 = 2 := by simp only [wU, hq]; rfl
        have e2 : fU l 3 = true := by simp only [fU, hq]; rfl
        clear hq
        have E1 := Lib.hid e1
        have E2 := Lib.hid e2
        clear e1 e2
        go_wp2
        go_round
        case rel => exact .inr (.inr (.inr (.inl ⟨rfl, by rw [E1.out], by rw [E2.out]⟩)))
        case measure => simp [intOf]
      | false =>
        have hq' : ([105, 51, 56, 54] == l) = false := hq
        have e1 : wU l 3 = wU l 2 := by simp only [wU, hq]; rfl
        have e2 : fU l 3 = fU l 2 := by simp only [fU, hq]; rfl
        clear hq
        have E1 := Lib.hid e1
        have E2 := Lib.hid e2
        clear e1 e2
        go_wp2
        go_round
        case rel => exact .inr (.inr (.inr (.inl ⟨rfl, by rw [E1.out], by rw [E2.out]⟩)))
        case measure => simp [intOf]
    · have cn := bN.cell 3
      simp only [List.getElem?_toArray, List.getElem?_cons_zero, List.getElem?_cons_succ] at cn
      cases hq : (nameL 3 == l) with
      | true =>
        have hq' : ([97, 114, 109, 54, 52] == l) = true := hq
        have e1 : wU l 4 = 3 := by simp only [wU, hq]; rfl
        have e2 : fU l 4 = true := by simp only [fU, hq]; rfl
        clear hq
        have E1 := Lib.hid e1
        have E2 := Lib.hid e2
        clear e1 e2
        go_wp2
        go_round
        case rel => exact .inr (.inr (.inr (.inr (.inl ⟨rfl, by rw [E1.out], by rw [E2.out]⟩))))
        case measure => simp [intOf]
      | false =>
        have hq' : ([97, 114, 109, 54, 52] == l) = false := hq
        have e1 : wU l 4 = wU l 3 := by simp only [wU, hq]; rfl
        have e2 : fU l 4 = fU l 3 := by simp only [fU, hq]; rfl
        clear hq
        have E1 := Lib.hid e1
        have E2 := Lib.hid e2
        clear e1 e2
        go_wp2
        go_round
        case rel => exact .inr (.inr (.inr (.inr (.inl ⟨rfl, by rw [E1.out], by rw [E2.out]⟩))))
        case measure => simp [intOf]
    · have cn := bN.cell 4
      simp only [List.getElem?_toArray, List.getElem?_cons_zero, List.getElem?_cons_succ] at cn
      cases hq : (nameL 4 == l) with
      | true =>
        have hq' : ([114, 105, 115, 99, 118, 54, 52] == l) = true := hq
        have e1 : wU l 5 = 4 := by simp only [wU, hq]; rfl
        have e2 : fU l 5 = true := by simp only [fU, hq]; rfl
        clear hq
        have E1 := Lib.hid e1
        have E2 := Lib.hid e2
        clear e1 e2
        go_wp2
        go_round
        case rel => exact .inr (.inr (.inr (.inr (.inr (⟨rfl, by rw [E1.out], by rw [E2.out]⟩)))))
        case measure => simp [intOf]
      | false =>
        have hq' : ([114, 105, 115, 99, 118, 54, 52] == l) = false := hq
        have e1 : wU l 5 = wU l 4 := by simp only [wU, hq]; rfl
        have e2 : fU l 5 = fU l 4 := by simp only [fU, hq]; rfl
        clear hq
        have E1 := Lib.hid e1
        have E2 := Lib.hid e2
        clear e1 e2
        go_wp2
        go_round
        case rel => exact .inr (.inr (.inr (.inr (.inr (⟨rfl, by rw [E1.out], by rw [E2.out]⟩)))))
        case measure => simp [intOf]
    · generalize wU l 5 = q
      have hfd := Hfd.out
      rw [hfd]
      have i0 := bI.cell 0
      have i1 := bI.cell 1
      have i2 := bI.cell 2
      have i3 := bI.cell 3
      have n0 := bN.cell 0
      have n1 := bN.cell 1
      have n2 := bN.cell 2
      have n3 := bN.cell 3
      have n4 := bN.cell 4
      simp only [List.getElem?_toArray, List.getElem?_cons_zero, List.getElem?_cons_succ] at i0 i1 i2 i3 n0 n1 n2 n3 n4
      clear hfd
      go_wp2_with fail
      go_region_held3 (fun w' => w'.cell? ⟨w1.heap.size, 0, none⟩ = some (.string ⟨#[97, 114, 109, 54, 52]⟩) ∧ w'.cell? ⟨w1.heap.size, 1, none⟩ = some (.int .u32 3221225655) ∧ w'.cell? ⟨w1.heap.size, 2, none⟩ = some (.bool false) ∧ w'.cell? ⟨w1.heap.size, 3, none⟩ = some (.int .i64 64) ∧ w'.cell? ⟨w2.heap.size, 3, none⟩ = some (.string ⟨#[97, 114, 109, 54, 52]⟩)) (first | go_keep | exact ⟨cell_later hb4 (by assumption), cell_later hb4 (by assumption), cell_later hb4 (by assumption), cell_later hb4 (by assumption), cell_later hb4 (by assumption)⟩ | (go_split_ands; exact ⟨cell_later hb5 (by assumption), cell_later hb5 (by assumption), cell_later hb5 (by assumption), cell_later hb5 (by assumption), cell_later hb5 (by assumption)⟩)) (first | (go_at_call 20; refine (token_3 _).mono ?_; rintro e w4 ⟨rfl, hb4⟩) | (go_at_call 13; refine (awake08_any _).mono ?_; rintro e w5 ⟨rfl, hb5⟩))
      go_wp2
      go_ret
      have s4 := hb4.size
      exact ⟨rfl, (hB.drew.trans (hb4.mono hB.size)).trans (hb5.mono (Nat.le_trans hB.size s4))⟩

set_option maxRecDepth 100000 in
set_option maxHeartbeats 1000000 in
theorem in4_false (l : List UInt8) (hl : l.length ≤ 50) (hfd : fU l 5 = false) (w : World) :
    Calls Try.prog 7 #[.int .i64 4, .string ⟨l.toArray⟩] w fun e w' => e = .returned (.bool true) ∧ Below w.heap.size w w' := by
  have hl' : (l.length : Int) ≤ 50 := by omega
  have hof : ∀ (W : World), Calls Try.prog 16 #[.int .i64 4] W fun e w' => e = .returned (.tuple #[.agg #[.string ⟨#[114, 105, 115, 99, 118, 54, 52]⟩, .int .u32 3221225715, .bool false, .int .i64 64], .int .i64 0]) ∧ Below W.heap.size W w' := of_any 4
  have hna := named_call l
  rw [hfd] at hna
  simp only [Bool.false_eq_true, if_false] at hna
  have Hof := Lib.hid hof
  have Hna := Lib.hid hna
  have Hfd := Lib.hid hfd
  clear hof hna hfd
  go_enter Try.func7, Try.ntmps7
  go_wp2_with (first | (go_at_call 16; refine (Hof.out _).mono ?_; rintro e w1 ⟨rfl, hb1⟩) | (go_at_call 18; refine (Hna.out _).mono ?_; rintro e w2 ⟨rfl, hb2⟩) | (go_at_call 19; refine (names_any _).mono ?_; rintro e w3 ⟨rfl, rfl⟩))
  have bI := (((Blk.new w1 36 #[.string ⟨#[114, 105, 115, 99, 118, 54, 52]⟩, .int .u32 3221225715, .bool false, .int .i64 64]).below hb2 (by simp)).alloc (.cells #[.string ⟨#[120, 56, 54, 95, 54, 52]⟩, .string ⟨#[120, 51, 50]⟩, .string ⟨#[105, 51, 56, 54]⟩, .string ⟨#[97, 114, 109, 54, 52]⟩, .string ⟨#[114, 105, 115, 99, 118, 54, 52]⟩] 9))
  have bN := Blk.new w2 9 #[.string ⟨#[120, 56, 54, 95, 54, 52]⟩, .string ⟨#[120, 51, 50]⟩, .string ⟨#[105, 51, 56, 54]⟩, .string ⟨#[97, 114, 109, 54, 52]⟩, .string ⟨#[114, 105, 115, 99, 118, 54, 52]⟩]
  have s1 := hb1.size
  have s2 := hb2.size
  simp only [World.size_alloc] at s2
  have hB : Below w.heap.size w (w2.alloc (.cells #[.string ⟨#[120, 56, 54, 95, 54, 52]⟩, .string ⟨#[120, 51, 50]⟩, .string ⟨#[105, 51, 56, 54]⟩, .string ⟨#[97, 114, 109, 54, 52]⟩, .string ⟨#[114, 105, 115, 99, 118, 54, 52]⟩] 9)) := (((hb1.alloc s1 _).trans (hb2.mono (by simp; omega))).alloc (by omega) _)
  obtain ⟨W, hW⟩ : ∃ W, w2.alloc (.cells #[.string ⟨#[120, 56, 54, 95, 54, 52]⟩, .string ⟨#[120, 51, 50]⟩, .string ⟨#[105, 51, 56, 54]⟩, .string ⟨#[97, 114, 109, 54, 52]⟩, .string ⟨#[114, 105, 115, 99, 118, 54, 52]⟩] 9) = W := ⟨_, rfl⟩
  rw [hW] at bI bN hB ⊢
  have hsW : w2.heap.size + 1 = W.heap.size := by rw [← hW]; simp
  have HW := Lib.hid hsW
  clear hW hsW
  go_loop [10, 11, 12] (fun a10 a11 i => (i = .int .i64 0 ∧ a10 = .int .i64 (wU l 0) ∧ a11 = .bool (fU l 0)) ∨ (i = .int .i64 1 ∧ a10 = .int .i64 (wU l 1) ∧ a11 = .bool (fU l 1)) ∨ (i = .int .i64 2 ∧ a10 = .int .i64 (wU l 2) ∧ a11 = .bool (fU l 2)) ∨ (i = .int .i64 3 ∧ a10 = .int .i64 (wU l 3) ∧ a11 = .bool (fU l 3)) ∨ (i = .int .i64 4 ∧ a10 = .int .i64 (wU l 4) ∧ a11 = .bool (fU l 4)) ∨ (i = .int .i64 5 ∧ a10 = .int .i64 (wU l 5) ∧ a11 = .bool (fU l 5))) (fun _ _ i => 5 - (intOf i).toNat)
  case atStart => exact .inl ⟨rfl, rfl, rfl⟩
  case round =>
    rcases hrel with ⟨rfl, rfl, rfl⟩ | ⟨rfl, rfl, rfl⟩ | ⟨rfl, rfl, rfl⟩ | ⟨rfl, rfl, rfl⟩ | ⟨rfl, rfl, rfl⟩ | ⟨rfl, rfl, rfl⟩
    · have cn := bN.cell 0
      simp only [List.getElem?_toArray, List.getElem?_cons_zero, List.getElem?_cons_succ] at cn
      cases hq : (nameL 0 == l) with
      | true =>
        have hq' : ([120, 56, 54, 95, 54, 52] == l) = true := hq
        have e1 : wU l 1 = 0 := by simp only [wU, hq]; rfl
        have e2 : fU l 1 = true := by simp only [fU, hq]; rfl
        clear hq
        have E1 := Lib.hid e1
        have E2 := Lib.hid e2
        clear e1 e2
        go_wp2
        go_round
        case rel => exact .inr (.inl ⟨rfl, by rw [E1.out], by rw [E2.out]⟩)
        case measure => simp [intOf]
      | false =>
        have hq' : ([120, 56, 54, 95, 54, 52] == l) = false := hq
        have e1 : wU l 1 = wU l 0 := by simp only [wU, hq]; rfl
        have e2 : fU l 1 = fU l 0 := by simp only [fU, hq]; rfl
        clear hq
        have E1 := Lib.hid e1
        have E2 := Lib.hid e2
        clear e1 e2
        go_wp2
        go_round
        case rel => exact .inr (.inl ⟨rfl, by rw [E1.out], by rw [E2.out]⟩)
        case measure => simp [intOf]
    · have cn := bN.cell 1
      simp only [List.getElem?_toArray, List.getElem?_cons_zero, List.getElem?_cons_succ] at cn
      cases hq : (nameL 1 == l) with
      | true =>
        have hq' : ([120, 51, 50] == l) = true := hq
        have e1 : wU l 2 = 1 := by simp only [wU, hq]; rfl
        have e2 : fU l 2 = true := by simp only [fU, hq]; rfl
        clear hq
        have E1 := Lib.hid e1
        have E2 := Lib.hid e2
        clear e1 e2
        go_wp2
        go_round
        case rel => exact .inr (.inr (.inl ⟨rfl, by rw [E1.out], by rw [E2.out]⟩))
        case measure => simp [intOf]
      | false =>
        have hq' : ([120, 51, 50] == l) = false := hq
        have e1 : wU l 2 = wU l 1 := by simp only [wU, hq]; rfl
        have e2 : fU l 2 = fU l 1 := by simp only [fU, hq]; rfl
        clear hq
        have E1 := Lib.hid e1
        have E2 := Lib.hid e2
        clear e1 e2
        go_wp2
        go_round
        case rel => exact .inr (.inr (.inl ⟨rfl, by rw [E1.out], by rw [E2.out]⟩))
        case measure => simp [intOf]
    · have cn := bN.cell 2
      simp only [List.getElem?_toArray, List.getElem?_cons_zero, List.getElem?_cons_succ] at cn
      cases hq : (nameL 2 == l) with
      | true =>
        have hq' : ([105, 51, 56, 54] == l) = true := hq
        have e1 : wU l 3 = 2 := by simp only [wU, hq]; rfl
        have e2 : fU l 3 = true := by simp only [fU, hq]; rfl
        clear hq
        have E1 := Lib.hid e1
        have E2 := Lib.hid e2
        clear e1 e2
        go_wp2
        go_round
        case rel => exact .inr (.inr (.inr (.inl ⟨rfl, by rw [E1.out], by rw [E2.out]⟩)))
        case measure => simp [intOf]
      | false =>
        have hq' : ([105, 51, 56, 54] == l) = false := hq
        have e1 : wU l 3 = wU l 2 := by simp only [wU, hq]; rfl
        have e2 : fU l 3 = fU l 2 := by simp only [fU, hq]; rfl
        clear hq
        have E1 := Lib.hid e1
        have E2 := Lib.hid e2
        clear e1 e2
        go_wp2
        go_round
        case rel => exact .inr (.inr (.inr (.inl ⟨rfl, by rw [E1.out], by rw [E2.out]⟩)))
        case measure => simp [intOf]
    · have cn := bN.cell 3
      simp only [List.getElem?_toArray, List.getElem?_cons_zero, List.getElem?_cons_succ] at cn
      cases hq : (nameL 3 == l) with
      | true =>
        have hq' : ([97, 114, 109, 54, 52] == l) = true := hq
        have e1 : wU l 4 = 3 := by simp only [wU, hq]; rfl
        have e2 : fU l 4 = true := by simp only [fU, hq]; rfl
        clear hq
        have E1 := Lib.hid e1
        have E2 := Lib.hid e2
        clear e1 e2
        go_wp2
        go_round
        case rel => exact .inr (.inr (.inr (.inr (.inl ⟨rfl, by rw [E1.out], by rw [E2.out]⟩))))
        case measure => simp [intOf]
      | false =>
        have hq' : ([97, 114, 109, 54, 52] == l) = false := hq
        have e1 : wU l 4 = wU l 3 := by simp only [wU, hq]; rfl
        have e2 : fU l 4 = fU l 3 := by simp only [fU, hq]; rfl
        clear hq
        have E1 := Lib.hid e1
        have E2 := Lib.hid e2
        clear e1 e2
        go_wp2
        go_round
        case rel => exact .inr (.inr (.inr (.inr (.inl ⟨rfl, by rw [E1.out], by rw [E2.out]⟩))))
        case measure => simp [intOf]
    · have cn := bN.cell 4
      simp only [List.getElem?_toArray, List.getElem?_cons_zero, List.getElem?_cons_succ] at cn
      cases hq : (nameL 4 == l) with
      | true =>
        have hq' : ([114, 105, 115, 99, 118, 54, 52] == l) = true := hq
        have e1 : wU l 5 = 4 := by simp only [wU, hq]; rfl
        have e2 : fU l 5 = true := by simp only [fU, hq]; rfl
        clear hq
        have E1 := Lib.hid e1
        have E2 := Lib.hid e2
        clear e1 e2
        go_wp2
        go_round
        case rel => exact .inr (.inr (.inr (.inr (.inr (⟨rfl, by rw [E1.out], by rw [E2.out]⟩)))))
        case measure => simp [intOf]
      | false =>
        have hq' : ([114, 105, 115, 99, 118, 54, 52] == l) = false := hq
        have e1 : wU l 5 = wU l 4 := by simp only [wU, hq]; rfl
        have e2 : fU l 5 = fU l 4 := by simp only [fU, hq]; rfl
        clear hq
        have E1 := Lib.hid e1
        have E2 := Lib.hid e2
        clear e1 e2
        go_wp2
        go_round
        case rel => exact .inr (.inr (.inr (.inr (.inr (⟨rfl, by rw [E1.out], by rw [E2.out]⟩)))))
        case measure => simp [intOf]
    · generalize wU l 5 = q
      have hfd := Hfd.out
      rw [hfd]
      have i0 := bI.cell 0
      have i1 := bI.cell 1
      have i2 := bI.cell 2
      have i3 := bI.cell 3
      have n0 := bN.cell 0
      have n1 := bN.cell 1
      have n2 := bN.cell 2
      have n3 := bN.cell 3
      have n4 := bN.cell 4
      simp only [List.getElem?_toArray, List.getElem?_cons_zero, List.getElem?_cons_succ] at i0 i1 i2 i3 n0 n1 n2 n3 n4
      clear hfd
      go_wp2_with fail
      go_region_held3 (fun w' => w'.cell? ⟨w1.heap.size, 0, none⟩ = some (.string ⟨#[114, 105, 115, 99, 118, 54, 52]⟩) ∧ w'.cell? ⟨w1.heap.size, 1, none⟩ = some (.int .u32 3221225715) ∧ w'.cell? ⟨w1.heap.size, 2, none⟩ = some (.bool false) ∧ w'.cell? ⟨w1.heap.size, 3, none⟩ = some (.int .i64 64) ∧ w'.cell? ⟨w2.heap.size, 4, none⟩ = some (.string ⟨#[114, 105, 115, 99, 118, 54, 52]⟩)) (first | go_keep | exact ⟨cell_later hb4 (by assumption), cell_later hb4 (by assumption), cell_later hb4 (by assumption), cell_later hb4 (by assumption), cell_later hb4 (by assumption)⟩ | (go_split_ands; exact ⟨cell_later hb5 (by assumption), cell_later hb5 (by assumption), cell_later hb5 (by assumption), cell_later hb5 (by assumption), cell_later hb5 (by assumption)⟩)) (first | (go_at_call 20; refine (token_4 _).mono ?_; rintro e w4 ⟨rfl, hb4⟩) | (go_at_call 13; refine (awake08_any _).mono ?_; rintro e w5 ⟨rfl, hb5⟩))
      go_wp2
      go_ret
      have s4 := hb4.size
      exact ⟨rfl, (hB.drew.trans (hb4.mono hB.size)).trans (hb5.mono (Nat.le_trans hB.size s4))⟩

theorem walk (a : Int) (l : List UInt8) (w : World) :
    Calls Try.prog 7 #[.int .i64 a, .string ⟨l.toArray⟩] w fun e w' => e = .returned (.bool true) ∧ Below w.heap.size w w' := by
  by_cases hl : 50 < l.length
  · exact long a l hl w
  have hl' : l.length ≤ 50 := by omega
  by_cases h1 : a < 0
  · cases hf : fU l 5
    · exact lo_false a h1 l hl' hf w
    · exact lo_true a h1 l hl' hf w
  by_cases h2 : 4 < a
  · cases hf : fU l 5
    · exact hi_false a h2 l hl' hf w
    · exact hi_true a h2 l hl' hf w
  rcases (by omega : a = 0 ∨ a = 1 ∨ a = 2 ∨ a = 3 ∨ a = 4) with rfl | rfl | rfl | rfl | rfl
  · cases hf : fU l 5
    · exact in0_false l hl' hf w
    · exact in0_true l hl' hf w
  · cases hf : fU l 5
    · exact in1_false l hl' hf w
    · exact in1_true l hl' hf w
  · cases hf : fU l 5
    · exact in2_false l hl' hf w
    · exact in2_true l hl' hf w
  · cases hf : fU l 5
    · exact in3_false l hl' hf w
    · exact in3_true l hl' hf w
  · cases hf : fU l 5
    · exact in4_false l hl' hf w
    · exact in4_true l hl' hf w
end Go.Proofs.Ytddlapcgfhbjdaa.lawAbiRows
