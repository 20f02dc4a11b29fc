/- strainerlaw09.ActCodes: the walk. -/
import Derived.Test.YtkgmbogmeppmcaaDoorActTxt
import Derived.Deep.DeepCutAuto
namespace Go.Proofs.YtkgmbogmeppmcaaDoor
open Go Go.Proofs Go.RowKit

set_option maxHeartbeats 1000000 in
theorem of09_any (k n : Int) (w : World) : Calls Tryd.prog 12 #[.agg #[.int .i64 k, .int .i64 n]] w fun e w' => e = .returned (.agg #[.int .i64 k, .int .i64 n]) ∧ Below w.heap.size w w' := by
  have hA := (Blk.new w 23 #[.int .i64 k, .int .i64 n]).alloc (.cells #[.int .i64 0, .int .i64 0] 25)
  have hZ := Blk.new (w.alloc (.cells #[.int .i64 k, .int .i64 n] 23)) 25 #[.int .i64 0, .int .i64 0]
  simp only [World.size_alloc] at hZ
  have a0 := hA.cell 0
  have a1 := hA.cell 1
  have z0 := hZ.frozen 0
  have z1 := hZ.frozen 1
  have y0 := hZ.cell 0
  have y1 := hZ.cell 1
  simp only [List.getElem?_toArray, List.getElem?_cons_zero, List.getElem?_cons_succ] at a0 a1 y0 y1
  clear hA hZ
  go_enter Tryd.func12, Tryd.ntmps12
  go_wp2
  refine bodyPost_ret (v := .agg #[.int .i64 k, .int .i64 n]) (by simp [results, Tryd.results12, go_sem]) rfl ⟨rfl, ?_⟩
  exact ((Below.refl w.heap.size w).alloc (Nat.le_refl _) _).alloc (by simp) _

theorem keep4 {a W wx : World} {p q r s : Addr} {u v x y : Value} (h : W.cell? p = some u ∧ W.cell? q = some v ∧ W.cell? r = some x ∧ W.cell? s = some y ∧ Below a.heap.size a W) (hb : Below W.heap.size W wx) :
    wx.cell? p = some u ∧ wx.cell? q = some v ∧ wx.cell? r = some x ∧ wx.cell? s = some y ∧ Below a.heap.size a wx :=
  ⟨(hb.cell (World.block_lt_of_cell? _ _ h.1)).trans h.1, (hb.cell (World.block_lt_of_cell? _ _ h.2.1)).trans h.2.1, (hb.cell (World.block_lt_of_cell? _ _ h.2.2.1)).trans h.2.2.1, (hb.cell (World.block_lt_of_cell? _ _ h.2.2.2.1)).trans h.2.2.2.1, h.2.2.2.2.trans (hb.mono h.2.2.2.2.size)⟩

set_option maxRecDepth 100000 in
set_option maxHeartbeats 1000000 in
theorem codes_any (k n c : Int) (hc0 : 0 ≤ c) (hc1 : c < 4294967296) (w : World) (hp : Pow10 w) :
    Calls Tryd.prog 3 #[.agg #[.int .i64 k, .int .i64 n], .int .u32 c] w fun e w' => e = .returned (.bool true) ∧ Below w.heap.size w w' := by
  have hA := Blk.new w 23 #[.int .i64 k, .int .i64 n]
  have a0 := hA.cell 0
  have a1 := hA.cell 1
  simp only [List.getElem?_toArray, List.getElem?_cons_zero, List.getElem?_cons_succ] at a0 a1
  have HA := Lib.hid hA
  have HB := Lib.hid ((Below.refl w.heap.size w).alloc (Nat.le_refl _) (.cells #[.int .i64 k, .int .i64 n] 23))
  have HP := Lib.hid hp
  have hcode : ∃ cv ev : Int, (∀ W, Calls Tryd.prog 13 #[.agg #[.int .i64 k, .int .i64 n]] W fun e w' => e = .returned (.tuple #[.int .u32 cv, .int .i64 ev]) ∧ Below W.heap.size W w') ∧ (actRight k n = true → cv = actCode k + n ∧ ev = 0) ∧ (actRight k n = false → cv = 0 ∧ ev = 16) := by
    cases hr : actRight k n with
    | true => exact ⟨_, _, fun W => code_right k n hr W, fun _ => ⟨rfl, rfl⟩, (fun h => by cases h)⟩
    | false => exact ⟨_, _, fun W => code_wrong k n hr W, (fun h => by cases h), fun _ => ⟨rfl, rfl⟩⟩
  obtain ⟨cv, ev, hcode, hct, hcf⟩ := hcode
  have Hcode := Lib.hid hcode
  have HCT := Lib.hid hct
  have HCF := Lib.hid hcf
  clear hA hp hcode hct hcf
  go_enter Tryd.func3, Tryd.ntmps3
  go_wp2_with fail
  refine (of09_any k n _).mono ?_
  rintro e w1 ⟨rfl, hb1⟩
  clear a0 a1
  have HA1 := Lib.hid ((HA.out.below hb1 HA.out.lt).alloc (.cells #[.int .i64 k, .int .i64 n] 25))
  have HX1 := Lib.hid (Blk.new w1 25 #[.int .i64 k, .int .i64 n])
  have HB1 := Lib.hid ((HB.out.trans (hb1.mono HB.out.size)).alloc (Nat.le_trans HB.out.size hb1.size) (.cells #[.int .i64 k, .int .i64 n] 25))
  clear hb1 HA HB
  go_upto_region 2 with fail
  generalize w1.alloc (.cells #[.int .i64 k, .int .i64 n] 25) = W1 at *
  generalize w1.heap.size = B5 at *
  have x0 := HX1.out.cell 0
  have x1 := HX1.out.cell 1
  simp only [List.getElem?_toArray, List.getElem?_cons_zero, List.getElem?_cons_succ] at x0 x1
  go_wp2_with fail
  refine (Hcode.out _).mono ?_
  rintro e w2 ⟨rfl, hb2⟩
  have HA2 := blkB HA1 hb2
  have HX2 := blkB HX1 hb2
  have HB2 := belB HB1 hb2
  clear x0 x1 hb2 HA1 HX1 HB1 Hcode
  have Hfrom := Lib.hid (fun W => from_any c hc0 hc1 W)
  unfold fromV at Hfrom
  generalize hK : fromK c = K at *
  generalize hN : fromN c = N at *
  obtain ⟨ev8, he8⟩ : ∃ v : Int, (if K = 0 then (5 : Int) else 0) = v := ⟨_, rfl⟩
  rw [he8] at Hfrom
  have HE8 := Lib.hid he8
  have HKN := Lib.hid (And.intro hK hN)
  clear he8 hK hN
  go_wp2_with fail
  refine (Hfrom.out _).mono ?_
  rintro e w3 ⟨rfl, hb3⟩
  have HA3 := Lib.hid ((blkB HA2 hb3).out.alloc (.cells #[.int .i64 K, .int .i64 N] 25))
  have HX3 := Lib.hid ((blkB HX2 hb3).out.alloc (.cells #[.int .i64 K, .int .i64 N] 25))
  have H83 := Lib.hid (Blk.new w3 25 #[.int .i64 K, .int .i64 N])
  have HB3 := Lib.hid ((belB HB2 hb3).out.alloc (belB HB2 hb3).out.size (.cells #[.int .i64 K, .int .i64 N] 25))
  clear hb3 HA2 HX2 HB2 Hfrom
  go_upto_region 4 with fail
  generalize w3.alloc (.cells #[.int .i64 K, .int .i64 N] 25) = W3 at *
  generalize w3.heap.size = B8 at *
  have Hrf := Lib.hid (fun W => refFrom_any c hc0 hc1 W)
  rw [HKN.out.1, HKN.out.2] at Hrf
  have hcw : IntKind.i64.wrap c = c := IntWalk.i64_in _ (by omega)
  go_wp2_with fail
  refine (Hrf.out _).mono ?_
  rintro e w4 ⟨rfl, hb4⟩
  have HA4 := Lib.hid ((blkB HA3 hb4).out.alloc (.cells #[.int .i64 K, .int .i64 N] 23))
  have HX4 := Lib.hid ((blkB HX3 hb4).out.alloc (.cells #[.int .i64 K, .int .i64 N] 23))
  have H84 := Lib.hid ((blkB H83 hb4).out.alloc (.cells #[.int .i64 K, .int .i64 N] 23))
  have H104 := Lib.hid (Blk.new w4 23 #[.int .i64 K, .int .i64 N])
  have HB4 := Lib.hid ((belB HB3 hb4).out.alloc (belB HB3 hb4).out.size (.cells #[.int .i64 K, .int .i64 N] 23))
  clear hb4 HA3 HX3 HB3 H83 Hrf
  go_upto_region 5 with fail
  generalize w4.alloc (.cells #[.int .i64 K, .int .i64 N] 23) = W4 at *
  generalize w4.heap.size = B10 at *
  have x0 := H84.out.cell 0
  have x1 := H84.out.cell 1
  have y0 := H104.out.cell 0
  have y1 := H104.out.cell 1
  simp only [List.getElem?_toArray, List.getElem?_cons_zero, List.getElem?_cons_succ] at x0 x1 y0 y1
  go_cut [46] (fun s46 wx => s46 = .bool false ∧ Hid (Below W4.heap.size W4 wx))
  case first =>
    by_cases hK0 : K = 0
    · subst hK0
      obtain rfl : ev8 = 5 := HE8.out.symm
      go_region_held3 (fun w' => w'.cell? ⟨B8, 0, none⟩ = some (.int .i64 0) ∧ w'.cell? ⟨B8, 1, none⟩ = some (.int .i64 N) ∧ w'.cell? ⟨B10, 0, none⟩ = some (.int .i64 0) ∧ w'.cell? ⟨B10, 1, none⟩ = some (.int .i64 N) ∧ Below W4.heap.size W4 w') (first | exact ⟨x0, x1, y0, y1, (Below.refl _ W4).drew⟩ | exact keep4 (by assumption) hbx | go_keep) (first | (go_at_call 12; refine (of09_any _ _ _).mono ?_; rintro e wx ⟨rfl, hbx⟩))
      have hfin : Below W4.heap.size W4 wx := (show wx.cell? ⟨B8, 0, none⟩ = some (.int .i64 0) ∧ wx.cell? ⟨B8, 1, none⟩ = some (.int .i64 N) ∧ wx.cell? ⟨B10, 0, none⟩ = some (.int .i64 0) ∧ wx.cell? ⟨B10, 1, none⟩ = some (.int .i64 N) ∧ Below W4.heap.size W4 wx by assumption).2.2.2.2
      go_wp2_with fail
      go_meet
      exact ⟨rfl, hfin⟩
    · have hk1 : (K == 0) = false := by simpa using hK0
      have hk2 : (K != 0) = true := by simpa using hK0
      obtain rfl : ev8 = 0 := by rw [← HE8.out, if_neg hK0]
      clear hK0
      refine wp_region_noPanic ?_
      refine wp_region_held_drew (S := fun w' => w'.cell? ⟨B8, 0, none⟩ = some (.int .i64 K) ∧ w'.cell? ⟨B8, 1, none⟩ = some (.int .i64 N) ∧ w'.cell? ⟨B10, 0, none⟩ = some (.int .i64 K) ∧ w'.cell? ⟨B10, 1, none⟩ = some (.int .i64 N) ∧ Below W4.heap.size W4 w') (by kernel_rfl) (by first | exact ⟨x0, x1, y0, y1, (Below.refl _ W4).drew⟩ | go_keep) (fun hHeld => ?_)
      refine wpAnyH_take (i := 0) (oi := { dst := some 26, op := Op.load 25 (Operand.tmp 8), type := 25, pos := "law.go:25", after := #[], guard := none }) (v := ?v0) rfl (by kernel_rfl) (by kernel_rfl) (by kernel_rfl) (fun _ _ _ h => h) (Or.inl ⟨by rfl, ?hy0⟩) (by assumption) ?rest0
      case hy0 =>
        intro w hSw
        try dsimp only at hSw
        try obtain ⟨hSw, hSw2⟩ := hSw
        try go_split_ands
        go_simp
        try with_reducible rfl
      try simp only [Act.put, List.setIfInBounds_toArray, List.set_cons_zero, List.set_cons_succ]
      refine wpAnyH_take (i := 1) (oi := { dst := some 27, op := Op.load 23 (Operand.tmp 10), type := 23, pos := "law.go:25", after := #[], guard := none }) (v := ?v1) rfl (by kernel_rfl) (by kernel_rfl) (by kernel_rfl) (fun _ _ _ h => h) (Or.inl ⟨by rfl, ?hy1⟩) (by assumption) ?rest1
      case hy1 =>
        intro w hSw
        try dsimp only at hSw
        try obtain ⟨hSw, hSw2⟩ := hSw
        try go_split_ands
        go_simp
        try with_reducible rfl
      try simp only [Act.put, List.setIfInBounds_toArray, List.set_cons_zero, List.set_cons_succ]
      refine wpAnyH_ready (rs := [2]) (by kernel_rfl) (by simp) ?_
      refine AllReadyH.cons (o := { dst := some 28, op := Op.call { callee := Callee.value (Operand.func 12), args := #[Operand.tmp 27], argTypes := #[23] }, type := 25, pos := "law.go:25", after := #[{ on := 1, ground := Ground.data }], guard := none }) rfl (fun K' hK => ?_) AllReadyH.nil
      go_simp
      refine (of09_any _ _ _).mono ?_
      rintro e wx ⟨rfl, hbx⟩
      refine hK.out _ _ (keep4 hHeld hbx) (fun hHeld => ?_)
      clear hK K'
      try simp only [Act.put, List.setIfInBounds_toArray, List.set_cons_zero, List.set_cons_succ]
      refine wpAnyH_take (i := 3) (oi := { dst := some 29, op := Op.binOp BinOp.neq 25 (Operand.tmp 26) (Operand.tmp 28) 25, type := 4, pos := "law.go:25", after := #[{ on := 0, ground := Ground.data }, { on := 2, ground := Ground.data }], guard := none }) (v := ?v3) rfl (by kernel_rfl) (by kernel_rfl) (by kernel_rfl) (fun _ _ _ h => h) (Or.inl ⟨by rfl, ?hy3⟩) (by assumption) ?rest3
      case hy3 =>
        intro w hSw
        try dsimp only at hSw
        try obtain ⟨hSw, hSw2⟩ := hSw
        try go_split_ands
        go_simp
        try with_reducible rfl
      try simp only [Act.put, List.setIfInBounds_toArray, List.set_cons_zero, List.set_cons_succ]
      refine wpAnyH_take (i := 4) (oi := { dst := some 30, op := Op.move (Operand.tmp 29), type := 4, pos := "law.go:25", after := #[{ on := 3, ground := Ground.data }, { on := 2, ground := Ground.chain }], guard := none }) (v := ?v4) rfl (by kernel_rfl) (by kernel_rfl) (by kernel_rfl) (fun _ _ _ h => h) (Or.inl ⟨by rfl, ?hy4⟩) (by assumption) ?rest4
      case hy4 =>
        intro w hSw
        try dsimp only at hSw
        try obtain ⟨hSw, hSw2⟩ := hSw
        try go_split_ands
        go_simp
        try with_reducible rfl
      try simp only [Act.put, List.setIfInBounds_toArray, List.set_cons_zero, List.set_cons_succ]
      refine wpAnyH_take (i := 5) (oi := { dst := some 31, op := Op.move (Operand.tmp 9), type := 27, pos := "law.go:25", after := #[{ on := 4, ground := Ground.guard }], guard := some (4, false) }) (v := ?v5) rfl (by kernel_rfl) (by kernel_rfl) (by kernel_rfl) (fun _ _ _ h => h) (Or.inl ⟨by rfl, ?hy5⟩) (by assumption) ?rest5
      case hy5 =>
        intro w hSw
        try dsimp only at hSw
        try obtain ⟨hSw, hSw2⟩ := hSw
        try go_split_ands
        go_simp
        try with_reducible rfl
      try simp only [Act.put, List.setIfInBounds_toArray, List.set_cons_zero, List.set_cons_succ]
      refine wpAnyH_take (i := 6) (oi := { dst := some 32, op := Op.binOp BinOp.eql 27 (Operand.tmp 31) (Operand.const (Value.int IntKind.i64 0)) 27, type := 4, pos := "law.go:25", after := #[{ on := 5, ground := Ground.data }, { on := 4, ground := Ground.guard }], guard := some (4, false) }) (v := ?v6) rfl (by kernel_rfl) (by kernel_rfl) (by kernel_rfl) (fun _ _ _ h => h) (Or.inl ⟨by rfl, ?hy6⟩) (by assumption) ?rest6
      case hy6 =>
        intro w hSw
        try dsimp only at hSw
        try obtain ⟨hSw, hSw2⟩ := hSw
        try go_split_ands
        go_simp
        try with_reducible rfl
      try simp only [Act.put, List.setIfInBounds_toArray, List.set_cons_zero, List.set_cons_succ]
      refine wpAnyH_take (i := 7) (oi := { dst := some 33, op := Op.fieldAddr 23 (Operand.tmp 10) 0, type := 0, pos := "law.go:25", after := #[{ on := 4, ground := Ground.guard }], guard := some (4, false) }) (v := ?v7) rfl (by kernel_rfl) (by kernel_rfl) (by kernel_rfl) (fun _ _ _ h => h) (Or.inl ⟨by rfl, ?hy7⟩) (by assumption) ?rest7
      case hy7 =>
        intro w hSw
        try dsimp only at hSw
        try obtain ⟨hSw, hSw2⟩ := hSw
        try go_split_ands
        go_simp
        try with_reducible rfl
      try simp only [Act.put, List.setIfInBounds_toArray, List.set_cons_zero, List.set_cons_succ]
      refine wpAnyH_take (i := 8) (oi := { dst := some 34, op := Op.load 3 (Operand.tmp 33), type := 3, pos := "law.go:25", after := #[{ on := 7, ground := Ground.data }, { on := 4, ground := Ground.guard }], guard := some (4, false) }) (v := ?v8) rfl (by kernel_rfl) (by kernel_rfl) (by kernel_rfl) (fun _ _ _ h => h) (Or.inl ⟨by rfl, ?hy8⟩) (by assumption) ?rest8
      case hy8 =>
        intro w hSw
        try dsimp only at hSw
        try obtain ⟨hSw, hSw2⟩ := hSw
        try go_split_ands
        go_simp
        try with_reducible rfl
      try simp only [Act.put, List.setIfInBounds_toArray, List.set_cons_zero, List.set_cons_succ]
      refine wpAnyH_take (i := 9) (oi := { dst := some 35, op := Op.binOp BinOp.neq 3 (Operand.tmp 34) (Operand.const (Value.int IntKind.i64 0)) 3, type := 4, pos := "law.go:25", after := #[{ on := 8, ground := Ground.data }, { on := 4, ground := Ground.guard }], guard := some (4, false) }) (v := ?v9) rfl (by kernel_rfl) (by kernel_rfl) (by kernel_rfl) (fun _ _ _ h => h) (Or.inl ⟨by rfl, ?hy9⟩) (by assumption) ?rest9
      case hy9 =>
        intro w hSw
        try dsimp only at hSw
        try obtain ⟨hSw, hSw2⟩ := hSw
        try go_split_ands
        go_simp
        try with_reducible rfl
      try simp only [Act.put, List.setIfInBounds_toArray, List.set_cons_zero, List.set_cons_succ]
      refine wpAnyH_take (i := 10) (oi := { dst := some 36, op := Op.binOp BinOp.neq 4 (Operand.tmp 32) (Operand.tmp 35) 4, type := 4, pos := "law.go:25", after := #[{ on := 6, ground := Ground.data }, { on := 9, ground := Ground.data }, { on := 4, ground := Ground.guard }], guard := some (4, false) }) (v := ?v10) rfl (by kernel_rfl) (by kernel_rfl) (by kernel_rfl) (fun _ _ _ h => h) (Or.inl ⟨by rfl, ?hy10⟩) (by assumption) ?rest10
      case hy10 =>
        intro w hSw
        try dsimp only at hSw
        try obtain ⟨hSw, hSw2⟩ := hSw
        try go_split_ands
        go_simp
        try with_reducible rfl
      try simp only [Act.put, List.setIfInBounds_toArray, List.set_cons_zero, List.set_cons_succ]
      refine wpAnyH_take (i := 11) (oi := { dst := some 37, op := Op.pick (Operand.tmp 30) (Operand.const (Value.bool true)) (Operand.tmp 36), type := 4, pos := "law.go:25", after := #[{ on := 4, ground := Ground.data }, { on := 10, ground := Ground.data }], guard := none }) (v := ?v11) rfl (by kernel_rfl) (by kernel_rfl) (by kernel_rfl) (fun _ _ _ h => h) (Or.inl ⟨by rfl, ?hy11⟩) (by assumption) ?rest11
      case hy11 =>
        intro w hSw
        try dsimp only at hSw
        try obtain ⟨hSw, hSw2⟩ := hSw
        try go_split_ands
        go_simp
        try with_reducible rfl
      try simp only [Act.put, List.setIfInBounds_toArray, List.set_cons_zero, List.set_cons_succ]
      refine wpAnyH_take (i := 12) (oi := { dst := some 38, op := Op.move (Operand.tmp 37), type := 4, pos := "law.go:25", after := #[{ on := 11, ground := Ground.data }, { on := 4, ground := Ground.chain }], guard := none }) (v := ?v12) rfl (by kernel_rfl) (by kernel_rfl) (by kernel_rfl) (fun _ _ _ h => h) (Or.inl ⟨by rfl, ?hy12⟩) (by assumption) ?rest12
      case hy12 =>
        intro w hSw
        try dsimp only at hSw
        try obtain ⟨hSw, hSw2⟩ := hSw
        try go_split_ands
        go_simp
        try with_reducible rfl
      try simp only [Act.put, List.setIfInBounds_toArray, List.set_cons_zero, List.set_cons_succ]
      refine wpAnyH_take (i := 13) (oi := { dst := some 39, op := Op.fieldAddr 23 (Operand.tmp 10) 0, type := 0, pos := "law.go:25", after := #[{ on := 12, ground := Ground.guard }], guard := some (12, false) }) (v := ?v13) rfl (by kernel_rfl) (by kernel_rfl) (by kernel_rfl) (fun _ _ _ h => h) (Or.inl ⟨by rfl, ?hy13⟩) (by assumption) ?rest13
      case hy13 =>
        intro w hSw
        try dsimp only at hSw
        try obtain ⟨hSw, hSw2⟩ := hSw
        try go_split_ands
        go_simp
        try with_reducible rfl
      try simp only [Act.put, List.setIfInBounds_toArray, List.set_cons_zero, List.set_cons_succ]
      refine wpAnyH_take (i := 14) (oi := { dst := some 40, op := Op.load 3 (Operand.tmp 39), type := 3, pos := "law.go:25", after := #[{ on := 13, ground := Ground.data }, { on := 12, ground := Ground.guard }], guard := some (12, false) }) (v := ?v14) rfl (by kernel_rfl) (by kernel_rfl) (by kernel_rfl) (fun _ _ _ h => h) (Or.inl ⟨by rfl, ?hy14⟩) (by assumption) ?rest14
      case hy14 =>
        intro w hSw
        try dsimp only at hSw
        try obtain ⟨hSw, hSw2⟩ := hSw
        try go_split_ands
        go_simp
        try with_reducible rfl
      try simp only [Act.put, List.setIfInBounds_toArray, List.set_cons_zero, List.set_cons_succ]
      refine wpAnyH_take (i := 15) (oi := { dst := some 41, op := Op.binOp BinOp.eql 3 (Operand.tmp 40) (Operand.const (Value.int IntKind.i64 0)) 3, type := 4, pos := "law.go:25", after := #[{ on := 14, ground := Ground.data }, { on := 12, ground := Ground.guard }], guard := some (12, false) }) (v := ?v15) rfl (by kernel_rfl) (by kernel_rfl) (by kernel_rfl) (fun _ _ _ h => h) (Or.inl ⟨by rfl, ?hy15⟩) (by assumption) ?rest15
      case hy15 =>
        intro w hSw
        try dsimp only at hSw
        try obtain ⟨hSw, hSw2⟩ := hSw
        try go_split_ands
        go_simp
        try with_reducible rfl
      try simp only [Act.put, List.setIfInBounds_toArray, List.set_cons_zero, List.set_cons_succ]
      refine wpAnyH_take (i := 16) (oi := { dst := some 42, op := Op.move (Operand.tmp 41), type := 4, pos := "law.go:25", after := #[{ on := 15, ground := Ground.data }, { on := 12, ground := Ground.chain }, { on := 12, ground := Ground.guard }], guard := some (12, false) }) (v := ?v16) rfl (by kernel_rfl) (by kernel_rfl) (by kernel_rfl) (fun _ _ _ h => h) (Or.inl ⟨by rfl, ?hy16⟩) (by assumption) ?rest16
      case hy16 =>
        intro w hSw
        try dsimp only at hSw
        try obtain ⟨hSw, hSw2⟩ := hSw
        try go_split_ands
        go_simp
        try with_reducible rfl
      try simp only [Act.put, List.setIfInBounds_toArray, List.set_cons_zero, List.set_cons_succ]
      refine wpAnyH_take (i := 17) (oi := { dst := some 43, op := Op.move (Operand.tmp 9), type := 27, pos := "law.go:25", after := #[{ on := 16, ground := Ground.guard }], guard := some (16, true) }) (v := undef) rfl (by kernel_rfl) (by kernel_rfl) (by kernel_rfl) (fun _ _ _ h => h) (Or.inr ⟨by rfl, rfl⟩) (by assumption) ?rest17
      try simp only [Act.put, List.setIfInBounds_toArray, List.set_cons_zero, List.set_cons_succ]
      refine wpAnyH_take (i := 18) (oi := { dst := some 44, op := Op.binOp BinOp.neq 27 (Operand.tmp 43) (Operand.const (Value.int IntKind.i64 5)) 27, type := 4, pos := "law.go:25", after := #[{ on := 17, ground := Ground.data }, { on := 16, ground := Ground.guard }], guard := some (16, true) }) (v := undef) rfl (by kernel_rfl) (by kernel_rfl) (by kernel_rfl) (fun _ _ _ h => h) (Or.inr ⟨by rfl, rfl⟩) (by assumption) ?rest18
      try simp only [Act.put, List.setIfInBounds_toArray, List.set_cons_zero, List.set_cons_succ]
      refine wpAnyH_take (i := 19) (oi := { dst := some 45, op := Op.pick (Operand.tmp 42) (Operand.tmp 44) (Operand.const (Value.bool false)), type := 4, pos := "law.go:25", after := #[{ on := 16, ground := Ground.data }, { on := 18, ground := Ground.data }, { on := 12, ground := Ground.guard }], guard := some (12, false) }) (v := ?v19) rfl (by kernel_rfl) (by kernel_rfl) (by kernel_rfl) (fun _ _ _ h => h) (Or.inl ⟨by rfl, ?hy19⟩) (by assumption) ?rest19
      case hy19 =>
        intro w hSw
        try dsimp only at hSw
        try obtain ⟨hSw, hSw2⟩ := hSw
        try go_split_ands
        go_simp
        try with_reducible rfl
      try simp only [Act.put, List.setIfInBounds_toArray, List.set_cons_zero, List.set_cons_succ]
      refine wpAnyH_take (i := 20) (oi := { dst := some 46, op := Op.pick (Operand.tmp 38) (Operand.const (Value.bool true)) (Operand.tmp 45), type := 4, pos := "law.go:25", after := #[{ on := 12, ground := Ground.data }, { on := 19, ground := Ground.data }], guard := none }) (v := ?v20) rfl (by kernel_rfl) (by kernel_rfl) (by kernel_rfl) (fun _ _ _ h => h) (Or.inl ⟨by rfl, ?hy20⟩) (by assumption) ?rest20
      case hy20 =>
        intro w hSw
        try dsimp only at hSw
        try obtain ⟨hSw, hSw2⟩ := hSw
        try go_split_ands
        go_simp
        try with_reducible rfl
      try simp only [Act.put, List.setIfInBounds_toArray, List.set_cons_zero, List.set_cons_succ]
      refine wpAnyH_done (by kernel_rfl) ?_ _
      refine NoPanic.normal ?_
      have hfin : Below W4.heap.size W4 wx := hHeld.2.2.2.2
      go_wp2_with fail
      go_meet
      exact ⟨rfl, hfin⟩
  case rest =>
    obtain ⟨rfl, hw⟩ := hcut
    have HA6 := blkB HA4 hw.out
    have HX6 := blkB HX4 hw.out
    have HB6 := belB HB4 hw.out
    have HP6 := Lib.hid (HP.out.below HB6.out)
    clear HA4 HX4 HB4 HP H84 H104 x0 x1 y0 y1 HE8 HKN hw hcw
    have a0 := HA6.out.cell 0
    have a1 := HA6.out.cell 1
    simp only [List.getElem?_toArray, List.getElem?_cons_zero, List.getElem?_cons_succ] at a0 a1
    have Hrr := Lib.hid (fun W => refRight_any k n W)
    have HrX := Lib.hid (fun W => right_any k n W)
    cases hr : actRight k n with
    | false =>
      rw [hr] at Hrr HrX
      obtain ⟨rfl, rfl⟩ := HCF.out hr
      have Htx := Lib.hid (fun W => text_wrong k n hr W)
      have Hr := Lib.hid hr
      clear hr HCT HCF
      go_wp2_with fail
      refine (Hrr.out _).mono ?_
      rintro e w7 ⟨rfl, hb7⟩
      have HX7 := blkB HX6 hb7
      have HB7 := belB HB6 hb7
      have x0 := HX7.out.cell 0
      have x1 := HX7.out.cell 1
      simp only [List.getElem?_toArray, List.getElem?_cons_zero, List.getElem?_cons_succ] at x0 x1
      clear a0 a1 hb7 HX6 HB6 HA6
      go_wp2_with fail
      refine (HrX.out _).mono ?_
      rintro e w8 ⟨rfl, hb8⟩
      have HX8 := blkB HX7 hb8
      have HB8 := belB HB7 hb8
      have x0' := HX8.out.cell 0
      have x1' := HX8.out.cell 1
      simp only [List.getElem?_toArray, List.getElem?_cons_zero, List.getElem?_cons_succ] at x0' x1'
      clear x0 x1 hb8 HX7 HB7
      go_wp2_with fail
      refine (Htx.out _).mono ?_
      rintro e w9 ⟨rfl, hb9⟩
      have HB9 := belB HB8 hb9
      clear hb9 HB8 x0' x1'
      go_wp2_with (go_at_call 19; refine (awake09_any _).mono ?_; rintro e wa ⟨rfl, hba⟩)
      go_ret
      exact ⟨rfl, HB9.out.trans (hba.mono HB9.out.size)⟩
    | true =>
      rw [hr] at Hrr HrX
      obtain ⟨rfl, rfl⟩ := HCT.out hr
      obtain ⟨q0, q1, n0, n1, k1, k8, d0, d1⟩ := code_bounds k n hr
      obtain ⟨m, rfl⟩ : ∃ m : Nat, n = (m : Int) := ⟨n.toNat, by omega⟩
      have Htx := Lib.hid (fun W hW => text_right k m hr W hW)
      have Hrt := Lib.hid (fun W => refText_any k m k1 k8 (by omega) W)
      have Hrc := Lib.hid (fun W => refCode_any k (m : Int) (by omega) k8 n0 (by omega) W)
      have hcv : IntKind.i64.wrap (actCode k + (m : Int)) = actCode k + (m : Int) := IntWalk.i64_in _ (by omega)
      generalize actCode k + (m : Int) = cv at *
      have Hr := Lib.hid hr
      clear hr HCT HCF
      go_wp2_with fail
      refine (Hrr.out _).mono ?_
      rintro e w7 ⟨rfl, hb7⟩
      have HX7 := blkB HX6 hb7
      have HA7 := blkB HA6 hb7
      have HB7 := belB HB6 hb7
      have HP7 := Lib.hid (HP6.out.below hb7)
      have a0' := HA7.out.cell 0
      have a1' := HA7.out.cell 1
      have x0 := HX7.out.cell 0
      have x1 := HX7.out.cell 1
      simp only [List.getElem?_toArray, List.getElem?_cons_zero, List.getElem?_cons_succ] at x0 x1 a0' a1'
      have MkP : Hid (∀ W, (W.cell? ⟨B5, 0, none⟩ = some (.int .i64 k) ∧ W.cell? ⟨B5, 1, none⟩ = some (.int .i64 (m : Int)) ∧ W.cell? ⟨w.heap.size, 0, none⟩ = some (.int .i64 k) ∧ W.cell? ⟨w.heap.size, 1, none⟩ = some (.int .i64 (m : Int)) ∧ Below w7.heap.size w7 W) → Pow10 W) := fun W h => HP7.out.below h.2.2.2.2
      clear a0 a1 hb7 HX6 HB6 HA6 HP6 HP7
      go_upto_region 9 with fail
      go_region_held3 (fun w' => w'.cell? ⟨B5, 0, none⟩ = some (.int .i64 k) ∧ w'.cell? ⟨B5, 1, none⟩ = some (.int .i64 (m : Int)) ∧ w'.cell? ⟨w.heap.size, 0, none⟩ = some (.int .i64 k) ∧ w'.cell? ⟨w.heap.size, 1, none⟩ = some (.int .i64 (m : Int)) ∧ Below w7.heap.size w7 w') (first | exact ⟨x0, x1, a0', a1', (Below.refl _ w7).drew⟩ | exact keep4 (by assumption) hbx | go_keep) (first | (go_at_call 17; refine (HrX.out _).mono ?_; rintro e wx ⟨rfl, hbx⟩) | (go_at_call 20; refine (Hrc.out _).mono ?_; rintro e wx ⟨rfl, hbx⟩) | (go_at_call 18; refine (Htx.out _ (MkP.out _ (by assumption))).mono ?_; rintro e wx ⟨rfl, hbx⟩) | (go_at_call 21; refine (Hrt.out _).mono ?_; rintro e wx ⟨rfl, hbx⟩) | (go_at_call 19; refine (awake09_any _).mono ?_; rintro e wx ⟨rfl, hbx⟩))
      all_goals
        have hfin : Below w7.heap.size w7 wx := (show wx.cell? ⟨B5, 0, none⟩ = some (.int .i64 k) ∧ wx.cell? ⟨B5, 1, none⟩ = some (.int .i64 (m : Int)) ∧ wx.cell? ⟨w.heap.size, 0, none⟩ = some (.int .i64 k) ∧ wx.cell? ⟨w.heap.size, 1, none⟩ = some (.int .i64 (m : Int)) ∧ Below w7.heap.size w7 wx by assumption).2.2.2.2
        go_wp2
        go_ret
        exact ⟨rfl, HB7.out.trans (hfin.mono HB7.out.size)⟩
end Go.Proofs.YtkgmbogmeppmcaaDoor
