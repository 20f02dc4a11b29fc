/- cond.Holds. -/
import Derived.Test.YtlmobmbglninkaaDoorCond
import Derived.Deep.Cut
import Derived.Deep.DeepCutAuto
namespace Go.Proofs.YtlmobmbglninkaaDoor
open Go Go.Proofs Go.RowKit

theorem cellL {w wx : World} {a : Addr} {v : Value} (hb : Below w.heap.size w wx) (h : w.cell? a = some v) : wx.cell? a = some v := (hb.cell (World.block_lt_of_cell? _ _ h)).trans h
theorem wpAnyH_weaken {P : Program} {md : Region.Mode} {ops : Array Oper} {Q : Exit → Act → World → Prop} {S S' : World → Prop} (hs : ∀ w, S' w → S w) :
    ∀ (fuel : Nat) (listed : Array Bool) (a : Act) (w : World), wpAnyH P md ops Q S' fuel listed a w → wpAnyH P md ops Q S fuel listed a w
  | 0, _, _, _, h => h
  | fuel + 1, _, _, _, h => ⟨h.1, fun i hi => wpOp_mono (fun a' w' h' => ⟨hs w' h'.1, wpAnyH_weaken hs fuel _ a' w' h'.2⟩) (h.2 i hi)⟩

set_option maxRecDepth 100000 in
set_option maxHeartbeats 2000000 in
theorem holds_wrong (a o m v x0 x1 x2 x3 x4 x5 : Int) (hr : condRight a o m = false) (w : World) : Calls Tryd.prog 15 #[.agg #[.int .i64 a, .int .i64 o, .int .u64 m, .int .u64 v], .agg #[.int .u64 x0, .int .u64 x1, .int .u64 x2, .int .u64 x3, .int .u64 x4, .int .u64 x5]] w fun e w' => e = .returned (.bool false) ∧ Below w.heap.size w w' := by
  have hA := (Blk.new w 25 #[.int .i64 a, .int .i64 o, .int .u64 m, .int .u64 v]).alloc (.cells #[.int .u64 x0, .int .u64 x1, .int .u64 x2, .int .u64 x3, .int .u64 x4, .int .u64 x5] 37)
  have hX := Blk.new (w.alloc (.cells #[.int .i64 a, .int .i64 o, .int .u64 m, .int .u64 v] 25)) 37 #[.int .u64 x0, .int .u64 x1, .int .u64 x2, .int .u64 x3, .int .u64 x4, .int .u64 x5]
  have hb := ((Below.refl w.heap.size w).alloc (Nat.le_refl _) (.cells #[.int .i64 a, .int .i64 o, .int .u64 m, .int .u64 v] 25)).alloc (by simp) (.cells #[.int .u64 x0, .int .u64 x1, .int .u64 x2, .int .u64 x3, .int .u64 x4, .int .u64 x5] 37)
  simp only [World.size_alloc] at hX
  have c0 := hA.cell 0
  have c1 := hA.cell 1
  have c2 := hA.cell 2
  have c3 := hA.cell 3
  simp only [List.getElem?_toArray, List.getElem?_cons_zero, List.getElem?_cons_succ] at c0 c1 c2 c3
  have HB := Lib.hid hb
  have HR := Lib.hid (fun W => right_any a o m v W)
  rw [hr] at HR
  clear hA hX hb hr
  go_enter Tryd.func15, Tryd.ntmps15
  go_upto_region 1 with fail
  generalize (w.alloc (.cells #[.int .i64 a, .int .i64 o, .int .u64 m, .int .u64 v] 25)).alloc (.cells #[.int .u64 x0, .int .u64 x1, .int .u64 x2, .int .u64 x3, .int .u64 x4, .int .u64 x5] 37) = W at *
  refine wp_region_noPanic ?_
  refine wp_region_held_drew (S := fun w' => (w'.cell? ⟨w.heap.size, 0, none⟩ = some (.int .i64 a) ∧ w'.cell? ⟨w.heap.size, 1, none⟩ = some (.int .i64 o) ∧ w'.cell? ⟨w.heap.size, 2, none⟩ = some (.int .u64 m) ∧ w'.cell? ⟨w.heap.size, 3, none⟩ = some (.int .u64 v)) ∧ Below W.heap.size W w') (by kernel_rfl) (by first | exact ⟨⟨c0, c1, c2, c3⟩, (Below.refl _ W).drew⟩ | go_keep) (fun hHeld => ?_)
  refine wpAnyH_take (i := 0) (oi := { dst := some 5, op := Op.load 25 (Operand.tmp 2), type := 25, pos := "cond.go:49", after := #[], guard := none }) (v := ?v0) rfl (by kernel_rfl) (by kernel_rfl) (by kernel_rfl) (fun _ _ _ h => h) (Or.inl ⟨by rfl, ?hy0⟩) (by assumption) ?rest0
  case hy0 =>
    intro w hSw
    try dsimp only at hSw
    try obtain ⟨hSw, hSw2⟩ := hSw
    try go_split_ands
    go_simp
    try with_reducible rfl
  try simp only [Act.put, List.setIfInBounds_toArray, List.set_cons_zero, List.set_cons_succ]
  refine wpAnyH_ready (rs := [1]) (by kernel_rfl) (by simp) ?_
  refine AllReadyH.cons (o := { dst := some 6, op := Op.call { callee := Callee.value (Operand.func 17), args := #[Operand.tmp 5], argTypes := #[25] }, type := 4, pos := "cond.go:49", after := #[{ on := 0, ground := Ground.data }], guard := none }) rfl (fun K' hK => ?_) AllReadyH.nil
  go_simp
  refine (HR.out _).mono ?_
  rintro e wx ⟨rfl, hbx⟩
  refine hK.out _ _ (⟨⟨cellL hbx hHeld.1.1, cellL hbx hHeld.1.2.1, cellL hbx hHeld.1.2.2.1, cellL hbx hHeld.1.2.2.2⟩, hHeld.2.trans (hbx.mono hHeld.2.size)⟩) (fun hHeld => ?_)
  clear hK K'
  try simp only [Act.put, List.setIfInBounds_toArray, List.set_cons_zero, List.set_cons_succ]
  refine wpAnyH_take (i := 2) (oi := { dst := some 7, op := Op.move (Operand.tmp 6), type := 4, pos := "cond.go:49", after := #[{ on := 1, ground := Ground.data }, { on := 1, ground := Ground.chain }], guard := none }) (v := ?v2) rfl (by kernel_rfl) (by kernel_rfl) (by kernel_rfl) (fun _ _ _ h => h) (Or.inl ⟨by rfl, ?hy2⟩) (by assumption) ?rest2
  case hy2 =>
    intro w hSw
    try dsimp only at hSw
    try obtain ⟨hSw, hSw2⟩ := hSw
    try go_split_ands
    go_simp
    try with_reducible rfl
  try simp only [Act.put, List.setIfInBounds_toArray, List.set_cons_zero, List.set_cons_succ]
  refine wpAnyH_take (i := 3) (oi := { dst := some 8, op := Op.call { callee := Callee.value (Operand.func 21), args := #[], argTypes := #[] }, type := 53, pos := "cond.go:49", after := #[{ on := 2, ground := Ground.chain }, { on := 2, ground := Ground.guard }], guard := some (2, true) }) (v := undef) rfl (by kernel_rfl) (by kernel_rfl) (by kernel_rfl) (fun _ _ _ h => h) (Or.inr ⟨by rfl, rfl⟩) (by assumption) ?rest3
  try simp only [Act.put, List.setIfInBounds_toArray, List.set_cons_zero, List.set_cons_succ]
  refine wpAnyH_take (i := 4) (oi := { dst := some 9, op := Op.fieldAddr 25 (Operand.tmp 2) 1, type := 0, pos := "cond.go:49", after := #[{ on := 2, ground := Ground.guard }], guard := some (2, true) }) (v := undef) rfl (by kernel_rfl) (by kernel_rfl) (by kernel_rfl) (fun _ _ _ h => h) (Or.inr ⟨by rfl, rfl⟩) (by assumption) ?rest4
  try simp only [Act.put, List.setIfInBounds_toArray, List.set_cons_zero, List.set_cons_succ]
  refine wpAnyH_take (i := 5) (oi := { dst := some 10, op := Op.load 3 (Operand.tmp 9), type := 3, pos := "cond.go:49", after := #[{ on := 4, ground := Ground.data }, { on := 2, ground := Ground.guard }], guard := some (2, true) }) (v := undef) rfl (by kernel_rfl) (by kernel_rfl) (by kernel_rfl) (fun _ _ _ h => h) (Or.inr ⟨by rfl, rfl⟩) (by assumption) ?rest5
  try simp only [Act.put, List.setIfInBounds_toArray, List.set_cons_zero, List.set_cons_succ]
  refine wpAnyH_take (i := 6) (oi := { dst := some 11, op := Op.binOp BinOp.sub 3 (Operand.tmp 10) (Operand.const (Value.int IntKind.i64 1)) 3, type := 3, pos := "cond.go:49", after := #[{ on := 5, ground := Ground.data }, { on := 2, ground := Ground.guard }], guard := some (2, true) }) (v := undef) rfl (by kernel_rfl) (by kernel_rfl) (by kernel_rfl) (fun _ _ _ h => h) (Or.inr ⟨by rfl, rfl⟩) (by assumption) ?rest6
  try simp only [Act.put, List.setIfInBounds_toArray, List.set_cons_zero, List.set_cons_succ]
  refine wpAnyH_take (i := 7) (oi := { dst := some 12, op := Op.indexAddr 53 (Operand.tmp 8) (Operand.tmp 11), type := 0, pos := "cond.go:49", after := #[{ on := 3, ground := Ground.data }, { on := 6, ground := Ground.data }, { on := 2, ground := Ground.guard }], guard := some (2, true) }) (v := undef) rfl (by kernel_rfl) (by kernel_rfl) (by kernel_rfl) (fun _ _ _ h => h) (Or.inr ⟨by rfl, rfl⟩) (by assumption) ?rest7
  try simp only [Act.put, List.setIfInBounds_toArray, List.set_cons_zero, List.set_cons_succ]
  refine wpAnyH_take (i := 8) (oi := { dst := some 13, op := Op.fieldAddr 56 (Operand.tmp 12) 1, type := 0, pos := "cond.go:49", after := #[{ on := 7, ground := Ground.data }, { on := 2, ground := Ground.guard }], guard := some (2, true) }) (v := undef) rfl (by kernel_rfl) (by kernel_rfl) (by kernel_rfl) (fun _ _ _ h => h) (Or.inr ⟨by rfl, rfl⟩) (by assumption) ?rest8
  try simp only [Act.put, List.setIfInBounds_toArray, List.set_cons_zero, List.set_cons_succ]
  refine wpAnyH_take (i := 9) (oi := { dst := some 14, op := Op.load 54 (Operand.tmp 13), type := 54, pos := "cond.go:49", after := #[{ on := 8, ground := Ground.data }, { on := 2, ground := Ground.guard }], guard := some (2, true) }) (v := undef) rfl (by kernel_rfl) (by kernel_rfl) (by kernel_rfl) (fun _ _ _ h => h) (Or.inr ⟨by rfl, rfl⟩) (by assumption) ?rest9
  try simp only [Act.put, List.setIfInBounds_toArray, List.set_cons_zero, List.set_cons_succ]
  refine wpAnyH_take (i := 10) (oi := { dst := some 15, op := Op.fieldAddr 25 (Operand.tmp 2) 0, type := 0, pos := "cond.go:49", after := #[{ on := 2, ground := Ground.guard }], guard := some (2, true) }) (v := undef) rfl (by kernel_rfl) (by kernel_rfl) (by kernel_rfl) (fun _ _ _ h => h) (Or.inr ⟨by rfl, rfl⟩) (by assumption) ?rest10
  try simp only [Act.put, List.setIfInBounds_toArray, List.set_cons_zero, List.set_cons_succ]
  refine wpAnyH_take (i := 11) (oi := { dst := some 16, op := Op.load 3 (Operand.tmp 15), type := 3, pos := "cond.go:49", after := #[{ on := 10, ground := Ground.data }, { on := 2, ground := Ground.guard }], guard := some (2, true) }) (v := undef) rfl (by kernel_rfl) (by kernel_rfl) (by kernel_rfl) (fun _ _ _ h => h) (Or.inr ⟨by rfl, rfl⟩) (by assumption) ?rest11
  try simp only [Act.put, List.setIfInBounds_toArray, List.set_cons_zero, List.set_cons_succ]
  refine wpAnyH_take (i := 12) (oi := { dst := some 17, op := Op.indexAddr 37 (Operand.tmp 3) (Operand.tmp 16), type := 0, pos := "cond.go:49", after := #[{ on := 11, ground := Ground.data }, { on := 2, ground := Ground.guard }], guard := some (2, true) }) (v := undef) rfl (by kernel_rfl) (by kernel_rfl) (by kernel_rfl) (fun _ _ _ h => h) (Or.inr ⟨by rfl, rfl⟩) (by assumption) ?rest12
  try simp only [Act.put, List.setIfInBounds_toArray, List.set_cons_zero, List.set_cons_succ]
  refine wpAnyH_take (i := 13) (oi := { dst := some 18, op := Op.load 23 (Operand.tmp 17), type := 23, pos := "cond.go:49", after := #[{ on := 12, ground := Ground.data }, { on := 2, ground := Ground.guard }], guard := some (2, true) }) (v := undef) rfl (by kernel_rfl) (by kernel_rfl) (by kernel_rfl) (fun _ _ _ h => h) (Or.inr ⟨by rfl, rfl⟩) (by assumption) ?rest13
  try simp only [Act.put, List.setIfInBounds_toArray, List.set_cons_zero, List.set_cons_succ]
  refine wpAnyH_take (i := 14) (oi := { dst := some 19, op := Op.load 25 (Operand.tmp 2), type := 25, pos := "cond.go:49", after := #[{ on := 2, ground := Ground.guard }], guard := some (2, true) }) (v := undef) rfl (by kernel_rfl) (by kernel_rfl) (by kernel_rfl) (fun _ _ _ h => h) (Or.inr ⟨by rfl, rfl⟩) (by assumption) ?rest14
  try simp only [Act.put, List.setIfInBounds_toArray, List.set_cons_zero, List.set_cons_succ]
  refine wpAnyH_take (i := 15) (oi := { dst := some 20, op := Op.call { callee := Callee.value (Operand.tmp 14), args := #[Operand.tmp 18, Operand.tmp 19], argTypes := #[23, 25] }, type := 4, pos := "cond.go:49", after := #[{ on := 9, ground := Ground.data }, { on := 13, ground := Ground.data }, { on := 14, ground := Ground.data }, { on := 3, ground := Ground.chain }, { on := 2, ground := Ground.guard }], guard := some (2, true) }) (v := undef) rfl (by kernel_rfl) (by kernel_rfl) (by kernel_rfl) (fun _ _ _ h => h) (Or.inr ⟨by rfl, rfl⟩) (by assumption) ?rest15
  try simp only [Act.put, List.setIfInBounds_toArray, List.set_cons_zero, List.set_cons_succ]
  refine wpAnyH_take (i := 16) (oi := { dst := some 21, op := Op.pick (Operand.tmp 7) (Operand.tmp 20) (Operand.const (Value.bool false)), type := 4, pos := "cond.go:49", after := #[{ on := 2, ground := Ground.data }, { on := 15, ground := Ground.data }], guard := none }) (v := ?v16) rfl (by kernel_rfl) (by kernel_rfl) (by kernel_rfl) (fun _ _ _ h => h) (Or.inl ⟨by rfl, ?hy16⟩) (by assumption) ?rest16
  case hy16 =>
    intro w hSw
    try dsimp only at hSw
    try obtain ⟨hSw, hSw2⟩ := hSw
    try go_split_ands
    go_simp
    try with_reducible rfl
  try simp only [Act.put, List.setIfInBounds_toArray, List.set_cons_zero, List.set_cons_succ]
  refine wpAnyH_take (i := 17) (oi := { dst := some 4, op := Op.assign (Operand.tmp 21), type := 4, pos := "cond.go:49", after := #[{ on := 16, ground := Ground.data }, { on := 15, ground := Ground.chain }, { on := 0, ground := Ground.phase }, { on := 1, ground := Ground.phase }, { on := 2, ground := Ground.phase }, { on := 3, ground := Ground.phase }, { on := 4, ground := Ground.phase }, { on := 5, ground := Ground.phase }, { on := 6, ground := Ground.phase }, { on := 7, ground := Ground.phase }, { on := 8, ground := Ground.phase }, { on := 9, ground := Ground.phase }, { on := 10, ground := Ground.phase }, { on := 11, ground := Ground.phase }, { on := 12, ground := Ground.phase }, { on := 13, ground := Ground.phase }, { on := 14, ground := Ground.phase }, { on := 15, ground := Ground.phase }, { on := 16, ground := Ground.phase }], guard := none }) (v := ?v17) rfl (by kernel_rfl) (by kernel_rfl) (by kernel_rfl) (fun _ _ _ h => h) (Or.inl ⟨by rfl, ?hy17⟩) (by assumption) ?rest17
  case hy17 =>
    intro w hSw
    try dsimp only at hSw
    try obtain ⟨hSw, hSw2⟩ := hSw
    try go_split_ands
    go_simp
    try with_reducible rfl
  try simp only [Act.put, List.setIfInBounds_toArray, List.set_cons_zero, List.set_cons_succ]
  refine wpAnyH_done (by kernel_rfl) ?_ _
  refine NoPanic.normal ?_
  have hfin := hHeld.2
  go_wp2
  go_ret
  exact ⟨rfl, HB.out.trans (hfin.mono HB.out.size)⟩

set_option maxRecDepth 100000 in
set_option maxHeartbeats 2000000 in
theorem holds_1 (j : Nat) (hj : j ≤ 5) (m v x0 x1 x2 x3 x4 x5 xv : Int) (hx : [x0, x1, x2, x3, x4, x5][j]? = some xv) (hr : condRight j 1 m = true) (w : World) : Calls Tryd.prog 15 #[.agg #[.int .i64 (j : Int), .int .i64 1, .int .u64 m, .int .u64 v], .agg #[.int .u64 x0, .int .u64 x1, .int .u64 x2, .int .u64 x3, .int .u64 x4, .int .u64 x5]] w fun e w' => e = .returned (.bool (opHolds 1 m v xv)) ∧ Below w.heap.size w w' := by
  have hA := (Blk.new w 25 #[.int .i64 (j : Int), .int .i64 1, .int .u64 m, .int .u64 v]).alloc (.cells #[.int .u64 x0, .int .u64 x1, .int .u64 x2, .int .u64 x3, .int .u64 x4, .int .u64 x5] 37)
  have hX := Blk.new (w.alloc (.cells #[.int .i64 (j : Int), .int .i64 1, .int .u64 m, .int .u64 v] 25)) 37 #[.int .u64 x0, .int .u64 x1, .int .u64 x2, .int .u64 x3, .int .u64 x4, .int .u64 x5]
  have hb := ((Below.refl w.heap.size w).alloc (Nat.le_refl _) (.cells #[.int .i64 (j : Int), .int .i64 1, .int .u64 m, .int .u64 v] 25)).alloc (by simp) (.cells #[.int .u64 x0, .int .u64 x1, .int .u64 x2, .int .u64 x3, .int .u64 x4, .int .u64 x5] 37)
  simp only [World.size_alloc] at hX
  have c0 := hA.cell 0
  have c1 := hA.cell 1
  have c2 := hA.cell 2
  have c3 := hA.cell 3
  have cx := hX.cell j
  have ex : (#[.int .u64 x0, .int .u64 x1, .int .u64 x2, .int .u64 x3, .int .u64 x4, .int .u64 x5] : Array Value)[j]? = some (.int .u64 xv) := by
    match j, hj, hx with
    | 0, _, hx => simp at hx; subst hx; rfl
    | 1, _, hx => simp at hx; subst hx; rfl
    | 2, _, hx => simp at hx; subst hx; rfl
    | 3, _, hx => simp at hx; subst hx; rfl
    | 4, _, hx => simp at hx; subst hx; rfl
    | 5, _, hx => simp at hx; subst hx; rfl
  rw [ex] at cx
  simp only [List.getElem?_toArray, List.getElem?_cons_zero, List.getElem?_cons_succ] at c0 c1 c2 c3
  have HB := Lib.hid hb
  have HR := Lib.hid (fun W => right_any j 1 m v W)
  rw [hr] at HR
  have j0 : (0 : Int) ≤ (j : Int) := by omega
  have j6 : (j : Int) < 6 := by omega
  have wk : IntKind.i64.wrap 0 = 0 := by decide
  clear hA hX hb hr hx ex
  go_enter Tryd.func15, Tryd.ntmps15
  go_upto_region 1 with fail
  generalize (w.alloc (.cells #[.int .i64 (j : Int), .int .i64 1, .int .u64 m, .int .u64 v] 25)).alloc (.cells #[.int .u64 x0, .int .u64 x1, .int .u64 x2, .int .u64 x3, .int .u64 x4, .int .u64 x5] 37) = W at *
  refine wp_region_noPanic ?_
  refine wp_region_held_drew (S := fun w' => (w'.cell? ⟨w.heap.size, 0, none⟩ = some (.int .i64 (j : Int)) ∧ w'.cell? ⟨w.heap.size, 1, none⟩ = some (.int .i64 1) ∧ w'.cell? ⟨w.heap.size, 2, none⟩ = some (.int .u64 m) ∧ w'.cell? ⟨w.heap.size, 3, none⟩ = some (.int .u64 v)) ∧ w'.cell? ⟨w.heap.size + 1, j, none⟩ = some (.int .u64 xv) ∧ Below W.heap.size W w') (by kernel_rfl) (by first | exact ⟨⟨c0, c1, c2, c3⟩, cx, (Below.refl _ W).drew⟩ | go_keep) (fun hHeld => ?_)
  refine wpAnyH_take (i := 0) (oi := { dst := some 5, op := Op.load 25 (Operand.tmp 2), type := 25, pos := "cond.go:49", after := #[], guard := none }) (v := ?vk10) rfl (by kernel_rfl) (by kernel_rfl) (by kernel_rfl) (fun _ _ _ h => h) (Or.inl ⟨by rfl, ?hyk10⟩) (by assumption) ?restk10
  case hyk10 =>
    intro w hSw
    try dsimp only at hSw
    try obtain ⟨hSw, hSw2⟩ := hSw
    try go_split_ands
    go_simp
    try with_reducible rfl
  try simp only [Act.put, List.setIfInBounds_toArray, List.set_cons_zero, List.set_cons_succ]
  refine wpAnyH_ready (rs := [1]) (by kernel_rfl) (by simp) ?_
  refine AllReadyH.cons (o := { dst := some 6, op := Op.call { callee := Callee.value (Operand.func 17), args := #[Operand.tmp 5], argTypes := #[25] }, type := 4, pos := "cond.go:49", after := #[{ on := 0, ground := Ground.data }], guard := none }) rfl (fun K' hK => ?_) AllReadyH.nil
  go_simp
  refine (HR.out _).mono ?_
  rintro e wx ⟨rfl, hbx⟩
  refine hK.out _ _ (⟨⟨cellL hbx hHeld.1.1, cellL hbx hHeld.1.2.1, cellL hbx hHeld.1.2.2.1, cellL hbx hHeld.1.2.2.2⟩, cellL hbx hHeld.2.1, hHeld.2.2.trans (hbx.mono hHeld.2.2.size)⟩) (fun hHeld => ?_)
  clear hK K'
  try simp only [Act.put, List.setIfInBounds_toArray, List.set_cons_zero, List.set_cons_succ]
  refine wpAnyH_take (i := 2) (oi := { dst := some 7, op := Op.move (Operand.tmp 6), type := 4, pos := "cond.go:49", after := #[{ on := 1, ground := Ground.data }, { on := 1, ground := Ground.chain }], guard := none }) (v := ?vk12) rfl (by kernel_rfl) (by kernel_rfl) (by kernel_rfl) (fun _ _ _ h => h) (Or.inl ⟨by rfl, ?hyk12⟩) (by assumption) ?restk12
  case hyk12 =>
    intro w hSw
    try dsimp only at hSw
    try obtain ⟨hSw, hSw2⟩ := hSw
    try go_split_ands
    go_simp
    try with_reducible rfl
  try simp only [Act.put, List.setIfInBounds_toArray, List.set_cons_zero, List.set_cons_succ]
  refine wpAnyH_take (i := 4) (oi := { dst := some 9, op := Op.fieldAddr 25 (Operand.tmp 2) 1, type := 0, pos := "cond.go:49", after := #[{ on := 2, ground := Ground.guard }], guard := some (2, true) }) (v := ?vk14) rfl (by kernel_rfl) (by kernel_rfl) (by kernel_rfl) (fun _ _ _ h => h) (Or.inl ⟨by rfl, ?hyk14⟩) (by assumption) ?restk14
  case hyk14 =>
    intro w hSw
    try dsimp only at hSw
    try obtain ⟨hSw, hSw2⟩ := hSw
    try go_split_ands
    go_simp
    try with_reducible rfl
  try simp only [Act.put, List.setIfInBounds_toArray, List.set_cons_zero, List.set_cons_succ]
  refine wpAnyH_take (i := 5) (oi := { dst := some 10, op := Op.load 3 (Operand.tmp 9), type := 3, pos := "cond.go:49", after := #[{ on := 4, ground := Ground.data }, { on := 2, ground := Ground.guard }], guard := some (2, true) }) (v := ?vk15) rfl (by kernel_rfl) (by kernel_rfl) (by kernel_rfl) (fun _ _ _ h => h) (Or.inl ⟨by rfl, ?hyk15⟩) (by assumption) ?restk15
  case hyk15 =>
    intro w hSw
    try dsimp only at hSw
    try obtain ⟨hSw, hSw2⟩ := hSw
    try go_split_ands
    go_simp
    try with_reducible rfl
  try simp only [Act.put, List.setIfInBounds_toArray, List.set_cons_zero, List.set_cons_succ]
  refine wpAnyH_take (i := 6) (oi := { dst := some 11, op := Op.binOp BinOp.sub 3 (Operand.tmp 10) (Operand.const (Value.int IntKind.i64 1)) 3, type := 3, pos := "cond.go:49", after := #[{ on := 5, ground := Ground.data }, { on := 2, ground := Ground.guard }], guard := some (2, true) }) (v := ?vk16) rfl (by kernel_rfl) (by kernel_rfl) (by kernel_rfl) (fun _ _ _ h => h) (Or.inl ⟨by rfl, ?hyk16⟩) (by assumption) ?restk16
  case hyk16 =>
    intro w hSw
    try dsimp only at hSw
    try obtain ⟨hSw, hSw2⟩ := hSw
    try go_split_ands
    go_simp
    try with_reducible rfl
  try simp only [Act.put, List.setIfInBounds_toArray, List.set_cons_zero, List.set_cons_succ]
  refine wpAnyH_take (i := 10) (oi := { dst := some 15, op := Op.fieldAddr 25 (Operand.tmp 2) 0, type := 0, pos := "cond.go:49", after := #[{ on := 2, ground := Ground.guard }], guard := some (2, true) }) (v := ?vk110) rfl (by kernel_rfl) (by kernel_rfl) (by kernel_rfl) (fun _ _ _ h => h) (Or.inl ⟨by rfl, ?hyk110⟩) (by assumption) ?restk110
  case hyk110 =>
    intro w hSw
    try dsimp only at hSw
    try obtain ⟨hSw, hSw2⟩ := hSw
    try go_split_ands
    go_simp
    try with_reducible rfl
  try simp only [Act.put, List.setIfInBounds_toArray, List.set_cons_zero, List.set_cons_succ]
  refine wpAnyH_take (i := 11) (oi := { dst := some 16, op := Op.load 3 (Operand.tmp 15), type := 3, pos := "cond.go:49", after := #[{ on := 10, ground := Ground.data }, { on := 2, ground := Ground.guard }], guard := some (2, true) }) (v := ?vk111) rfl (by kernel_rfl) (by kernel_rfl) (by kernel_rfl) (fun _ _ _ h => h) (Or.inl ⟨by rfl, ?hyk111⟩) (by assumption) ?restk111
  case hyk111 =>
    intro w hSw
    try dsimp only at hSw
    try obtain ⟨hSw, hSw2⟩ := hSw
    try go_split_ands
    go_simp
    try with_reducible rfl
  try simp only [Act.put, List.setIfInBounds_toArray, List.set_cons_zero, List.set_cons_succ]
  refine wpAnyH_take (i := 12) (oi := { dst := some 17, op := Op.indexAddr 37 (Operand.tmp 3) (Operand.tmp 16), type := 0, pos := "cond.go:49", after := #[{ on := 11, ground := Ground.data }, { on := 2, ground := Ground.guard }], guard := some (2, true) }) (v := ?vk112) rfl (by kernel_rfl) (by kernel_rfl) (by kernel_rfl) (fun _ _ _ h => h) (Or.inl ⟨by rfl, ?hyk112⟩) (by assumption) ?restk112
  case hyk112 =>
    intro w hSw
    try dsimp only at hSw
    try obtain ⟨hSw, hSw2⟩ := hSw
    try go_split_ands
    go_simp
    try with_reducible rfl
  try simp only [Act.put, List.setIfInBounds_toArray, List.set_cons_zero, List.set_cons_succ]
  refine wpAnyH_take (i := 13) (oi := { dst := some 18, op := Op.load 23 (Operand.tmp 17), type := 23, pos := "cond.go:49", after := #[{ on := 12, ground := Ground.data }, { on := 2, ground := Ground.guard }], guard := some (2, true) }) (v := ?vk113) rfl (by kernel_rfl) (by kernel_rfl) (by kernel_rfl) (fun _ _ _ h => h) (Or.inl ⟨by rfl, ?hyk113⟩) (by assumption) ?restk113
  case hyk113 =>
    intro w hSw
    try dsimp only at hSw
    try obtain ⟨hSw, hSw2⟩ := hSw
    try go_split_ands
    go_simp
    try with_reducible rfl
  try simp only [Act.put, List.setIfInBounds_toArray, List.set_cons_zero, List.set_cons_succ]
  refine wpAnyH_take (i := 14) (oi := { dst := some 19, op := Op.load 25 (Operand.tmp 2), type := 25, pos := "cond.go:49", after := #[{ on := 2, ground := Ground.guard }], guard := some (2, true) }) (v := ?vk114) rfl (by kernel_rfl) (by kernel_rfl) (by kernel_rfl) (fun _ _ _ h => h) (Or.inl ⟨by rfl, ?hyk114⟩) (by assumption) ?restk114
  case hyk114 =>
    intro w hSw
    try dsimp only at hSw
    try obtain ⟨hSw, hSw2⟩ := hSw
    try go_split_ands
    go_simp
    try with_reducible rfl
  try simp only [Act.put, List.setIfInBounds_toArray, List.set_cons_zero, List.set_cons_succ]
  refine wpAnyH_ready (rs := [3]) (by kernel_rfl) (by simp) ?_
  refine AllReadyH.cons (o := { dst := some 8, op := Op.call { callee := Callee.value (Operand.func 21), args := #[], argTypes := #[] }, type := 53, pos := "cond.go:49", after := #[{ on := 2, ground := Ground.chain }, { on := 2, ground := Ground.guard }], guard := some (2, true) }) rfl (fun K' hK => ?_) AllReadyH.nil
  go_simp
  refine (ops_any _).mono ?_
  rintro e wy ⟨rfl, hwy⟩
  have hbx : Below wx.heap.size wx wy := by rw [← hwy]; exact (Below.refl _ wx).alloc (Nat.le_refl _) _
  have hop : wy.cell? ⟨wx.heap.size, 1, none⟩ = some (.func (.func 31) #[] #[]) := by rw [← hwy]; exact (Blk.new wx 56 opCells).cell 1
  refine hK.out _ _ (⟨⟨cellL hbx hHeld.1.1, cellL hbx hHeld.1.2.1, cellL hbx hHeld.1.2.2.1, cellL hbx hHeld.1.2.2.2⟩, cellL hbx hHeld.2.1, hHeld.2.2.trans (hbx.mono hHeld.2.2.size)⟩) (fun hHeld => ?_)
  clear hK K'
  try simp only [Act.put, List.setIfInBounds_toArray, List.set_cons_zero, List.set_cons_succ]
  refine wpAnyH_weaken (S' := fun w' => ((w'.cell? ⟨w.heap.size, 0, none⟩ = some (.int .i64 (j : Int)) ∧ w'.cell? ⟨w.heap.size, 1, none⟩ = some (.int .i64 1) ∧ w'.cell? ⟨w.heap.size, 2, none⟩ = some (.int .u64 m) ∧ w'.cell? ⟨w.heap.size, 3, none⟩ = some (.int .u64 v)) ∧ w'.cell? ⟨w.heap.size + 1, j, none⟩ = some (.int .u64 xv) ∧ Below W.heap.size W w') ∧ w'.cell? ⟨wx.heap.size, 1, none⟩ = some (.func (.func 31) #[] #[])) (fun _ h => h.1) _ _ _ _ ?_
  have hHeld2 : (fun w' : World => ((w'.cell? ⟨w.heap.size, 0, none⟩ = some (.int .i64 (j : Int)) ∧ w'.cell? ⟨w.heap.size, 1, none⟩ = some (.int .i64 1) ∧ w'.cell? ⟨w.heap.size, 2, none⟩ = some (.int .u64 m) ∧ w'.cell? ⟨w.heap.size, 3, none⟩ = some (.int .u64 v)) ∧ w'.cell? ⟨w.heap.size + 1, j, none⟩ = some (.int .u64 xv) ∧ Below W.heap.size W w') ∧ w'.cell? ⟨wx.heap.size, 1, none⟩ = some (.func (.func 31) #[] #[])) wy := ⟨hHeld, hop⟩
  clear hHeld hbx hop hwy
  refine wpAnyH_take (i := 7) (oi := { dst := some 12, op := Op.indexAddr 53 (Operand.tmp 8) (Operand.tmp 11), type := 0, pos := "cond.go:49", after := #[{ on := 3, ground := Ground.data }, { on := 6, ground := Ground.data }, { on := 2, ground := Ground.guard }], guard := some (2, true) }) (v := ?vk17) rfl (by kernel_rfl) (by kernel_rfl) (by kernel_rfl) (fun _ _ _ h => h) (Or.inl ⟨by rfl, ?hyk17⟩) (by assumption) ?restk17
  case hyk17 =>
    intro w hSw
    try dsimp only at hSw
    try obtain ⟨hSw, hSw2⟩ := hSw
    try go_split_ands
    go_simp
    try with_reducible rfl
  try simp only [Act.put, List.setIfInBounds_toArray, List.set_cons_zero, List.set_cons_succ]
  refine wpAnyH_take (i := 8) (oi := { dst := some 13, op := Op.fieldAddr 56 (Operand.tmp 12) 1, type := 0, pos := "cond.go:49", after := #[{ on := 7, ground := Ground.data }, { on := 2, ground := Ground.guard }], guard := some (2, true) }) (v := ?vk18) rfl (by kernel_rfl) (by kernel_rfl) (by kernel_rfl) (fun _ _ _ h => h) (Or.inl ⟨by rfl, ?hyk18⟩) (by assumption) ?restk18
  case hyk18 =>
    intro w hSw
    try dsimp only at hSw
    try obtain ⟨hSw, hSw2⟩ := hSw
    try go_split_ands
    go_simp
    try with_reducible rfl
  try simp only [Act.put, List.setIfInBounds_toArray, List.set_cons_zero, List.set_cons_succ]
  refine wpAnyH_take (i := 9) (oi := { dst := some 14, op := Op.load 54 (Operand.tmp 13), type := 54, pos := "cond.go:49", after := #[{ on := 8, ground := Ground.data }, { on := 2, ground := Ground.guard }], guard := some (2, true) }) (v := ?vk19) rfl (by kernel_rfl) (by kernel_rfl) (by kernel_rfl) (fun _ _ _ h => h) (Or.inl ⟨by rfl, ?hyk19⟩) (by assumption) ?restk19
  case hyk19 =>
    intro w hSw
    try dsimp only at hSw
    try obtain ⟨hSw, hSw2⟩ := hSw
    try go_split_ands
    go_simp
    try with_reducible rfl
  try simp only [Act.put, List.setIfInBounds_toArray, List.set_cons_zero, List.set_cons_succ]
  refine wpAnyH_ready (rs := [15]) (by kernel_rfl) (by simp) ?_
  refine AllReadyH.cons (o := { dst := some 20, op := Op.call { callee := Callee.value (Operand.tmp 14), args := #[Operand.tmp 18, Operand.tmp 19], argTypes := #[23, 25] }, type := 4, pos := "cond.go:49", after := #[{ on := 9, ground := Ground.data }, { on := 13, ground := Ground.data }, { on := 14, ground := Ground.data }, { on := 3, ground := Ground.chain }, { on := 2, ground := Ground.guard }], guard := some (2, true) }) rfl (fun K' hK => ?_) AllReadyH.nil
  go_simp
  refine (op1_any _ _ _ _ _ _).mono ?_
  rintro e wz ⟨rfl, hbx⟩
  refine hK.out _ _ (⟨⟨⟨cellL hbx hHeld2.1.1.1, cellL hbx hHeld2.1.1.2.1, cellL hbx hHeld2.1.1.2.2.1, cellL hbx hHeld2.1.1.2.2.2⟩, cellL hbx hHeld2.1.2.1, hHeld2.1.2.2.trans (hbx.mono hHeld2.1.2.2.size)⟩, cellL hbx hHeld2.2⟩) (fun hHeld => ?_)
  clear hK K'
  try simp only [Act.put, List.setIfInBounds_toArray, List.set_cons_zero, List.set_cons_succ]
  refine wpAnyH_take (i := 16) (oi := { dst := some 21, op := Op.pick (Operand.tmp 7) (Operand.tmp 20) (Operand.const (Value.bool false)), type := 4, pos := "cond.go:49", after := #[{ on := 2, ground := Ground.data }, { on := 15, ground := Ground.data }], guard := none }) (v := ?vk116) rfl (by kernel_rfl) (by kernel_rfl) (by kernel_rfl) (fun _ _ _ h => h) (Or.inl ⟨by rfl, ?hyk116⟩) (by assumption) ?restk116
  case hyk116 =>
    intro w hSw
    try dsimp only at hSw
    try obtain ⟨hSw, hSw2⟩ := hSw
    try go_split_ands
    go_simp
    try with_reducible rfl
  try simp only [Act.put, List.setIfInBounds_toArray, List.set_cons_zero, List.set_cons_succ]
  refine wpAnyH_take (i := 17) (oi := { dst := some 4, op := Op.assign (Operand.tmp 21), type := 4, pos := "cond.go:49", after := #[{ on := 16, ground := Ground.data }, { on := 15, ground := Ground.chain }, { on := 0, ground := Ground.phase }, { on := 1, ground := Ground.phase }, { on := 2, ground := Ground.phase }, { on := 3, ground := Ground.phase }, { on := 4, ground := Ground.phase }, { on := 5, ground := Ground.phase }, { on := 6, ground := Ground.phase }, { on := 7, ground := Ground.phase }, { on := 8, ground := Ground.phase }, { on := 9, ground := Ground.phase }, { on := 10, ground := Ground.phase }, { on := 11, ground := Ground.phase }, { on := 12, ground := Ground.phase }, { on := 13, ground := Ground.phase }, { on := 14, ground := Ground.phase }, { on := 15, ground := Ground.phase }, { on := 16, ground := Ground.phase }], guard := none }) (v := ?vk117) rfl (by kernel_rfl) (by kernel_rfl) (by kernel_rfl) (fun _ _ _ h => h) (Or.inl ⟨by rfl, ?hyk117⟩) (by assumption) ?restk117
  case hyk117 =>
    intro w hSw
    try dsimp only at hSw
    try obtain ⟨hSw, hSw2⟩ := hSw
    try go_split_ands
    go_simp
    try with_reducible rfl
  try simp only [Act.put, List.setIfInBounds_toArray, List.set_cons_zero, List.set_cons_succ]
  refine wpAnyH_done (by kernel_rfl) ?_ _
  refine NoPanic.normal ?_
  have hfin := hHeld.1.2.2
  go_wp2
  go_ret
  exact ⟨rfl, HB.out.trans (hfin.mono HB.out.size)⟩

set_option maxRecDepth 100000 in
set_option maxHeartbeats 2000000 in
theorem holds_2 (j : Nat) (hj : j ≤ 5) (m v x0 x1 x2 x3 x4 x5 xv : Int) (hx : [x0, x1, x2, x3, x4, x5][j]? = some xv) (hr : condRight j 2 m = true) (w : World) : Calls Tryd.prog 15 #[.agg #[.int .i64 (j : Int), .int .i64 2, .int .u64 m, .int .u64 v], .agg #[.int .u64 x0, .int .u64 x1, .int .u64 x2, .int .u64 x3, .int .u64 x4, .int .u64 x5]] w fun e w' => e = .returned (.bool (opHolds 2 m v xv)) ∧ Below w.heap.size w w' := by
  have hA := (Blk.new w 25 #[.int .i64 (j : Int), .int .i64 2, .int .u64 m, .int .u64 v]).alloc (.cells #[.int .u64 x0, .int .u64 x1, .int .u64 x2, .int .u64 x3, .int .u64 x4, .int .u64 x5] 37)
  have hX := Blk.new (w.alloc (.cells #[.int .i64 (j : Int), .int .i64 2, .int .u64 m, .int .u64 v] 25)) 37 #[.int .u64 x0, .int .u64 x1, .int .u64 x2, .int .u64 x3, .int .u64 x4, .int .u64 x5]
  have hb := ((Below.refl w.heap.size w).alloc (Nat.le_refl _) (.cells #[.int .i64 (j : Int), .int .i64 2, .int .u64 m, .int .u64 v] 25)).alloc (by simp) (.cells #[.int .u64 x0, .int .u64 x1, .int .u64 x2, .int .u64 x3, .int .u64 x4, .int .u64 x5] 37)
  simp only [World.size_alloc] at hX
  have c0 := hA.cell 0
  have c1 := hA.cell 1
  have c2 := hA.cell 2
  have c3 := hA.cell 3
  have cx := hX.cell j
  have ex : (#[.int .u64 x0, .int .u64 x1, .int .u64 x2, .int .u64 x3, .int .u64 x4, .int .u64 x5] : Array Value)[j]? = some (.int .u64 xv) := by
    match j, hj, hx with
    | 0, _, hx => simp at hx; subst hx; rfl
    | 1, _, hx => simp at hx; subst hx; rfl
    | 2, _, hx => simp at hx; subst hx; rfl
    | 3, _, hx => simp at hx; subst hx; rfl
    | 4, _, hx => simp at hx; subst hx; rfl
    | 5, _, hx => simp at hx; subst hx; rfl
  rw [ex] at cx
  simp only [List.getElem?_toArray, List.getElem?_cons_zero, List.getElem?_cons_succ] at c0 c1 c2 c3
  have HB := Lib.hid hb
  have HR := Lib.hid (fun W => right_any j 2 m v W)
  rw [hr] at HR
  have j0 : (0 : Int) ≤ (j : Int) := by omega
  have j6 : (j : Int) < 6 := by omega
  have wk : IntKind.i64.wrap 1 = 1 := by decide
  clear hA hX hb hr hx ex
  go_enter Tryd.func15, Tryd.ntmps15
  go_upto_region 1 with fail
  generalize (w.alloc (.cells #[.int .i64 (j : Int), .int .i64 2, .int .u64 m, .int .u64 v] 25)).alloc (.cells #[.int .u64 x0, .int .u64 x1, .int .u64 x2, .int .u64 x3, .int .u64 x4, .int .u64 x5] 37) = W at *
  refine wp_region_noPanic ?_
  refine wp_region_held_drew (S := fun w' => (w'.cell? ⟨w.heap.size, 0, none⟩ = some (.int .i64 (j : Int)) ∧ w'.cell? ⟨w.heap.size, 1, none⟩ = some (.int .i64 2) ∧ w'.cell? ⟨w.heap.size, 2, none⟩ = some (.int .u64 m) ∧ w'.cell? ⟨w.heap.size, 3, none⟩ = some (.int .u64 v)) ∧ w'.cell? ⟨w.heap.size + 1, j, none⟩ = some (.int .u64 xv) ∧ Below W.heap.size W w') (by kernel_rfl) (by first | exact ⟨⟨c0, c1, c2, c3⟩, cx, (Below.refl _ W).drew⟩ | go_keep) (fun hHeld => ?_)
  refine wpAnyH_take (i := 0) (oi := { dst := some 5, op := Op.load 25 (Operand.tmp 2), type := 25, pos := "cond.go:49", after := #[], guard := none }) (v := ?vk20) rfl (by kernel_rfl) (by kernel_rfl) (by kernel_rfl) (fun _ _ _ h => h) (Or.inl ⟨by rfl, ?hyk20⟩) (by assumption) ?restk20
  case hyk20 =>
    intro w hSw
    try dsimp only at hSw
    try obtain ⟨hSw, hSw2⟩ := hSw
    try go_split_ands
    go_simp
    try with_reducible rfl
  try simp only [Act.put, List.setIfInBounds_toArray, List.set_cons_zero, List.set_cons_succ]
  refine wpAnyH_ready (rs := [1]) (by kernel_rfl) (by simp) ?_
  refine AllReadyH.cons (o := { dst := some 6, op := Op.call { callee := Callee.value (Operand.func 17), args := #[Operand.tmp 5], argTypes := #[25] }, type := 4, pos := "cond.go:49", after := #[{ on := 0, ground := Ground.data }], guard := none }) rfl (fun K' hK => ?_) AllReadyH.nil
  go_simp
  refine (HR.out _).mono ?_
  rintro e wx ⟨rfl, hbx⟩
  refine hK.out _ _ (⟨⟨cellL hbx hHeld.1.1, cellL hbx hHeld.1.2.1, cellL hbx hHeld.1.2.2.1, cellL hbx hHeld.1.2.2.2⟩, cellL hbx hHeld.2.1, hHeld.2.2.trans (hbx.mono hHeld.2.2.size)⟩) (fun hHeld => ?_)
  clear hK K'
  try simp only [Act.put, List.setIfInBounds_toArray, List.set_cons_zero, List.set_cons_succ]
  refine wpAnyH_take (i := 2) (oi := { dst := some 7, op := Op.move (Operand.tmp 6), type := 4, pos := "cond.go:49", after := #[{ on := 1, ground := Ground.data }, { on := 1, ground := Ground.chain }], guard := none }) (v := ?vk22) rfl (by kernel_rfl) (by kernel_rfl) (by kernel_rfl) (fun _ _ _ h => h) (Or.inl ⟨by rfl, ?hyk22⟩) (by assumption) ?restk22
  case hyk22 =>
    intro w hSw
    try dsimp only at hSw
    try obtain ⟨hSw, hSw2⟩ := hSw
    try go_split_ands
    go_simp
    try with_reducible rfl
  try simp only [Act.put, List.setIfInBounds_toArray, List.set_cons_zero, List.set_cons_succ]
  refine wpAnyH_take (i := 4) (oi := { dst := some 9, op := Op.fieldAddr 25 (Operand.tmp 2) 1, type := 0, pos := "cond.go:49", after := #[{ on := 2, ground := Ground.guard }], guard := some (2, true) }) (v := ?vk24) rfl (by kernel_rfl) (by kernel_rfl) (by kernel_rfl) (fun _ _ _ h => h) (Or.inl ⟨by rfl, ?hyk24⟩) (by assumption) ?restk24
  case hyk24 =>
    intro w hSw
    try dsimp only at hSw
    try obtain ⟨hSw, hSw2⟩ := hSw
    try go_split_ands
    go_simp
    try with_reducible rfl
  try simp only [Act.put, List.setIfInBounds_toArray, List.set_cons_zero, List.set_cons_succ]
  refine wpAnyH_take (i := 5) (oi := { dst := some 10, op := Op.load 3 (Operand.tmp 9), type := 3, pos := "cond.go:49", after := #[{ on := 4, ground := Ground.data }, { on := 2, ground := Ground.guard }], guard := some (2, true) }) (v := ?vk25) rfl (by kernel_rfl) (by kernel_rfl) (by kernel_rfl) (fun _ _ _ h => h) (Or.inl ⟨by rfl, ?hyk25⟩) (by assumption) ?restk25
  case hyk25 =>
    intro w hSw
    try dsimp only at hSw
    try obtain ⟨hSw, hSw2⟩ := hSw
    try go_split_ands
    go_simp
    try with_reducible rfl
  try simp only [Act.put, List.setIfInBounds_toArray, List.set_cons_zero, List.set_cons_succ]
  refine wpAnyH_take (i := 6) (oi := { dst := some 11, op := Op.binOp BinOp.sub 3 (Operand.tmp 10) (Operand.const (Value.int IntKind.i64 1)) 3, type := 3, pos := "cond.go:49", after := #[{ on := 5, ground := Ground.data }, { on := 2, ground := Ground.guard }], guard := some (2, true) }) (v := ?vk26) rfl (by kernel_rfl) (by kernel_rfl) (by kernel_rfl) (fun _ _ _ h => h) (Or.inl ⟨by rfl, ?hyk26⟩) (by assumption) ?restk26
  case hyk26 =>
    intro w hSw
    try dsimp only at hSw
    try obtain ⟨hSw, hSw2⟩ := hSw
    try go_split_ands
    go_simp
    try with_reducible rfl
  try simp only [Act.put, List.setIfInBounds_toArray, List.set_cons_zero, List.set_cons_succ]
  refine wpAnyH_take (i := 10) (oi := { dst := some 15, op := Op.fieldAddr 25 (Operand.tmp 2) 0, type := 0, pos := "cond.go:49", after := #[{ on := 2, ground := Ground.guard }], guard := some (2, true) }) (v := ?vk210) rfl (by kernel_rfl) (by kernel_rfl) (by kernel_rfl) (fun _ _ _ h => h) (Or.inl ⟨by rfl, ?hyk210⟩) (by assumption) ?restk210
  case hyk210 =>
    intro w hSw
    try dsimp only at hSw
    try obtain ⟨hSw, hSw2⟩ := hSw
    try go_split_ands
    go_simp
    try with_reducible rfl
  try simp only [Act.put, List.setIfInBounds_toArray, List.set_cons_zero, List.set_cons_succ]
  refine wpAnyH_take (i := 11) (oi := { dst := some 16, op := Op.load 3 (Operand.tmp 15), type := 3, pos := "cond.go:49", after := #[{ on := 10, ground := Ground.data }, { on := 2, ground := Ground.guard }], guard := some (2, true) }) (v := ?vk211) rfl (by kernel_rfl) (by kernel_rfl) (by kernel_rfl) (fun _ _ _ h => h) (Or.inl ⟨by rfl, ?hyk211⟩) (by assumption) ?restk211
  case hyk211 =>
    intro w hSw
    try dsimp only at hSw
    try obtain ⟨hSw, hSw2⟩ := hSw
    try go_split_ands
    go_simp
    try with_reducible rfl
  try simp only [Act.put, List.setIfInBounds_toArray, List.set_cons_zero, List.set_cons_succ]
  refine wpAnyH_take (i := 12) (oi := { dst := some 17, op := Op.indexAddr 37 (Operand.tmp 3) (Operand.tmp 16), type := 0, pos := "cond.go:49", after := #[{ on := 11, ground := Ground.data }, { on := 2, ground := Ground.guard }], guard := some (2, true) }) (v := ?vk212) rfl (by kernel_rfl) (by kernel_rfl) (by kernel_rfl) (fun _ _ _ h => h) (Or.inl ⟨by rfl, ?hyk212⟩) (by assumption) ?restk212
  case hyk212 =>
    intro w hSw
    try dsimp only at hSw
    try obtain ⟨hSw, hSw2⟩ := hSw
    try go_split_ands
    go_simp
    try with_reducible rfl
  try simp only [Act.put, List.setIfInBounds_toArray, List.set_cons_zero, List.set_cons_succ]
  refine wpAnyH_take (i := 13) (oi := { dst := some 18, op := Op.load 23 (Operand.tmp 17), type := 23, pos := "cond.go:49", after := #[{ on := 12, ground := Ground.data }, { on := 2, ground := Ground.guard }], guard := some (2, true) }) (v := ?vk213) rfl (by kernel_rfl) (by kernel_rfl) (by kernel_rfl) (fun _ _ _ h => h) (Or.inl ⟨by rfl, ?hyk213⟩) (by assumption) ?restk213
  case hyk213 =>
    intro w hSw
    try dsimp only at hSw
    try obtain ⟨hSw, hSw2⟩ := hSw
    try go_split_ands
    go_simp
    try with_reducible rfl
  try simp only [Act.put, List.setIfInBounds_toArray, List.set_cons_zero, List.set_cons_succ]
  refine wpAnyH_take (i := 14) (oi := { dst := some 19, op := Op.load 25 (Operand.tmp 2), type := 25, pos := "cond.go:49", after := #[{ on := 2, ground := Ground.guard }], guard := some (2, true) }) (v := ?vk214) rfl (by kernel_rfl) (by kernel_rfl) (by kernel_rfl) (fun _ _ _ h => h) (Or.inl ⟨by rfl, ?hyk214⟩) (by assumption) ?restk214
  case hyk214 =>
    intro w hSw
    try dsimp only at hSw
    try obtain ⟨hSw, hSw2⟩ := hSw
    try go_split_ands
    go_simp
    try with_reducible rfl
  try simp only [Act.put, List.setIfInBounds_toArray, List.set_cons_zero, List.set_cons_succ]
  refine wpAnyH_ready (rs := [3]) (by kernel_rfl) (by simp) ?_
  refine AllReadyH.cons (o := { dst := some 8, op := Op.call { callee := Callee.value (Operand.func 21), args := #[], argTypes := #[] }, type := 53, pos := "cond.go:49", after := #[{ on := 2, ground := Ground.chain }, { on := 2, ground := Ground.guard }], guard := some (2, true) }) rfl (fun K' hK => ?_) AllReadyH.nil
  go_simp
  refine (ops_any _).mono ?_
  rintro e wy ⟨rfl, hwy⟩
  have hbx : Below wx.heap.size wx wy := by rw [← hwy]; exact (Below.refl _ wx).alloc (Nat.le_refl _) _
  have hop : wy.cell? ⟨wx.heap.size, 3, none⟩ = some (.func (.func 32) #[] #[]) := by rw [← hwy]; exact (Blk.new wx 56 opCells).cell 3
  refine hK.out _ _ (⟨⟨cellL hbx hHeld.1.1, cellL hbx hHeld.1.2.1, cellL hbx hHeld.1.2.2.1, cellL hbx hHeld.1.2.2.2⟩, cellL hbx hHeld.2.1, hHeld.2.2.trans (hbx.mono hHeld.2.2.size)⟩) (fun hHeld => ?_)
  clear hK K'
  try simp only [Act.put, List.setIfInBounds_toArray, List.set_cons_zero, List.set_cons_succ]
  refine wpAnyH_weaken (S' := fun w' => ((w'.cell? ⟨w.heap.size, 0, none⟩ = some (.int .i64 (j : Int)) ∧ w'.cell? ⟨w.heap.size, 1, none⟩ = some (.int .i64 2) ∧ w'.cell? ⟨w.heap.size, 2, none⟩ = some (.int .u64 m) ∧ w'.cell? ⟨w.heap.size, 3, none⟩ = some (.int .u64 v)) ∧ w'.cell? ⟨w.heap.size + 1, j, none⟩ = some (.int .u64 xv) ∧ Below W.heap.size W w') ∧ w'.cell? ⟨wx.heap.size, 3, none⟩ = some (.func (.func 32) #[] #[])) (fun _ h => h.1) _ _ _ _ ?_
  have hHeld2 : (fun w' : World => ((w'.cell? ⟨w.heap.size, 0, none⟩ = some (.int .i64 (j : Int)) ∧ w'.cell? ⟨w.heap.size, 1, none⟩ = some (.int .i64 2) ∧ w'.cell? ⟨w.heap.size, 2, none⟩ = some (.int .u64 m) ∧ w'.cell? ⟨w.heap.size, 3, none⟩ = some (.int .u64 v)) ∧ w'.cell? ⟨w.heap.size + 1, j, none⟩ = some (.int .u64 xv) ∧ Below W.heap.size W w') ∧ w'.cell? ⟨wx.heap.size, 3, none⟩ = some (.func (.func 32) #[] #[])) wy := ⟨hHeld, hop⟩
  clear hHeld hbx hop hwy
  refine wpAnyH_take (i := 7) (oi := { dst := some 12, op := Op.indexAddr 53 (Operand.tmp 8) (Operand.tmp 11), type := 0, pos := "cond.go:49", after := #[{ on := 3, ground := Ground.data }, { on := 6, ground := Ground.data }, { on := 2, ground := Ground.guard }], guard := some (2, true) }) (v := ?vk27) rfl (by kernel_rfl) (by kernel_rfl) (by kernel_rfl) (fun _ _ _ h => h) (Or.inl ⟨by rfl, ?hyk27⟩) (by assumption) ?restk27
  case hyk27 =>
    intro w hSw
    try dsimp only at hSw
    try obtain ⟨hSw, hSw2⟩ := hSw
    try go_split_ands
    go_simp
    try with_reducible rfl
  try simp only [Act.put, List.setIfInBounds_toArray, List.set_cons_zero, List.set_cons_succ]
  refine wpAnyH_take (i := 8) (oi := { dst := some 13, op := Op.fieldAddr 56 (Operand.tmp 12) 1, type := 0, pos := "cond.go:49", after := #[{ on := 7, ground := Ground.data }, { on := 2, ground := Ground.guard }], guard := some (2, true) }) (v := ?vk28) rfl (by kernel_rfl) (by kernel_rfl) (by kernel_rfl) (fun _ _ _ h => h) (Or.inl ⟨by rfl, ?hyk28⟩) (by assumption) ?restk28
  case hyk28 =>
    intro w hSw
    try dsimp only at hSw
    try obtain ⟨hSw, hSw2⟩ := hSw
    try go_split_ands
    go_simp
    try with_reducible rfl
  try simp only [Act.put, List.setIfInBounds_toArray, List.set_cons_zero, List.set_cons_succ]
  refine wpAnyH_take (i := 9) (oi := { dst := some 14, op := Op.load 54 (Operand.tmp 13), type := 54, pos := "cond.go:49", after := #[{ on := 8, ground := Ground.data }, { on := 2, ground := Ground.guard }], guard := some (2, true) }) (v := ?vk29) rfl (by kernel_rfl) (by kernel_rfl) (by kernel_rfl) (fun _ _ _ h => h) (Or.inl ⟨by rfl, ?hyk29⟩) (by assumption) ?restk29
  case hyk29 =>
    intro w hSw
    try dsimp only at hSw
    try obtain ⟨hSw, hSw2⟩ := hSw
    try go_split_ands
    go_simp
    try with_reducible rfl
  try simp only [Act.put, List.setIfInBounds_toArray, List.set_cons_zero, List.set_cons_succ]
  refine wpAnyH_ready (rs := [15]) (by kernel_rfl) (by simp) ?_
  refine AllReadyH.cons (o := { dst := some 20, op := Op.call { callee := Callee.value (Operand.tmp 14), args := #[Operand.tmp 18, Operand.tmp 19], argTypes := #[23, 25] }, type := 4, pos := "cond.go:49", after := #[{ on := 9, ground := Ground.data }, { on := 13, ground := Ground.data }, { on := 14, ground := Ground.data }, { on := 3, ground := Ground.chain }, { on := 2, ground := Ground.guard }], guard := some (2, true) }) rfl (fun K' hK => ?_) AllReadyH.nil
  go_simp
  refine (op2_any _ _ _ _ _ _).mono ?_
  rintro e wz ⟨rfl, hbx⟩
  refine hK.out _ _ (⟨⟨⟨cellL hbx hHeld2.1.1.1, cellL hbx hHeld2.1.1.2.1, cellL hbx hHeld2.1.1.2.2.1, cellL hbx hHeld2.1.1.2.2.2⟩, cellL hbx hHeld2.1.2.1, hHeld2.1.2.2.trans (hbx.mono hHeld2.1.2.2.size)⟩, cellL hbx hHeld2.2⟩) (fun hHeld => ?_)
  clear hK K'
  try simp only [Act.put, List.setIfInBounds_toArray, List.set_cons_zero, List.set_cons_succ]
  refine wpAnyH_take (i := 16) (oi := { dst := some 21, op := Op.pick (Operand.tmp 7) (Operand.tmp 20) (Operand.const (Value.bool false)), type := 4, pos := "cond.go:49", after := #[{ on := 2, ground := Ground.data }, { on := 15, ground := Ground.data }], guard := none }) (v := ?vk216) rfl (by kernel_rfl) (by kernel_rfl) (by kernel_rfl) (fun _ _ _ h => h) (Or.inl ⟨by rfl, ?hyk216⟩) (by assumption) ?restk216
  case hyk216 =>
    intro w hSw
    try dsimp only at hSw
    try obtain ⟨hSw, hSw2⟩ := hSw
    try go_split_ands
    go_simp
    try with_reducible rfl
  try simp only [Act.put, List.setIfInBounds_toArray, List.set_cons_zero, List.set_cons_succ]
  refine wpAnyH_take (i := 17) (oi := { dst := some 4, op := Op.assign (Operand.tmp 21), type := 4, pos := "cond.go:49", after := #[{ on := 16, ground := Ground.data }, { on := 15, ground := Ground.chain }, { on := 0, ground := Ground.phase }, { on := 1, ground := Ground.phase }, { on := 2, ground := Ground.phase }, { on := 3, ground := Ground.phase }, { on := 4, ground := Ground.phase }, { on := 5, ground := Ground.phase }, { on := 6, ground := Ground.phase }, { on := 7, ground := Ground.phase }, { on := 8, ground := Ground.phase }, { on := 9, ground := Ground.phase }, { on := 10, ground := Ground.phase }, { on := 11, ground := Ground.phase }, { on := 12, ground := Ground.phase }, { on := 13, ground := Ground.phase }, { on := 14, ground := Ground.phase }, { on := 15, ground := Ground.phase }, { on := 16, ground := Ground.phase }], guard := none }) (v := ?vk217) rfl (by kernel_rfl) (by kernel_rfl) (by kernel_rfl) (fun _ _ _ h => h) (Or.inl ⟨by rfl, ?hyk217⟩) (by assumption) ?restk217
  case hyk217 =>
    intro w hSw
    try dsimp only at hSw
    try obtain ⟨hSw, hSw2⟩ := hSw
    try go_split_ands
    go_simp
    try with_reducible rfl
  try simp only [Act.put, List.setIfInBounds_toArray, List.set_cons_zero, List.set_cons_succ]
  refine wpAnyH_done (by kernel_rfl) ?_ _
  refine NoPanic.normal ?_
  have hfin := hHeld.1.2.2
  go_wp2
  go_ret
  exact ⟨rfl, HB.out.trans (hfin.mono HB.out.size)⟩

set_option maxRecDepth 100000 in
set_option maxHeartbeats 2000000 in
theorem holds_3 (j : Nat) (hj : j ≤ 5) (m v x0 x1 x2 x3 x4 x5 xv : Int) (hx : [x0, x1, x2, x3, x4, x5][j]? = some xv) (hr : condRight j 3 m = true) (w : World) : Calls Tryd.prog 15 #[.agg #[.int .i64 (j : Int), .int .i64 3, .int .u64 m, .int .u64 v], .agg #[.int .u64 x0, .int .u64 x1, .int .u64 x2, .int .u64 x3, .int .u64 x4, .int .u64 x5]] w fun e w' => e = .returned (.bool (opHolds 3 m v xv)) ∧ Below w.heap.size w w' := by
  have hA := (Blk.new w 25 #[.int .i64 (j : Int), .int .i64 3, .int .u64 m, .int .u64 v]).alloc (.cells #[.int .u64 x0, .int .u64 x1, .int .u64 x2, .int .u64 x3, .int .u64 x4, .int .u64 x5] 37)
  have hX := Blk.new (w.alloc (.cells #[.int .i64 (j : Int), .int .i64 3, .int .u64 m, .int .u64 v] 25)) 37 #[.int .u64 x0, .int .u64 x1, .int .u64 x2, .int .u64 x3, .int .u64 x4, .int .u64 x5]
  have hb := ((Below.refl w.heap.size w).alloc (Nat.le_refl _) (.cells #[.int .i64 (j : Int), .int .i64 3, .int .u64 m, .int .u64 v] 25)).alloc (by simp) (.cells #[.int .u64 x0, .int .u64 x1, .int .u64 x2, .int .u64 x3, .int .u64 x4, .int .u64 x5] 37)
  simp only [World.size_alloc] at hX
  have c0 := hA.cell 0
  have c1 := hA.cell 1
  have c2 := hA.cell 2
  have c3 := hA.cell 3
  have cx := hX.cell j
  have ex : (#[.int .u64 x0, .int .u64 x1, .int .u64 x2, .int .u64 x3, .int .u64 x4, .int .u64 x5] : Array Value)[j]? = some (.int .u64 xv) := by
    match j, hj, hx with
    | 0, _, hx => simp at hx; subst hx; rfl
    | 1, _, hx => simp at hx; subst hx; rfl
    | 2, _, hx => simp at hx; subst hx; rfl
    | 3, _, hx => simp at hx; subst hx; rfl
    | 4, _, hx => simp at hx; subst hx; rfl
    | 5, _, hx => simp at hx; subst hx; rfl
  rw [ex] at cx
  simp only [List.getElem?_toArray, List.getElem?_cons_zero, List.getElem?_cons_succ] at c0 c1 c2 c3
  have HB := Lib.hid hb
  have HR := Lib.hid (fun W => right_any j 3 m v W)
  rw [hr] at HR
  have j0 : (0 : Int) ≤ (j : Int) := by omega
  have j6 : (j : Int) < 6 := by omega
  have wk : IntKind.i64.wrap 2 = 2 := by decide
  clear hA hX hb hr hx ex
  go_enter Tryd.func15, Tryd.ntmps15
  go_upto_region 1 with fail
  generalize (w.alloc (.cells #[.int .i64 (j : Int), .int .i64 3, .int .u64 m, .int .u64 v] 25)).alloc (.cells #[.int .u64 x0, .int .u64 x1, .int .u64 x2, .int .u64 x3, .int .u64 x4, .int .u64 x5] 37) = W at *
  refine wp_region_noPanic ?_
  refine wp_region_held_drew (S := fun w' => (w'.cell? ⟨w.heap.size, 0, none⟩ = some (.int .i64 (j : Int)) ∧ w'.cell? ⟨w.heap.size, 1, none⟩ = some (.int .i64 3) ∧ w'.cell? ⟨w.heap.size, 2, none⟩ = some (.int .u64 m) ∧ w'.cell? ⟨w.heap.size, 3, none⟩ = some (.int .u64 v)) ∧ w'.cell? ⟨w.heap.size + 1, j, none⟩ = some (.int .u64 xv) ∧ Below W.heap.size W w') (by kernel_rfl) (by first | exact ⟨⟨c0, c1, c2, c3⟩, cx, (Below.refl _ W).drew⟩ | go_keep) (fun hHeld => ?_)
  refine wpAnyH_take (i := 0) (oi := { dst := some 5, op := Op.load 25 (Operand.tmp 2), type := 25, pos := "cond.go:49", after := #[], guard := none }) (v := ?vk30) rfl (by kernel_rfl) (by kernel_rfl) (by kernel_rfl) (fun _ _ _ h => h) (Or.inl ⟨by rfl, ?hyk30⟩) (by assumption) ?restk30
  case hyk30 =>
    intro w hSw
    try dsimp only at hSw
    try obtain ⟨hSw, hSw2⟩ := hSw
    try go_split_ands
    go_simp
    try with_reducible rfl
  try simp only [Act.put, List.setIfInBounds_toArray, List.set_cons_zero, List.set_cons_succ]
  refine wpAnyH_ready (rs := [1]) (by kernel_rfl) (by simp) ?_
  refine AllReadyH.cons (o := { dst := some 6, op := Op.call { callee := Callee.value (Operand.func 17), args := #[Operand.tmp 5], argTypes := #[25] }, type := 4, pos := "cond.go:49", after := #[{ on := 0, ground := Ground.data }], guard := none }) rfl (fun K' hK => ?_) AllReadyH.nil
  go_simp
  refine (HR.out _).mono ?_
  rintro e wx ⟨rfl, hbx⟩
  refine hK.out _ _ (⟨⟨cellL hbx hHeld.1.1, cellL hbx hHeld.1.2.1, cellL hbx hHeld.1.2.2.1, cellL hbx hHeld.1.2.2.2⟩, cellL hbx hHeld.2.1, hHeld.2.2.trans (hbx.mono hHeld.2.2.size)⟩) (fun hHeld => ?_)
  clear hK K'
  try simp only [Act.put, List.setIfInBounds_toArray, List.set_cons_zero, List.set_cons_succ]
  refine wpAnyH_take (i := 2) (oi := { dst := some 7, op := Op.move (Operand.tmp 6), type := 4, pos := "cond.go:49", after := #[{ on := 1, ground := Ground.data }, { on := 1, ground := Ground.chain }], guard := none }) (v := ?vk32) rfl (by kernel_rfl) (by kernel_rfl) (by kernel_rfl) (fun _ _ _ h => h) (Or.inl ⟨by rfl, ?hyk32⟩) (by assumption) ?restk32
  case hyk32 =>
    intro w hSw
    try dsimp only at hSw
    try obtain ⟨hSw, hSw2⟩ := hSw
    try go_split_ands
    go_simp
    try with_reducible rfl
  try simp only [Act.put, List.setIfInBounds_toArray, List.set_cons_zero, List.set_cons_succ]
  refine wpAnyH_take (i := 4) (oi := { dst := some 9, op := Op.fieldAddr 25 (Operand.tmp 2) 1, type := 0, pos := "cond.go:49", after := #[{ on := 2, ground := Ground.guard }], guard := some (2, true) }) (v := ?vk34) rfl (by kernel_rfl) (by kernel_rfl) (by kernel_rfl) (fun _ _ _ h => h) (Or.inl ⟨by rfl, ?hyk34⟩) (by assumption) ?restk34
  case hyk34 =>
    intro w hSw
    try dsimp only at hSw
    try obtain ⟨hSw, hSw2⟩ := hSw
    try go_split_ands
    go_simp
    try with_reducible rfl
  try simp only [Act.put, List.setIfInBounds_toArray, List.set_cons_zero, List.set_cons_succ]
  refine wpAnyH_take (i := 5) (oi := { dst := some 10, op := Op.load 3 (Operand.tmp 9), type := 3, pos := "cond.go:49", after := #[{ on := 4, ground := Ground.data }, { on := 2, ground := Ground.guard }], guard := some (2, true) }) (v := ?vk35) rfl (by kernel_rfl) (by kernel_rfl) (by kernel_rfl) (fun _ _ _ h => h) (Or.inl ⟨by rfl, ?hyk35⟩) (by assumption) ?restk35
  case hyk35 =>
    intro w hSw
    try dsimp only at hSw
    try obtain ⟨hSw, hSw2⟩ := hSw
    try go_split_ands
    go_simp
    try with_reducible rfl
  try simp only [Act.put, List.setIfInBounds_toArray, List.set_cons_zero, List.set_cons_succ]
  refine wpAnyH_take (i := 6) (oi := { dst := some 11, op := Op.binOp BinOp.sub 3 (Operand.tmp 10) (Operand.const (Value.int IntKind.i64 1)) 3, type := 3, pos := "cond.go:49", after := #[{ on := 5, ground := Ground.data }, { on := 2, ground := Ground.guard }], guard := some (2, true) }) (v := ?vk36) rfl (by kernel_rfl) (by kernel_rfl) (by kernel_rfl) (fun _ _ _ h => h) (Or.inl ⟨by rfl, ?hyk36⟩) (by assumption) ?restk36
  case hyk36 =>
    intro w hSw
    try dsimp only at hSw
    try obtain ⟨hSw, hSw2⟩ := hSw
    try go_split_ands
    go_simp
    try with_reducible rfl
  try simp only [Act.put, List.setIfInBounds_toArray, List.set_cons_zero, List.set_cons_succ]
  refine wpAnyH_take (i := 10) (oi := { dst := some 15, op := Op.fieldAddr 25 (Operand.tmp 2) 0, type := 0, pos := "cond.go:49", after := #[{ on := 2, ground := Ground.guard }], guard := some (2, true) }) (v := ?vk310) rfl (by kernel_rfl) (by kernel_rfl) (by kernel_rfl) (fun _ _ _ h => h) (Or.inl ⟨by rfl, ?hyk310⟩) (by assumption) ?restk310
  case hyk310 =>
    intro w hSw
    try dsimp only at hSw
    try obtain ⟨hSw, hSw2⟩ := hSw
    try go_split_ands
    go_simp
    try with_reducible rfl
  try simp only [Act.put, List.setIfInBounds_toArray, List.set_cons_zero, List.set_cons_succ]
  refine wpAnyH_take (i := 11) (oi := { dst := some 16, op := Op.load 3 (Operand.tmp 15), type := 3, pos := "cond.go:49", after := #[{ on := 10, ground := Ground.data }, { on := 2, ground := Ground.guard }], guard := some (2, true) }) (v := ?vk311) rfl (by kernel_rfl) (by kernel_rfl) (by kernel_rfl) (fun _ _ _ h => h) (Or.inl ⟨by rfl, ?hyk311⟩) (by assumption) ?restk311
  case hyk311 =>
    intro w hSw
    try dsimp only at hSw
    try obtain ⟨hSw, hSw2⟩ := hSw
    try go_split_ands
    go_simp
    try with_reducible rfl
  try simp only [Act.put, List.setIfInBounds_toArray, List.set_cons_zero, List.set_cons_succ]
  refine wpAnyH_take (i := 12) (oi := { dst := some 17, op := Op.indexAddr 37 (Operand.tmp 3) (Operand.tmp 16), type := 0, pos := "cond.go:49", after := #[{ on := 11, ground := Ground.data }, { on := 2, ground := Ground.guard }], guard := some (2, true) }) (v := ?vk312) rfl (by kernel_rfl) (by kernel_rfl) (by kernel_rfl) (fun _ _ _ h => h) (Or.inl ⟨by rfl, ?hyk312⟩) (by assumption) ?restk312
  case hyk312 =>
    intro w hSw
    try dsimp only at hSw
    try obtain ⟨hSw, hSw2⟩ := hSw
    try go_split_ands
    go_simp
    try with_reducible rfl
  try simp only [Act.put, List.setIfInBounds_toArray, List.set_cons_zero, List.set_cons_succ]
  refine wpAnyH_take (i := 13) (oi := { dst := some 18, op := Op.load 23 (Operand.tmp 17), type := 23, pos := "cond.go:49", after := #[{ on := 12, ground := Ground.data }, { on := 2, ground := Ground.guard }], guard := some (2, true) }) (v := ?vk313) rfl (by kernel_rfl) (by kernel_rfl) (by kernel_rfl) (fun _ _ _ h => h) (Or.inl ⟨by rfl, ?hyk313⟩) (by assumption) ?restk313
  case hyk313 =>
    intro w hSw
    try dsimp only at hSw
    try obtain ⟨hSw, hSw2⟩ := hSw
    try go_split_ands
    go_simp
    try with_reducible rfl
  try simp only [Act.put, List.setIfInBounds_toArray, List.set_cons_zero, List.set_cons_succ]
  refine wpAnyH_take (i := 14) (oi := { dst := some 19, op := Op.load 25 (Operand.tmp 2), type := 25, pos := "cond.go:49", after := #[{ on := 2, ground := Ground.guard }], guard := some (2, true) }) (v := ?vk314) rfl (by kernel_rfl) (by kernel_rfl) (by kernel_rfl) (fun _ _ _ h => h) (Or.inl ⟨by rfl, ?hyk314⟩) (by assumption) ?restk314
  case hyk314 =>
    intro w hSw
    try dsimp only at hSw
    try obtain ⟨hSw, hSw2⟩ := hSw
    try go_split_ands
    go_simp
    try with_reducible rfl
  try simp only [Act.put, List.setIfInBounds_toArray, List.set_cons_zero, List.set_cons_succ]
  refine wpAnyH_ready (rs := [3]) (by kernel_rfl) (by simp) ?_
  refine AllReadyH.cons (o := { dst := some 8, op := Op.call { callee := Callee.value (Operand.func 21), args := #[], argTypes := #[] }, type := 53, pos := "cond.go:49", after := #[{ on := 2, ground := Ground.chain }, { on := 2, ground := Ground.guard }], guard := some (2, true) }) rfl (fun K' hK => ?_) AllReadyH.nil
  go_simp
  refine (ops_any _).mono ?_
  rintro e wy ⟨rfl, hwy⟩
  have hbx : Below wx.heap.size wx wy := by rw [← hwy]; exact (Below.refl _ wx).alloc (Nat.le_refl _) _
  have hop : wy.cell? ⟨wx.heap.size, 5, none⟩ = some (.func (.func 33) #[] #[]) := by rw [← hwy]; exact (Blk.new wx 56 opCells).cell 5
  refine hK.out _ _ (⟨⟨cellL hbx hHeld.1.1, cellL hbx hHeld.1.2.1, cellL hbx hHeld.1.2.2.1, cellL hbx hHeld.1.2.2.2⟩, cellL hbx hHeld.2.1, hHeld.2.2.trans (hbx.mono hHeld.2.2.size)⟩) (fun hHeld => ?_)
  clear hK K'
  try simp only [Act.put, List.setIfInBounds_toArray, List.set_cons_zero, List.set_cons_succ]
  refine wpAnyH_weaken (S' := fun w' => ((w'.cell? ⟨w.heap.size, 0, none⟩ = some (.int .i64 (j : Int)) ∧ w'.cell? ⟨w.heap.size, 1, none⟩ = some (.int .i64 3) ∧ w'.cell? ⟨w.heap.size, 2, none⟩ = some (.int .u64 m) ∧ w'.cell? ⟨w.heap.size, 3, none⟩ = some (.int .u64 v)) ∧ w'.cell? ⟨w.heap.size + 1, j, none⟩ = some (.int .u64 xv) ∧ Below W.heap.size W w') ∧ w'.cell? ⟨wx.heap.size, 5, none⟩ = some (.func (.func 33) #[] #[])) (fun _ h => h.1) _ _ _ _ ?_
  have hHeld2 : (fun w' : World => ((w'.cell? ⟨w.heap.size, 0, none⟩ = some (.int .i64 (j : Int)) ∧ w'.cell? ⟨w.heap.size, 1, none⟩ = some (.int .i64 3) ∧ w'.cell? ⟨w.heap.size, 2, none⟩ = some (.int .u64 m) ∧ w'.cell? ⟨w.heap.size, 3, none⟩ = some (.int .u64 v)) ∧ w'.cell? ⟨w.heap.size + 1, j, none⟩ = some (.int .u64 xv) ∧ Below W.heap.size W w') ∧ w'.cell? ⟨wx.heap.size, 5, none⟩ = some (.func (.func 33) #[] #[])) wy := ⟨hHeld, hop⟩
  clear hHeld hbx hop hwy
  refine wpAnyH_take (i := 7) (oi := { dst := some 12, op := Op.indexAddr 53 (Operand.tmp 8) (Operand.tmp 11), type := 0, pos := "cond.go:49", after := #[{ on := 3, ground := Ground.data }, { on := 6, ground := Ground.data }, { on := 2, ground := Ground.guard }], guard := some (2, true) }) (v := ?vk37) rfl (by kernel_rfl) (by kernel_rfl) (by kernel_rfl) (fun _ _ _ h => h) (Or.inl ⟨by rfl, ?hyk37⟩) (by assumption) ?restk37
  case hyk37 =>
    intro w hSw
    try dsimp only at hSw
    try obtain ⟨hSw, hSw2⟩ := hSw
    try go_split_ands
    go_simp
    try with_reducible rfl
  try simp only [Act.put, List.setIfInBounds_toArray, List.set_cons_zero, List.set_cons_succ]
  refine wpAnyH_take (i := 8) (oi := { dst := some 13, op := Op.fieldAddr 56 (Operand.tmp 12) 1, type := 0, pos := "cond.go:49", after := #[{ on := 7, ground := Ground.data }, { on := 2, ground := Ground.guard }], guard := some (2, true) }) (v := ?vk38) rfl (by kernel_rfl) (by kernel_rfl) (by kernel_rfl) (fun _ _ _ h => h) (Or.inl ⟨by rfl, ?hyk38⟩) (by assumption) ?restk38
  case hyk38 =>
    intro w hSw
    try dsimp only at hSw
    try obtain ⟨hSw, hSw2⟩ := hSw
    try go_split_ands
    go_simp
    try with_reducible rfl
  try simp only [Act.put, List.setIfInBounds_toArray, List.set_cons_zero, List.set_cons_succ]
  refine wpAnyH_take (i := 9) (oi := { dst := some 14, op := Op.load 54 (Operand.tmp 13), type := 54, pos := "cond.go:49", after := #[{ on := 8, ground := Ground.data }, { on := 2, ground := Ground.guard }], guard := some (2, true) }) (v := ?vk39) rfl (by kernel_rfl) (by kernel_rfl) (by kernel_rfl) (fun _ _ _ h => h) (Or.inl ⟨by rfl, ?hyk39⟩) (by assumption) ?restk39
  case hyk39 =>
    intro w hSw
    try dsimp only at hSw
    try obtain ⟨hSw, hSw2⟩ := hSw
    try go_split_ands
    go_simp
    try with_reducible rfl
  try simp only [Act.put, List.setIfInBounds_toArray, List.set_cons_zero, List.set_cons_succ]
  refine wpAnyH_ready (rs := [15]) (by kernel_rfl) (by simp) ?_
  refine AllReadyH.cons (o := { dst := some 20, op := Op.call { callee := Callee.value (Operand.tmp 14), args := #[Operand.tmp 18, Operand.tmp 19], argTypes := #[23, 25] }, type := 4, pos := "cond.go:49", after := #[{ on := 9, ground := Ground.data }, { on := 13, ground := Ground.data }, { on := 14, ground := Ground.data }, { on := 3, ground := Ground.chain }, { on := 2, ground := Ground.guard }], guard := some (2, true) }) rfl (fun K' hK => ?_) AllReadyH.nil
  go_simp
  refine (op3_any _ _ _ _ _ _).mono ?_
  rintro e wz ⟨rfl, hbx⟩
  refine hK.out _ _ (⟨⟨⟨cellL hbx hHeld2.1.1.1, cellL hbx hHeld2.1.1.2.1, cellL hbx hHeld2.1.1.2.2.1, cellL hbx hHeld2.1.1.2.2.2⟩, cellL hbx hHeld2.1.2.1, hHeld2.1.2.2.trans (hbx.mono hHeld2.1.2.2.size)⟩, cellL hbx hHeld2.2⟩) (fun hHeld => ?_)
  clear hK K'
  try simp only [Act.put, List.setIfInBounds_toArray, List.set_cons_zero, List.set_cons_succ]
  refine wpAnyH_take (i := 16) (oi := { dst := some 21, op := Op.pick (Operand.tmp 7) (Operand.tmp 20) (Operand.const (Value.bool false)), type := 4, pos := "cond.go:49", after := #[{ on := 2, ground := Ground.data }, { on := 15, ground := Ground.data }], guard := none }) (v := ?vk316) rfl (by kernel_rfl) (by kernel_rfl) (by kernel_rfl) (fun _ _ _ h => h) (Or.inl ⟨by rfl, ?hyk316⟩) (by assumption) ?restk316
  case hyk316 =>
    intro w hSw
    try dsimp only at hSw
    try obtain ⟨hSw, hSw2⟩ := hSw
    try go_split_ands
    go_simp
    try with_reducible rfl
  try simp only [Act.put, List.setIfInBounds_toArray, List.set_cons_zero, List.set_cons_succ]
  refine wpAnyH_take (i := 17) (oi := { dst := some 4, op := Op.assign (Operand.tmp 21), type := 4, pos := "cond.go:49", after := #[{ on := 16, ground := Ground.data }, { on := 15, ground := Ground.chain }, { on := 0, ground := Ground.phase }, { on := 1, ground := Ground.phase }, { on := 2, ground := Ground.phase }, { on := 3, ground := Ground.phase }, { on := 4, ground := Ground.phase }, { on := 5, ground := Ground.phase }, { on := 6, ground := Ground.phase }, { on := 7, ground := Ground.phase }, { on := 8, ground := Ground.phase }, { on := 9, ground := Ground.phase }, { on := 10, ground := Ground.phase }, { on := 11, ground := Ground.phase }, { on := 12, ground := Ground.phase }, { on := 13, ground := Ground.phase }, { on := 14, ground := Ground.phase }, { on := 15, ground := Ground.phase }, { on := 16, ground := Ground.phase }], guard := none }) (v := ?vk317) rfl (by kernel_rfl) (by kernel_rfl) (by kernel_rfl) (fun _ _ _ h => h) (Or.inl ⟨by rfl, ?hyk317⟩) (by assumption) ?restk317
  case hyk317 =>
    intro w hSw
    try dsimp only at hSw
    try obtain ⟨hSw, hSw2⟩ := hSw
    try go_split_ands
    go_simp
    try with_reducible rfl
  try simp only [Act.put, List.setIfInBounds_toArray, List.set_cons_zero, List.set_cons_succ]
  refine wpAnyH_done (by kernel_rfl) ?_ _
  refine NoPanic.normal ?_
  have hfin := hHeld.1.2.2
  go_wp2
  go_ret
  exact ⟨rfl, HB.out.trans (hfin.mono HB.out.size)⟩

set_option maxRecDepth 100000 in
set_option maxHeartbeats 2000000 in
theorem holds_4 (j : Nat) (hj : j ≤ 5) (m v x0 x1 x2 x3 x4 x5 xv : Int) (hx : [x0, x1, x2, x3, x4, x5][j]? = some xv) (hr : condRight j 4 m = true) (w : World) : Calls Tryd.prog 15 #[.agg #[.int .i64 (j : Int), .int .i64 4, .int .u64 m, .int .u64 v], .agg #[.int .u64 x0, .int .u64 x1, .int .u64 x2, .int .u64 x3, .int .u64 x4, .int .u64 x5]] w fun e w' => e = .returned (.bool (opHolds 4 m v xv)) ∧ Below w.heap.size w w' := by
  have hA := (Blk.new w 25 #[.int .i64 (j : Int), .int .i64 4, .int .u64 m, .int .u64 v]).alloc (.cells #[.int .u64 x0, .int .u64 x1, .int .u64 x2, .int .u64 x3, .int .u64 x4, .int .u64 x5] 37)
  have hX := Blk.new (w.alloc (.cells #[.int .i64 (j : Int), .int .i64 4, .int .u64 m, .int .u64 v] 25)) 37 #[.int .u64 x0, .int .u64 x1, .int .u64 x2, .int .u64 x3, .int .u64 x4, .int .u64 x5]
  have hb := ((Below.refl w.heap.size w).alloc (Nat.le_refl _) (.cells #[.int .i64 (j : Int), .int .i64 4, .int .u64 m, .int .u64 v] 25)).alloc (by simp) (.cells #[.int .u64 x0, .int .u64 x1, .int .u64 x2, .int .u64 x3, .int .u64 x4, .int .u64 x5] 37)
  simp only [World.size_alloc] at hX
  have c0 := hA.cell 0
  have c1 := hA.cell 1
  have c2 := hA.cell 2
  have c3 := hA.cell 3
  have cx := hX.cell j
  have ex : (#[.int .u64 x0, .int .u64 x1, .int .u64 x2, .int .u64 x3, .int .u64 x4, .int .u64 x5] : Array Value)[j]? = some (.int .u64 xv) := by
    match j, hj, hx with
    | 0, _, hx => simp at hx; subst hx; rfl
    | 1, _, hx => simp at hx; subst hx; rfl
    | 2, _, hx => simp at hx; subst hx; rfl
    | 3, _, hx => simp at hx; subst hx; rfl
    | 4, _, hx => simp at hx; subst hx; rfl
    | 5, _, hx => simp at hx; subst hx; rfl
  rw [ex] at cx
  simp only [List.getElem?_toArray, List.getElem?_cons_zero, List.getElem?_cons_succ] at c0 c1 c2 c3
  have HB := Lib.hid hb
  have HR := Lib.hid (fun W => right_any j 4 m v W)
  rw [hr] at HR
  have j0 : (0 : Int) ≤ (j : Int) := by omega
  have j6 : (j : Int) < 6 := by omega
  have wk : IntKind.i64.wrap 3 = 3 := by decide
  clear hA hX hb hr hx ex
  go_enter Tryd.func15, Tryd.ntmps15
  go_upto_region 1 with fail
  generalize (w.alloc (.cells #[.int .i64 (j : Int), .int .i64 4, .int .u64 m, .int .u64 v] 25)).alloc (.cells #[.int .u64 x0, .int .u64 x1, .int .u64 x2, .int .u64 x3, .int .u64 x4, .int .u64 x5] 37) = W at *
  refine wp_region_noPanic ?_
  refine wp_region_held_drew (S := fun w' => (w'.cell? ⟨w.heap.size, 0, none⟩ = some (.int .i64 (j : Int)) ∧ w'.cell? ⟨w.heap.size, 1, none⟩ = some (.int .i64 4) ∧ w'.cell? ⟨w.heap.size, 2, none⟩ = some (.int .u64 m) ∧ w'.cell? ⟨w.heap.size, 3, none⟩ = some (.int .u64 v)) ∧ w'.cell? ⟨w.heap.size + 1, j, none⟩ = some (.int .u64 xv) ∧ Below W.heap.size W w') (by kernel_rfl) (by first | exact ⟨⟨c0, c1, c2, c3⟩, cx, (Below.refl _ W).drew⟩ | go_keep) (fun hHeld => ?_)
  refine wpAnyH_take (i := 0) (oi := { dst := some 5, op := Op.load 25 (Operand.tmp 2), type := 25, pos := "cond.go:49", after := #[], guard := none }) (v := ?vk40) rfl (by kernel_rfl) (by kernel_rfl) (by kernel_rfl) (fun _ _ _ h => h) (Or.inl ⟨by rfl, ?hyk40⟩) (by assumption) ?restk40
  case hyk40 =>
    intro w hSw
    try dsimp only at hSw
    try obtain ⟨hSw, hSw2⟩ := hSw
    try go_split_ands
    go_simp
    try with_reducible rfl
  try simp only [Act.put, List.setIfInBounds_toArray, List.set_cons_zero, List.set_cons_succ]
  refine wpAnyH_ready (rs := [1]) (by kernel_rfl) (by simp) ?_
  refine AllReadyH.cons (o := { dst := some 6, op := Op.call { callee := Callee.value (Operand.func 17), args := #[Operand.tmp 5], argTypes := #[25] }, type := 4, pos := "cond.go:49", after := #[{ on := 0, ground := Ground.data }], guard := none }) rfl (fun K' hK => ?_) AllReadyH.nil
  go_simp
  refine (HR.out _).mono ?_
  rintro e wx ⟨rfl, hbx⟩
  refine hK.out _ _ (⟨⟨cellL hbx hHeld.1.1, cellL hbx hHeld.1.2.1, cellL hbx hHeld.1.2.2.1, cellL hbx hHeld.1.2.2.2⟩, cellL hbx hHeld.2.1, hHeld.2.2.trans (hbx.mono hHeld.2.2.size)⟩) (fun hHeld => ?_)
  clear hK K'
  try simp only [Act.put, List.setIfInBounds_toArray, List.set_cons_zero, List.set_cons_succ]
  refine wpAnyH_take (i := 2) (oi := { dst := some 7, op := Op.move (Operand.tmp 6), type := 4, pos := "cond.go:49", after := #[{ on := 1, ground := Ground.data }, { on := 1, ground := Ground.chain }], guard := none }) (v := ?vk42) rfl (by kernel_rfl) (by kernel_rfl) (by kernel_rfl) (fun _ _ _ h => h) (Or.inl ⟨by rfl, ?hyk42⟩) (by assumption) ?restk42
  case hyk42 =>
    intro w hSw
    try dsimp only at hSw
    try obtain ⟨hSw, hSw2⟩ := hSw
    try go_split_ands
    go_simp
    try with_reducible rfl
  try simp only [Act.put, List.setIfInBounds_toArray, List.set_cons_zero, List.set_cons_succ]
  refine wpAnyH_take (i := 4) (oi := { dst := some 9, op := Op.fieldAddr 25 (Operand.tmp 2) 1, type := 0, pos := "cond.go:49", after := #[{ on := 2, ground := Ground.guard }], guard := some (2, true) }) (v := ?vk44) rfl (by kernel_rfl) (by kernel_rfl) (by kernel_rfl) (fun _ _ _ h => h) (Or.inl ⟨by rfl, ?hyk44⟩) (by assumption) ?restk44
  case hyk44 =>
    intro w hSw
    try dsimp only at hSw
    try obtain ⟨hSw, hSw2⟩ := hSw
    try go_split_ands
    go_simp
    try with_reducible rfl
  try simp only [Act.put, List.setIfInBounds_toArray, List.set_cons_zero, List.set_cons_succ]
  refine wpAnyH_take (i := 5) (oi := { dst := some 10, op := Op.load 3 (Operand.tmp 9), type := 3, pos := "cond.go:49", after := #[{ on := 4, ground := Ground.data }, { on := 2, ground := Ground.guard }], guard := some (2, true) }) (v := ?vk45) rfl (by kernel_rfl) (by kernel_rfl) (by kernel_rfl) (fun _ _ _ h => h) (Or.inl ⟨by rfl, ?hyk45⟩) (by assumption) ?restk45
  case hyk45 =>
    intro w hSw
    try dsimp only at hSw
    try obtain ⟨hSw, hSw2⟩ := hSw
    try go_split_ands
    go_simp
    try with_reducible rfl
  try simp only [Act.put, List.setIfInBounds_toArray, List.set_cons_zero, List.set_cons_succ]
  refine wpAnyH_take (i := 6) (oi := { dst := some 11, op := Op.binOp BinOp.sub 3 (Operand.tmp 10) (Operand.const (Value.int IntKind.i64 1)) 3, type := 3, pos := "cond.go:49", after := #[{ on := 5, ground := Ground.data }, { on := 2, ground := Ground.guard }], guard := some (2, true) }) (v := ?vk46) rfl (by kernel_rfl) (by kernel_rfl) (by kernel_rfl) (fun _ _ _ h => h) (Or.inl ⟨by rfl, ?hyk46⟩) (by assumption) ?restk46
  case hyk46 =>
    intro w hSw
    try dsimp only at hSw
    try obtain ⟨hSw, hSw2⟩ := hSw
    try go_split_ands
    go_simp
    try with_reducible rfl
  try simp only [Act.put, List.setIfInBounds_toArray, List.set_cons_zero, List.set_cons_succ]
  refine wpAnyH_take (i := 10) (oi := { dst := some 15, op := Op.fieldAddr 25 (Operand.tmp 2) 0, type := 0, pos := "cond.go:49", after := #[{ on := 2, ground := Ground.guard }], guard := some (2, true) }) (v := ?vk410) rfl (by kernel_rfl) (by kernel_rfl) (by kernel_rfl) (fun _ _ _ h => h) (Or.inl ⟨by rfl, ?hyk410⟩) (by assumption) ?restk410
  case hyk410 =>
    intro w hSw
    try dsimp only at hSw
    try obtain ⟨hSw, hSw2⟩ := hSw
    try go_split_ands
    go_simp
    try with_reducible rfl
  try simp only [Act.put, List.setIfInBounds_toArray, List.set_cons_zero, List.set_cons_succ]
  refine wpAnyH_take (i := 11) (oi := { dst := some 16, op := Op.load 3 (Operand.tmp 15), type := 3, pos := "cond.go:49", after := #[{ on := 10, ground := Ground.data }, { on := 2, ground := Ground.guard }], guard := some (2, true) }) (v := ?vk411) rfl (by kernel_rfl) (by kernel_rfl) (by kernel_rfl) (fun _ _ _ h => h) (Or.inl ⟨by rfl, ?hyk411⟩) (by assumption) ?restk411
  case hyk411 =>
    intro w hSw
    try dsimp only at hSw
    try obtain ⟨hSw, hSw2⟩ := hSw
    try go_split_ands
    go_simp
    try with_reducible rfl
  try simp only [Act.put, List.setIfInBounds_toArray, List.set_cons_zero, List.set_cons_succ]
  refine wpAnyH_take (i := 12) (oi := { dst := some 17, op := Op.indexAddr 37 (Operand.tmp 3) (Operand.tmp 16), type := 0, pos := "cond.go:49", after := #[{ on := 11, ground := Ground.data }, { on := 2, ground := Ground.guard }], guard := some (2, true) }) (v := ?vk412) rfl (by kernel_rfl) (by kernel_rfl) (by kernel_rfl) (fun _ _ _ h => h) (Or.inl ⟨by rfl, ?hyk412⟩) (by assumption) ?restk412
  case hyk412 =>
    intro w hSw
    try dsimp only at hSw
    try obtain ⟨hSw, hSw2⟩ := hSw
    try go_split_ands
    go_simp
    try with_reducible rfl
  try simp only [Act.put, List.setIfInBounds_toArray, List.set_cons_zero, List.set_cons_succ]
  refine wpAnyH_take (i := 13) (oi := { dst := some 18, op := Op.load 23 (Operand.tmp 17), type := 23, pos := "cond.go:49", after := #[{ on := 12, ground := Ground.data }, { on := 2, ground := Ground.guard }], guard := some (2, true) }) (v := ?vk413) rfl (by kernel_rfl) (by kernel_rfl) (by kernel_rfl) (fun _ _ _ h => h) (Or.inl ⟨by rfl, ?hyk413⟩) (by assumption) ?restk413
  case hyk413 =>
    intro w hSw
    try dsimp only at hSw
    try obtain ⟨hSw, hSw2⟩ := hSw
    try go_split_ands
    go_simp
    try with_reducible rfl
  try simp only [Act.put, List.setIfInBounds_toArray, List.set_cons_zero, List.set_cons_succ]
  refine wpAnyH_take (i := 14) (oi := { dst := some 19, op := Op.load 25 (Operand.tmp 2), type := 25, pos := "cond.go:49", after := #[{ on := 2, ground := Ground.guard }], guard := some (2, true) }) (v := ?vk414) rfl (by kernel_rfl) (by kernel_rfl) (by kernel_rfl) (fun _ _ _ h => h) (Or.inl ⟨by rfl, ?hyk414⟩) (by assumption) ?restk414
  case hyk414 =>
    intro w hSw
    try dsimp only at hSw
    try obtain ⟨hSw, hSw2⟩ := hSw
    try go_split_ands
    go_simp
    try with_reducible rfl
  try simp only [Act.put, List.setIfInBounds_toArray, List.set_cons_zero, List.set_cons_succ]
  refine wpAnyH_ready (rs := [3]) (by kernel_rfl) (by simp) ?_
  refine AllReadyH.cons (o := { dst := some 8, op := Op.call { callee := Callee.value (Operand.func 21), args := #[], argTypes := #[] }, type := 53, pos := "cond.go:49", after := #[{ on := 2, ground := Ground.chain }, { on := 2, ground := Ground.guard }], guard := some (2, true) }) rfl (fun K' hK => ?_) AllReadyH.nil
  go_simp
  refine (ops_any _).mono ?_
  rintro e wy ⟨rfl, hwy⟩
  have hbx : Below wx.heap.size wx wy := by rw [← hwy]; exact (Below.refl _ wx).alloc (Nat.le_refl _) _
  have hop : wy.cell? ⟨wx.heap.size, 7, none⟩ = some (.func (.func 34) #[] #[]) := by rw [← hwy]; exact (Blk.new wx 56 opCells).cell 7
  refine hK.out _ _ (⟨⟨cellL hbx hHeld.1.1, cellL hbx hHeld.1.2.1, cellL hbx hHeld.1.2.2.1, cellL hbx hHeld.1.2.2.2⟩, cellL hbx hHeld.2.1, hHeld.2.2.trans (hbx.mono hHeld.2.2.size)⟩) (fun hHeld => ?_)
  clear hK K'
  try simp only [Act.put, List.setIfInBounds_toArray, List.set_cons_zero, List.set_cons_succ]
  refine wpAnyH_weaken (S' := fun w' => ((w'.cell? ⟨w.heap.size, 0, none⟩ = some (.int .i64 (j : Int)) ∧ w'.cell? ⟨w.heap.size, 1, none⟩ = some (.int .i64 4) ∧ w'.cell? ⟨w.heap.size, 2, none⟩ = some (.int .u64 m) ∧ w'.cell? ⟨w.heap.size, 3, none⟩ = some (.int .u64 v)) ∧ w'.cell? ⟨w.heap.size + 1, j, none⟩ = some (.int .u64 xv) ∧ Below W.heap.size W w') ∧ w'.cell? ⟨wx.heap.size, 7, none⟩ = some (.func (.func 34) #[] #[])) (fun _ h => h.1) _ _ _ _ ?_
  have hHeld2 : (fun w' : World => ((w'.cell? ⟨w.heap.size, 0, none⟩ = some (.int .i64 (j : Int)) ∧ w'.cell? ⟨w.heap.size, 1, none⟩ = some (.int .i64 4) ∧ w'.cell? ⟨w.heap.size, 2, none⟩ = some (.int .u64 m) ∧ w'.cell? ⟨w.heap.size, 3, none⟩ = some (.int .u64 v)) ∧ w'.cell? ⟨w.heap.size + 1, j, none⟩ = some (.int .u64 xv) ∧ Below W.heap.size W w') ∧ w'.cell? ⟨wx.heap.size, 7, none⟩ = some (.func (.func 34) #[] #[])) wy := ⟨hHeld, hop⟩
  clear hHeld hbx hop hwy
  refine wpAnyH_take (i := 7) (oi := { dst := some 12, op := Op.indexAddr 53 (Operand.tmp 8) (Operand.tmp 11), type := 0, pos := "cond.go:49", after := #[{ on := 3, ground := Ground.data }, { on := 6, ground := Ground.data }, { on := 2, ground := Ground.guard }], guard := some (2, true) }) (v := ?vk47) rfl (by kernel_rfl) (by kernel_rfl) (by kernel_rfl) (fun _ _ _ h => h) (Or.inl ⟨by rfl, ?hyk47⟩) (by assumption) ?restk47
  case hyk47 =>
    intro w hSw
    try dsimp only at hSw
    try obtain ⟨hSw, hSw2⟩ := hSw
    try go_split_ands
    go_simp
    try with_reducible rfl
  try simp only [Act.put, List.setIfInBounds_toArray, List.set_cons_zero, List.set_cons_succ]
  refine wpAnyH_take (i := 8) (oi := { dst := some 13, op := Op.fieldAddr 56 (Operand.tmp 12) 1, type := 0, pos := "cond.go:49", after := #[{ on := 7, ground := Ground.data }, { on := 2, ground := Ground.guard }], guard := some (2, true) }) (v := ?vk48) rfl (by kernel_rfl) (by kernel_rfl) (by kernel_rfl) (fun _ _ _ h => h) (Or.inl ⟨by rfl, ?hyk48⟩) (by assumption) ?restk48
  case hyk48 =>
    intro w hSw
    try dsimp only at hSw
    try obtain ⟨hSw, hSw2⟩ := hSw
    try go_split_ands
    go_simp
    try with_reducible rfl
  try simp only [Act.put, List.setIfInBounds_toArray, List.set_cons_zero, List.set_cons_succ]
  refine wpAnyH_take (i := 9) (oi := { dst := some 14, op := Op.load 54 (Operand.tmp 13), type := 54, pos := "cond.go:49", after := #[{ on := 8, ground := Ground.data }, { on := 2, ground := Ground.guard }], guard := some (2, true) }) (v := ?vk49) rfl (by kernel_rfl) (by kernel_rfl) (by kernel_rfl) (fun _ _ _ h => h) (Or.inl ⟨by rfl, ?hyk49⟩) (by assumption) ?restk49
  case hyk49 =>
    intro w hSw
    try dsimp only at hSw
    try obtain ⟨hSw, hSw2⟩ := hSw
    try go_split_ands
    go_simp
    try with_reducible rfl
  try simp only [Act.put, List.setIfInBounds_toArray, List.set_cons_zero, List.set_cons_succ]
  refine wpAnyH_ready (rs := [15]) (by kernel_rfl) (by simp) ?_
  refine AllReadyH.cons (o := { dst := some 20, op := Op.call { callee := Callee.value (Operand.tmp 14), args := #[Operand.tmp 18, Operand.tmp 19], argTypes := #[23, 25] }, type := 4, pos := "cond.go:49", after := #[{ on := 9, ground := Ground.data }, { on := 13, ground := Ground.data }, { on := 14, ground := Ground.data }, { on := 3, ground := Ground.chain }, { on := 2, ground := Ground.guard }], guard := some (2, true) }) rfl (fun K' hK => ?_) AllReadyH.nil
  go_simp
  refine (op4_any _ _ _ _ _ _).mono ?_
  rintro e wz ⟨rfl, hbx⟩
  refine hK.out _ _ (⟨⟨⟨cellL hbx hHeld2.1.1.1, cellL hbx hHeld2.1.1.2.1, cellL hbx hHeld2.1.1.2.2.1, cellL hbx hHeld2.1.1.2.2.2⟩, cellL hbx hHeld2.1.2.1, hHeld2.1.2.2.trans (hbx.mono hHeld2.1.2.2.size)⟩, cellL hbx hHeld2.2⟩) (fun hHeld => ?_)
  clear hK K'
  try simp only [Act.put, List.setIfInBounds_toArray, List.set_cons_zero, List.set_cons_succ]
  refine wpAnyH_take (i := 16) (oi := { dst := some 21, op := Op.pick (Operand.tmp 7) (Operand.tmp 20) (Operand.const (Value.bool false)), type := 4, pos := "cond.go:49", after := #[{ on := 2, ground := Ground.data }, { on := 15, ground := Ground.data }], guard := none }) (v := ?vk416) rfl (by kernel_rfl) (by kernel_rfl) (by kernel_rfl) (fun _ _ _ h => h) (Or.inl ⟨by rfl, ?hyk416⟩) (by assumption) ?restk416
  case hyk416 =>
    intro w hSw
    try dsimp only at hSw
    try obtain ⟨hSw, hSw2⟩ := hSw
    try go_split_ands
    go_simp
    try with_reducible rfl
  try simp only [Act.put, List.setIfInBounds_toArray, List.set_cons_zero, List.set_cons_succ]
  refine wpAnyH_take (i := 17) (oi := { dst := some 4, op := Op.assign (Operand.tmp 21), type := 4, pos := "cond.go:49", after := #[{ on := 16, ground := Ground.data }, { on := 15, ground := Ground.chain }, { on := 0, ground := Ground.phase }, { on := 1, ground := Ground.phase }, { on := 2, ground := Ground.phase }, { on := 3, ground := Ground.phase }, { on := 4, ground := Ground.phase }, { on := 5, ground := Ground.phase }, { on := 6, ground := Ground.phase }, { on := 7, ground := Ground.phase }, { on := 8, ground := Ground.phase }, { on := 9, ground := Ground.phase }, { on := 10, ground := Ground.phase }, { on := 11, ground := Ground.phase }, { on := 12, ground := Ground.phase }, { on := 13, ground := Ground.phase }, { on := 14, ground := Ground.phase }, { on := 15, ground := Ground.phase }, { on := 16, ground := Ground.phase }], guard := none }) (v := ?vk417) rfl (by kernel_rfl) (by kernel_rfl) (by kernel_rfl) (fun _ _ _ h => h) (Or.inl ⟨by rfl, ?hyk417⟩) (by assumption) ?restk417
  case hyk417 =>
    intro w hSw
    try dsimp only at hSw
    try obtain ⟨hSw, hSw2⟩ := hSw
    try go_split_ands
    go_simp
    try with_reducible rfl
  try simp only [Act.put, List.setIfInBounds_toArray, List.set_cons_zero, List.set_cons_succ]
  refine wpAnyH_done (by kernel_rfl) ?_ _
  refine NoPanic.normal ?_
  have hfin := hHeld.1.2.2
  go_wp2
  go_ret
  exact ⟨rfl, HB.out.trans (hfin.mono HB.out.size)⟩

set_option maxRecDepth 100000 in
set_option maxHeartbeats 2000000 in
theorem holds_5 (j : Nat) (hj : j ≤ 5) (m v x0 x1 x2 x3 x4 x5 xv : Int) (hx : [x0, x1, x2, x3, x4, x5][j]? = some xv) (hr : condRight j 5 m = true) (w : World) : Calls Tryd.prog 15 #[.agg #[.int .i64 (j : Int), .int .i64 5, .int .u64 m, .int .u64 v], .agg #[.int .u64 x0, .int .u64 x1, .int .u64 x2, .int .u64 x3, .int .u64 x4, .int .u64 x5]] w fun e w' => e = .returned (.bool (opHolds 5 m v xv)) ∧ Below w.heap.size w w' := by
  have hA := (Blk.new w 25 #[.int .i64 (j : Int), .int .i64 5, .int .u64 m, .int .u64 v]).alloc (.cells #[.int .u64 x0, .int .u64 x1, .int .u64 x2, .int .u64 x3, .int .u64 x4, .int .u64 x5] 37)
  have hX := Blk.new (w.alloc (.cells #[.int .i64 (j : Int), .int .i64 5, .int .u64 m, .int .u64 v] 25)) 37 #[.int .u64 x0, .int .u64 x1, .int .u64 x2, .int .u64 x3, .int .u64 x4, .int .u64 x5]
  have hb := ((Below.refl w.heap.size w).alloc (Nat.le_refl _) (.cells #[.int .i64 (j : Int), .int .i64 5, .int .u64 m, .int .u64 v] 25)).alloc (by simp) (.cells #[.int .u64 x0, .int .u64 x1, .int .u64 x2, .int .u64 x3, .int .u64 x4, .int .u64 x5] 37)
  simp only [World.size_alloc] at hX
  have c0 := hA.cell 0
  have c1 := hA.cell 1
  have c2 := hA.cell 2
  have c3 := hA.cell 3
  have cx := hX.cell j
  have ex : (#[.int .u64 x0, .int .u64 x1, .int .u64 x2, .int .u64 x3, .int .u64 x4, .int .u64 x5] : Array Value)[j]? = some (.int .u64 xv) := by
    match j, hj, hx with
    | 0, _, hx => simp at hx; subst hx; rfl
    | 1, _, hx => simp at hx; subst hx; rfl
    | 2, _, hx => simp at hx; subst hx; rfl
    | 3, _, hx => simp at hx; subst hx; rfl
    | 4, _, hx => simp at hx; subst hx; rfl
    | 5, _, hx => simp at hx; subst hx; rfl
  rw [ex] at cx
  simp only [List.getElem?_toArray, List.getElem?_cons_zero, List.getElem?_cons_succ] at c0 c1 c2 c3
  have HB := Lib.hid hb
  have HR := Lib.hid (fun W => right_any j 5 m v W)
  rw [hr] at HR
  have j0 : (0 : Int) ≤ (j : Int) := by omega
  have j6 : (j : Int) < 6 := by omega
  have wk : IntKind.i64.wrap 4 = 4 := by decide
  clear hA hX hb hr hx ex
  go_enter Tryd.func15, Tryd.ntmps15
  go_upto_region 1 with fail
  generalize (w.alloc (.cells #[.int .i64 (j : Int), .int .i64 5, .int .u64 m, .int .u64 v] 25)).alloc (.cells #[.int .u64 x0, .int .u64 x1, .int .u64 x2, .int .u64 x3, .int .u64 x4, .int .u64 x5] 37) = W at *
  refine wp_region_noPanic ?_
  refine wp_region_held_drew (S := fun w' => (w'.cell? ⟨w.heap.size, 0, none⟩ = some (.int .i64 (j : Int)) ∧ w'.cell? ⟨w.heap.size, 1, none⟩ = some (.int .i64 5) ∧ w'.cell? ⟨w.heap.size, 2, none⟩ = some (.int .u64 m) ∧ w'.cell? ⟨w.heap.size, 3, none⟩ = some (.int .u64 v)) ∧ w'.cell? ⟨w.heap.size + 1, j, none⟩ = some (.int .u64 xv) ∧ Below W.heap.size W w') (by kernel_rfl) (by first | exact ⟨⟨c0, c1, c2, c3⟩, cx, (Below.refl _ W).drew⟩ | go_keep) (fun hHeld => ?_)
  refine wpAnyH_take (i := 0) (oi := { dst := some 5, op := Op.load 25 (Operand.tmp 2), type := 25, pos := "cond.go:49", after := #[], guard := none }) (v := ?vk50) rfl (by kernel_rfl) (by kernel_rfl) (by kernel_rfl) (fun _ _ _ h => h) (Or.inl ⟨by rfl, ?hyk50⟩) (by assumption) ?restk50
  case hyk50 =>
    intro w hSw
    try dsimp only at hSw
    try obtain ⟨hSw, hSw2⟩ := hSw
    try go_split_ands
    go_simp
    try with_reducible rfl
  try simp only [Act.put, List.setIfInBounds_toArray, List.set_cons_zero, List.set_cons_succ]
  refine wpAnyH_ready (rs := [1]) (by kernel_rfl) (by simp) ?_
  refine AllReadyH.cons (o := { dst := some 6, op := Op.call { callee := Callee.value (Operand.func 17), args := #[Operand.tmp 5], argTypes := #[25] }, type := 4, pos := "cond.go:49", after := #[{ on := 0, ground := Ground.data }], guard := none }) rfl (fun K' hK => ?_) AllReadyH.nil
  go_simp
  refine (HR.out _).mono ?_
  rintro e wx ⟨rfl, hbx⟩
  refine hK.out _ _ (⟨⟨cellL hbx hHeld.1.1, cellL hbx hHeld.1.2.1, cellL hbx hHeld.1.2.2.1, cellL hbx hHeld.1.2.2.2⟩, cellL hbx hHeld.2.1, hHeld.2.2.trans (hbx.mono hHeld.2.2.size)⟩) (fun hHeld => ?_)
  clear hK K'
  try simp only [Act.put, List.setIfInBounds_toArray, List.set_cons_zero, List.set_cons_succ]
  refine wpAnyH_take (i := 2) (oi := { dst := some 7, op := Op.move (Operand.tmp 6), type := 4, pos := "cond.go:49", after := #[{ on := 1, ground := Ground.data }, { on := 1, ground := Ground.chain }], guard := none }) (v := ?vk52) rfl (by kernel_rfl) (by kernel_rfl) (by kernel_rfl) (fun _ _ _ h => h) (Or.inl ⟨by rfl, ?hyk52⟩) (by assumption) ?restk52
  case hyk52 =>
    intro w hSw
    try dsimp only at hSw
    try obtain ⟨hSw, hSw2⟩ := hSw
    try go_split_ands
    go_simp
    try with_reducible rfl
  try simp only [Act.put, List.setIfInBounds_toArray, List.set_cons_zero, List.set_cons_succ]
  refine wpAnyH_take (i := 4) (oi := { dst := some 9, op := Op.fieldAddr 25 (Operand.tmp 2) 1, type := 0, pos := "cond.go:49", after := #[{ on := 2, ground := Ground.guard }], guard := some (2, true) }) (v := ?vk54) rfl (by kernel_rfl) (by kernel_rfl) (by kernel_rfl) (fun _ _ _ h => h) (Or.inl ⟨by rfl, ?hyk54⟩) (by assumption) ?restk54
  case hyk54 =>
    intro w hSw
    try dsimp only at hSw
    try obtain ⟨hSw, hSw2⟩ := hSw
    try go_split_ands
    go_simp
    try with_reducible rfl
  try simp only [Act.put, List.setIfInBounds_toArray, List.set_cons_zero, List.set_cons_succ]
  refine wpAnyH_take (i := 5) (oi := { dst := some 10, op := Op.load 3 (Operand.tmp 9), type := 3, pos := "cond.go:49", after := #[{ on := 4, ground := Ground.data }, { on := 2, ground := Ground.guard }], guard := some (2, true) }) (v := ?vk55) rfl (by kernel_rfl) (by kernel_rfl) (by kernel_rfl) (fun _ _ _ h => h) (Or.inl ⟨by rfl, ?hyk55⟩) (by assumption) ?restk55
  case hyk55 =>
    intro w hSw
    try dsimp only at hSw
    try obtain ⟨hSw, hSw2⟩ := hSw
    try go_split_ands
    go_simp
    try with_reducible rfl
  try simp only [Act.put, List.setIfInBounds_toArray, List.set_cons_zero, List.set_cons_succ]
  refine wpAnyH_take (i := 6) (oi := { dst := some 11, op := Op.binOp BinOp.sub 3 (Operand.tmp 10) (Operand.const (Value.int IntKind.i64 1)) 3, type := 3, pos := "cond.go:49", after := #[{ on := 5, ground := Ground.data }, { on := 2, ground := Ground.guard }], guard := some (2, true) }) (v := ?vk56) rfl (by kernel_rfl) (by kernel_rfl) (by kernel_rfl) (fun _ _ _ h => h) (Or.inl ⟨by rfl, ?hyk56⟩) (by assumption) ?restk56
  case hyk56 =>
    intro w hSw
    try dsimp only at hSw
    try obtain ⟨hSw, hSw2⟩ := hSw
    try go_split_ands
    go_simp
    try with_reducible rfl
  try simp only [Act.put, List.setIfInBounds_toArray, List.set_cons_zero, List.set_cons_succ]
  refine wpAnyH_take (i := 10) (oi := { dst := some 15, op := Op.fieldAddr 25 (Operand.tmp 2) 0, type := 0, pos := "cond.go:49", after := #[{ on := 2, ground := Ground.guard }], guard := some (2, true) }) (v := ?vk510) rfl (by kernel_rfl) (by kernel_rfl) (by kernel_rfl) (fun _ _ _ h => h) (Or.inl ⟨by rfl, ?hyk510⟩) (by assumption) ?restk510
  case hyk510 =>
    intro w hSw
    try dsimp only at hSw
    try obtain ⟨hSw, hSw2⟩ := hSw
    try go_split_ands
    go_simp
    try with_reducible rfl
  try simp only [Act.put, List.setIfInBounds_toArray, List.set_cons_zero, List.set_cons_succ]
  refine wpAnyH_take (i := 11) (oi := { dst := some 16, op := Op.load 3 (Operand.tmp 15), type := 3, pos := "cond.go:49", after := #[{ on := 10, ground := Ground.data }, { on := 2, ground := Ground.guard }], guard := some (2, true) }) (v := ?vk511) rfl (by kernel_rfl) (by kernel_rfl) (by kernel_rfl) (fun _ _ _ h => h) (Or.inl ⟨by rfl, ?hyk511⟩) (by assumption) ?restk511
  case hyk511 =>
    intro w hSw
    try dsimp only at hSw
    try obtain ⟨hSw, hSw2⟩ := hSw
    try go_split_ands
    go_simp
    try with_reducible rfl
  try simp only [Act.put, List.setIfInBounds_toArray, List.set_cons_zero, List.set_cons_succ]
  refine wpAnyH_take (i := 12) (oi := { dst := some 17, op := Op.indexAddr 37 (Operand.tmp 3) (Operand.tmp 16), type := 0, pos := "cond.go:49", after := #[{ on := 11, ground := Ground.data }, { on := 2, ground := Ground.guard }], guard := some (2, true) }) (v := ?vk512) rfl (by kernel_rfl) (by kernel_rfl) (by kernel_rfl) (fun _ _ _ h => h) (Or.inl ⟨by rfl, ?hyk512⟩) (by assumption) ?restk512
  case hyk512 =>
    intro w hSw
    try dsimp only at hSw
    try obtain ⟨hSw, hSw2⟩ := hSw
    try go_split_ands
    go_simp
    try with_reducible rfl
  try simp only [Act.put, List.setIfInBounds_toArray, List.set_cons_zero, List.set_cons_succ]
  refine wpAnyH_take (i := 13) (oi := { dst := some 18, op := Op.load 23 (Operand.tmp 17), type := 23, pos := "cond.go:49", after := #[{ on := 12, ground := Ground.data }, { on := 2, ground := Ground.guard }], guard := some (2, true) }) (v := ?vk513) rfl (by kernel_rfl) (by kernel_rfl) (by kernel_rfl) (fun _ _ _ h => h) (Or.inl ⟨by rfl, ?hyk513⟩) (by assumption) ?restk513
  case hyk513 =>
    intro w hSw
    try dsimp only at hSw
    try obtain ⟨hSw, hSw2⟩ := hSw
    try go_split_ands
    go_simp
    try with_reducible rfl
  try simp only [Act.put, List.setIfInBounds_toArray, List.set_cons_zero, List.set_cons_succ]
  refine wpAnyH_take (i := 14) (oi := { dst := some 19, op := Op.load 25 (Operand.tmp 2), type := 25, pos := "cond.go:49", after := #[{ on := 2, ground := Ground.guard }], guard := some (2, true) }) (v := ?vk514) rfl (by kernel_rfl) (by kernel_rfl) (by kernel_rfl) (fun _ _ _ h => h) (Or.inl ⟨by rfl, ?hyk514⟩) (by assumption) ?restk514
  case hyk514 =>
    intro w hSw
    try dsimp only at hSw
    try obtain ⟨hSw, hSw2⟩ := hSw
    try go_split_ands
    go_simp
    try with_reducible rfl
  try simp only [Act.put, List.setIfInBounds_toArray, List.set_cons_zero, List.set_cons_succ]
  refine wpAnyH_ready (rs := [3]) (by kernel_rfl) (by simp) ?_
  refine AllReadyH.cons (o := { dst := some 8, op := Op.call { callee := Callee.value (Operand.func 21), args := #[], argTypes := #[] }, type := 53, pos := "cond.go:49", after := #[{ on := 2, ground := Ground.chain }, { on := 2, ground := Ground.guard }], guard := some (2, true) }) rfl (fun K' hK => ?_) AllReadyH.nil
  go_simp
  refine (ops_any _).mono ?_
  rintro e wy ⟨rfl, hwy⟩
  have hbx : Below wx.heap.size wx wy := by rw [← hwy]; exact (Below.refl _ wx).alloc (Nat.le_refl _) _
  have hop : wy.cell? ⟨wx.heap.size, 9, none⟩ = some (.func (.func 35) #[] #[]) := by rw [← hwy]; exact (Blk.new wx 56 opCells).cell 9
  refine hK.out _ _ (⟨⟨cellL hbx hHeld.1.1, cellL hbx hHeld.1.2.1, cellL hbx hHeld.1.2.2.1, cellL hbx hHeld.1.2.2.2⟩, cellL hbx hHeld.2.1, hHeld.2.2.trans (hbx.mono hHeld.2.2.size)⟩) (fun hHeld => ?_)
  clear hK K'
  try simp only [Act.put, List.setIfInBounds_toArray, List.set_cons_zero, List.set_cons_succ]
  refine wpAnyH_weaken (S' := fun w' => ((w'.cell? ⟨w.heap.size, 0, none⟩ = some (.int .i64 (j : Int)) ∧ w'.cell? ⟨w.heap.size, 1, none⟩ = some (.int .i64 5) ∧ w'.cell? ⟨w.heap.size, 2, none⟩ = some (.int .u64 m) ∧ w'.cell? ⟨w.heap.size, 3, none⟩ = some (.int .u64 v)) ∧ w'.cell? ⟨w.heap.size + 1, j, none⟩ = some (.int .u64 xv) ∧ Below W.heap.size W w') ∧ w'.cell? ⟨wx.heap.size, 9, none⟩ = some (.func (.func 35) #[] #[])) (fun _ h => h.1) _ _ _ _ ?_
  have hHeld2 : (fun w' : World => ((w'.cell? ⟨w.heap.size, 0, none⟩ = some (.int .i64 (j : Int)) ∧ w'.cell? ⟨w.heap.size, 1, none⟩ = some (.int .i64 5) ∧ w'.cell? ⟨w.heap.size, 2, none⟩ = some (.int .u64 m) ∧ w'.cell? ⟨w.heap.size, 3, none⟩ = some (.int .u64 v)) ∧ w'.cell? ⟨w.heap.size + 1, j, none⟩ = some (.int .u64 xv) ∧ Below W.heap.size W w') ∧ w'.cell? ⟨wx.heap.size, 9, none⟩ = some (.func (.func 35) #[] #[])) wy := ⟨hHeld, hop⟩
  clear hHeld hbx hop hwy
  refine wpAnyH_take (i := 7) (oi := { dst := some 12, op := Op.indexAddr 53 (Operand.tmp 8) (Operand.tmp 11), type := 0, pos := "cond.go:49", after := #[{ on := 3, ground := Ground.data }, { on := 6, ground := Ground.data }, { on := 2, ground := Ground.guard }], guard := some (2, true) }) (v := ?vk57) rfl (by kernel_rfl) (by kernel_rfl) (by kernel_rfl) (fun _ _ _ h => h) (Or.inl ⟨by rfl, ?hyk57⟩) (by assumption) ?restk57
  case hyk57 =>
    intro w hSw
    try dsimp only at hSw
    try obtain ⟨hSw, hSw2⟩ := hSw
    try go_split_ands
    go_simp
    try with_reducible rfl
  try simp only [Act.put, List.setIfInBounds_toArray, List.set_cons_zero, List.set_cons_succ]
  refine wpAnyH_take (i := 8) (oi := { dst := some 13, op := Op.fieldAddr 56 (Operand.tmp 12) 1, type := 0, pos := "cond.go:49", after := #[{ on := 7, ground := Ground.data }, { on := 2, ground := Ground.guard }], guard := some (2, true) }) (v := ?vk58) rfl (by kernel_rfl) (by kernel_rfl) (by kernel_rfl) (fun _ _ _ h => h) (Or.inl ⟨by rfl, ?hyk58⟩) (by assumption) ?restk58
  case hyk58 =>
    intro w hSw
    try dsimp only at hSw
    try obtain ⟨hSw, hSw2⟩ := hSw
    try go_split_ands
    go_simp
    try with_reducible rfl
  try simp only [Act.put, List.setIfInBounds_toArray, List.set_cons_zero, List.set_cons_succ]
  refine wpAnyH_take (i := 9) (oi := { dst := some 14, op := Op.load 54 (Operand.tmp 13), type := 54, pos := "cond.go:49", after := #[{ on := 8, ground := Ground.data }, { on := 2, ground := Ground.guard }], guard := some (2, true) }) (v := ?vk59) rfl (by kernel_rfl) (by kernel_rfl) (by kernel_rfl) (fun _ _ _ h => h) (Or.inl ⟨by rfl, ?hyk59⟩) (by assumption) ?restk59
  case hyk59 =>
    intro w hSw
    try dsimp only at hSw
    try obtain ⟨hSw, hSw2⟩ := hSw
    try go_split_ands
    go_simp
    try with_reducible rfl
  try simp only [Act.put, List.setIfInBounds_toArray, List.set_cons_zero, List.set_cons_succ]
  refine wpAnyH_ready (rs := [15]) (by kernel_rfl) (by simp) ?_
  refine AllReadyH.cons (o := { dst := some 20, op := Op.call { callee := Callee.value (Operand.tmp 14), args := #[Operand.tmp 18, Operand.tmp 19], argTypes := #[23, 25] }, type := 4, pos := "cond.go:49", after := #[{ on := 9, ground := Ground.data }, { on := 13, ground := Ground.data }, { on := 14, ground := Ground.data }, { on := 3, ground := Ground.chain }, { on := 2, ground := Ground.guard }], guard := some (2, true) }) rfl (fun K' hK => ?_) AllReadyH.nil
  go_simp
  refine (op5_any _ _ _ _ _ _).mono ?_
  rintro e wz ⟨rfl, hbx⟩
  refine hK.out _ _ (⟨⟨⟨cellL hbx hHeld2.1.1.1, cellL hbx hHeld2.1.1.2.1, cellL hbx hHeld2.1.1.2.2.1, cellL hbx hHeld2.1.1.2.2.2⟩, cellL hbx hHeld2.1.2.1, hHeld2.1.2.2.trans (hbx.mono hHeld2.1.2.2.size)⟩, cellL hbx hHeld2.2⟩) (fun hHeld => ?_)
  clear hK K'
  try simp only [Act.put, List.setIfInBounds_toArray, List.set_cons_zero, List.set_cons_succ]
  refine wpAnyH_take (i := 16) (oi := { dst := some 21, op := Op.pick (Operand.tmp 7) (Operand.tmp 20) (Operand.const (Value.bool false)), type := 4, pos := "cond.go:49", after := #[{ on := 2, ground := Ground.data }, { on := 15, ground := Ground.data }], guard := none }) (v := ?vk516) rfl (by kernel_rfl) (by kernel_rfl) (by kernel_rfl) (fun _ _ _ h => h) (Or.inl ⟨by rfl, ?hyk516⟩) (by assumption) ?restk516
  case hyk516 =>
    intro w hSw
    try dsimp only at hSw
    try obtain ⟨hSw, hSw2⟩ := hSw
    try go_split_ands
    go_simp
    try with_reducible rfl
  try simp only [Act.put, List.setIfInBounds_toArray, List.set_cons_zero, List.set_cons_succ]
  refine wpAnyH_take (i := 17) (oi := { dst := some 4, op := Op.assign (Operand.tmp 21), type := 4, pos := "cond.go:49", after := #[{ on := 16, ground := Ground.data }, { on := 15, ground := Ground.chain }, { on := 0, ground := Ground.phase }, { on := 1, ground := Ground.phase }, { on := 2, ground := Ground.phase }, { on := 3, ground := Ground.phase }, { on := 4, ground := Ground.phase }, { on := 5, ground := Ground.phase }, { on := 6, ground := Ground.phase }, { on := 7, ground := Ground.phase }, { on := 8, ground := Ground.phase }, { on := 9, ground := Ground.phase }, { on := 10, ground := Ground.phase }, { on := 11, ground := Ground.phase }, { on := 12, ground := Ground.phase }, { on := 13, ground := Ground.phase }, { on := 14, ground := Ground.phase }, { on := 15, ground := Ground.phase }, { on := 16, ground := Ground.phase }], guard := none }) (v := ?vk517) rfl (by kernel_rfl) (by kernel_rfl) (by kernel_rfl) (fun _ _ _ h => h) (Or.inl ⟨by rfl, ?hyk517⟩) (by assumption) ?restk517
  case hyk517 =>
    intro w hSw
    try dsimp only at hSw
    try obtain ⟨hSw, hSw2⟩ := hSw
    try go_split_ands
    go_simp
    try with_reducible rfl
  try simp only [Act.put, List.setIfInBounds_toArray, List.set_cons_zero, List.set_cons_succ]
  refine wpAnyH_done (by kernel_rfl) ?_ _
  refine NoPanic.normal ?_
  have hfin := hHeld.1.2.2
  go_wp2
  go_ret
  exact ⟨rfl, HB.out.trans (hfin.mono HB.out.size)⟩

set_option maxRecDepth 100000 in
set_option maxHeartbeats 2000000 in
theorem holds_6 (j : Nat) (hj : j ≤ 5) (m v x0 x1 x2 x3 x4 x5 xv : Int) (hx : [x0, x1, x2, x3, x4, x5][j]? = some xv) (hr : condRight j 6 m = true) (w : World) : Calls Tryd.prog 15 #[.agg #[.int .i64 (j : Int), .int .i64 6, .int .u64 m, .int .u64 v], .agg #[.int .u64 x0, .int .u64 x1, .int .u64 x2, .int .u64 x3, .int .u64 x4, .int .u64 x5]] w fun e w' => e = .returned (.bool (opHolds 6 m v xv)) ∧ Below w.heap.size w w' := by
  have hA := (Blk.new w 25 #[.int .i64 (j : Int), .int .i64 6, .int .u64 m, .int .u64 v]).alloc (.cells #[.int .u64 x0, .int .u64 x1, .int .u64 x2, .int .u64 x3, .int .u64 x4, .int .u64 x5] 37)
  have hX := Blk.new (w.alloc (.cells #[.int .i64 (j : Int), .int .i64 6, .int .u64 m, .int .u64 v] 25)) 37 #[.int .u64 x0, .int .u64 x1, .int .u64 x2, .int .u64 x3, .int .u64 x4, .int .u64 x5]
  have hb := ((Below.refl w.heap.size w).alloc (Nat.le_refl _) (.cells #[.int .i64 (j : Int), .int .i64 6, .int .u64 m, .int .u64 v] 25)).alloc (by simp) (.cells #[.int .u64 x0, .int .u64 x1, .int .u64 x2, .int .u64 x3, .int .u64 x4, .int .u64 x5] 37)
  simp only [World.size_alloc] at hX
  have c0 := hA.cell 0
  have c1 := hA.cell 1
  have c2 := hA.cell 2
  have c3 := hA.cell 3
  have cx := hX.cell j
  have ex : (#[.int .u64 x0, .int .u64 x1, .int .u64 x2, .int .u64 x3, .int .u64 x4, .int .u64 x5] : Array Value)[j]? = some (.int .u64 xv) := by
    match j, hj, hx with
    | 0, _, hx => simp at hx; subst hx; rfl
    | 1, _, hx => simp at hx; subst hx; rfl
    | 2, _, hx => simp at hx; subst hx; rfl
    | 3, _, hx => simp at hx; subst hx; rfl
    | 4, _, hx => simp at hx; subst hx; rfl
    | 5, _, hx => simp at hx; subst hx; rfl
  rw [ex] at cx
  simp only [List.getElem?_toArray, List.getElem?_cons_zero, List.getElem?_cons_succ] at c0 c1 c2 c3
  have HB := Lib.hid hb
  have HR := Lib.hid (fun W => right_any j 6 m v W)
  rw [hr] at HR
  have j0 : (0 : Int) ≤ (j : Int) := by omega
  have j6 : (j : Int) < 6 := by omega
  have wk : IntKind.i64.wrap 5 = 5 := by decide
  clear hA hX hb hr hx ex
  go_enter Tryd.func15, Tryd.ntmps15
  go_upto_region 1 with fail
  generalize (w.alloc (.cells #[.int .i64 (j : Int), .int .i64 6, .int .u64 m, .int .u64 v] 25)).alloc (.cells #[.int .u64 x0, .int .u64 x1, .int .u64 x2, .int .u64 x3, .int .u64 x4, .int .u64 x5] 37) = W at *
  refine wp_region_noPanic ?_
  refine wp_region_held_drew (S := fun w' => (w'.cell? ⟨w.heap.size, 0, none⟩ = some (.int .i64 (j : Int)) ∧ w'.cell? ⟨w.heap.size, 1, none⟩ = some (.int .i64 6) ∧ w'.cell? ⟨w.heap.size, 2, none⟩ = some (.int .u64 m) ∧ w'.cell? ⟨w.heap.size, 3, none⟩ = some (.int .u64 v)) ∧ w'.cell? ⟨w.heap.size + 1, j, none⟩ = some (.int .u64 xv) ∧ Below W.heap.size W w') (by kernel_rfl) (by first | exact ⟨⟨c0, c1, c2, c3⟩, cx, (Below.refl _ W).drew⟩ | go_keep) (fun hHeld => ?_)
  refine wpAnyH_take (i := 0) (oi := { dst := some 5, op := Op.load 25 (Operand.tmp 2), type := 25, pos := "cond.go:49", after := #[], guard := none }) (v := ?vk60) rfl (by kernel_rfl) (by kernel_rfl) (by kernel_rfl) (fun _ _ _ h => h) (Or.inl ⟨by rfl, ?hyk60⟩) (by assumption) ?restk60
  case hyk60 =>
    intro w hSw
    try dsimp only at hSw
    try obtain ⟨hSw, hSw2⟩ := hSw
    try go_split_ands
    go_simp
    try with_reducible rfl
  try simp only [Act.put, List.setIfInBounds_toArray, List.set_cons_zero, List.set_cons_succ]
  refine wpAnyH_ready (rs := [1]) (by kernel_rfl) (by simp) ?_
  refine AllReadyH.cons (o := { dst := some 6, op := Op.call { callee := Callee.value (Operand.func 17), args := #[Operand.tmp 5], argTypes := #[25] }, type := 4, pos := "cond.go:49", after := #[{ on := 0, ground := Ground.data }], guard := none }) rfl (fun K' hK => ?_) AllReadyH.nil
  go_simp
  refine (HR.out _).mono ?_
  rintro e wx ⟨rfl, hbx⟩
  refine hK.out _ _ (⟨⟨cellL hbx hHeld.1.1, cellL hbx hHeld.1.2.1, cellL hbx hHeld.1.2.2.1, cellL hbx hHeld.1.2.2.2⟩, cellL hbx hHeld.2.1, hHeld.2.2.trans (hbx.mono hHeld.2.2.size)⟩) (fun hHeld => ?_)
  clear hK K'
  try simp only [Act.put, List.setIfInBounds_toArray, List.set_cons_zero, List.set_cons_succ]
  refine wpAnyH_take (i := 2) (oi := { dst := some 7, op := Op.move (Operand.tmp 6), type := 4, pos := "cond.go:49", after := #[{ on := 1, ground := Ground.data }, { on := 1, ground := Ground.chain }], guard := none }) (v := ?vk62) rfl (by kernel_rfl) (by kernel_rfl) (by kernel_rfl) (fun _ _ _ h => h) (Or.inl ⟨by rfl, ?hyk62⟩) (by assumption) ?restk62
  case hyk62 =>
    intro w hSw
    try dsimp only at hSw
    try obtain ⟨hSw, hSw2⟩ := hSw
    try go_split_ands
    go_simp
    try with_reducible rfl
  try simp only [Act.put, List.setIfInBounds_toArray, List.set_cons_zero, List.set_cons_succ]
  refine wpAnyH_take (i := 4) (oi := { dst := some 9, op := Op.fieldAddr 25 (Operand.tmp 2) 1, type := 0, pos := "cond.go:49", after := #[{ on := 2, ground := Ground.guard }], guard := some (2, true) }) (v := ?vk64) rfl (by kernel_rfl) (by kernel_rfl) (by kernel_rfl) (fun _ _ _ h => h) (Or.inl ⟨by rfl, ?hyk64⟩) (by assumption) ?restk64
  case hyk64 =>
    intro w hSw
    try dsimp only at hSw
    try obtain ⟨hSw, hSw2⟩ := hSw
    try go_split_ands
    go_simp
    try with_reducible rfl
  try simp only [Act.put, List.setIfInBounds_toArray, List.set_cons_zero, List.set_cons_succ]
  refine wpAnyH_take (i := 5) (oi := { dst := some 10, op := Op.load 3 (Operand.tmp 9), type := 3, pos := "cond.go:49", after := #[{ on := 4, ground := Ground.data }, { on := 2, ground := Ground.guard }], guard := some (2, true) }) (v := ?vk65) rfl (by kernel_rfl) (by kernel_rfl) (by kernel_rfl) (fun _ _ _ h => h) (Or.inl ⟨by rfl, ?hyk65⟩) (by assumption) ?restk65
  case hyk65 =>
    intro w hSw
    try dsimp only at hSw
    try obtain ⟨hSw, hSw2⟩ := hSw
    try go_split_ands
    go_simp
    try with_reducible rfl
  try simp only [Act.put, List.setIfInBounds_toArray, List.set_cons_zero, List.set_cons_succ]
  refine wpAnyH_take (i := 6) (oi := { dst := some 11, op := Op.binOp BinOp.sub 3 (Operand.tmp 10) (Operand.const (Value.int IntKind.i64 1)) 3, type := 3, pos := "cond.go:49", after := #[{ on := 5, ground := Ground.data }, { on := 2, ground := Ground.guard }], guard := some (2, true) }) (v := ?vk66) rfl (by kernel_rfl) (by kernel_rfl) (by kernel_rfl) (fun _ _ _ h => h) (Or.inl ⟨by rfl, ?hyk66⟩) (by assumption) ?restk66
  case hyk66 =>
    intro w hSw
    try dsimp only at hSw
    try obtain ⟨hSw, hSw2⟩ := hSw
    try go_split_ands
    go_simp
    try with_reducible rfl
  try simp only [Act.put, List.setIfInBounds_toArray, List.set_cons_zero, List.set_cons_succ]
  refine wpAnyH_take (i := 10) (oi := { dst := some 15, op := Op.fieldAddr 25 (Operand.tmp 2) 0, type := 0, pos := "cond.go:49", after := #[{ on := 2, ground := Ground.guard }], guard := some (2, true) }) (v := ?vk610) rfl (by kernel_rfl) (by kernel_rfl) (by kernel_rfl) (fun _ _ _ h => h) (Or.inl ⟨by rfl, ?hyk610⟩) (by assumption) ?restk610
  case hyk610 =>
    intro w hSw
    try dsimp only at hSw
    try obtain ⟨hSw, hSw2⟩ := hSw
    try go_split_ands
    go_simp
    try with_reducible rfl
  try simp only [Act.put, List.setIfInBounds_toArray, List.set_cons_zero, List.set_cons_succ]
  refine wpAnyH_take (i := 11) (oi := { dst := some 16, op := Op.load 3 (Operand.tmp 15), type := 3, pos := "cond.go:49", after := #[{ on := 10, ground := Ground.data }, { on := 2, ground := Ground.guard }], guard := some (2, true) }) (v := ?vk611) rfl (by kernel_rfl) (by kernel_rfl) (by kernel_rfl) (fun _ _ _ h => h) (Or.inl ⟨by rfl, ?hyk611⟩) (by assumption) ?restk611
  case hyk611 =>
    intro w hSw
    try dsimp only at hSw
    try obtain ⟨hSw, hSw2⟩ := hSw
    try go_split_ands
    go_simp
    try with_reducible rfl
  try simp only [Act.put, List.setIfInBounds_toArray, List.set_cons_zero, List.set_cons_succ]
  refine wpAnyH_take (i := 12) (oi := { dst := some 17, op := Op.indexAddr 37 (Operand.tmp 3) (Operand.tmp 16), type := 0, pos := "cond.go:49", after := #[{ on := 11, ground := Ground.data }, { on := 2, ground := Ground.guard }], guard := some (2, true) }) (v := ?vk612) rfl (by kernel_rfl) (by kernel_rfl) (by kernel_rfl) (fun _ _ _ h => h) (Or.inl ⟨by rfl, ?hyk612⟩) (by assumption) ?restk612
  case hyk612 =>
    intro w hSw
    try dsimp only at hSw
    try obtain ⟨hSw, hSw2⟩ := hSw
    try go_split_ands
    go_simp
    try with_reducible rfl
  try simp only [Act.put, List.setIfInBounds_toArray, List.set_cons_zero, List.set_cons_succ]
  refine wpAnyH_take (i := 13) (oi := { dst := some 18, op := Op.load 23 (Operand.tmp 17), type := 23, pos := "cond.go:49", after := #[{ on := 12, ground := Ground.data }, { on := 2, ground := Ground.guard }], guard := some (2, true) }) (v := ?vk613) rfl (by kernel_rfl) (by kernel_rfl) (by kernel_rfl) (fun _ _ _ h => h) (Or.inl ⟨by rfl, ?hyk613⟩) (by assumption) ?restk613
  case hyk613 =>
    intro w hSw
    try dsimp only at hSw
    try obtain ⟨hSw, hSw2⟩ := hSw
    try go_split_ands
    go_simp
    try with_reducible rfl
  try simp only [Act.put, List.setIfInBounds_toArray, List.set_cons_zero, List.set_cons_succ]
  refine wpAnyH_take (i := 14) (oi := { dst := some 19, op := Op.load 25 (Operand.tmp 2), type := 25, pos := "cond.go:49", after := #[{ on := 2, ground := Ground.guard }], guard := some (2, true) }) (v := ?vk614) rfl (by kernel_rfl) (by kernel_rfl) (by kernel_rfl) (fun _ _ _ h => h) (Or.inl ⟨by rfl, ?hyk614⟩) (by assumption) ?restk614
  case hyk614 =>
    intro w hSw
    try dsimp only at hSw
    try obtain ⟨hSw, hSw2⟩ := hSw
    try go_split_ands
    go_simp
    try with_reducible rfl
  try simp only [Act.put, List.setIfInBounds_toArray, List.set_cons_zero, List.set_cons_succ]
  refine wpAnyH_ready (rs := [3]) (by kernel_rfl) (by simp) ?_
  refine AllReadyH.cons (o := { dst := some 8, op := Op.call { callee := Callee.value (Operand.func 21), args := #[], argTypes := #[] }, type := 53, pos := "cond.go:49", after := #[{ on := 2, ground := Ground.chain }, { on := 2, ground := Ground.guard }], guard := some (2, true) }) rfl (fun K' hK => ?_) AllReadyH.nil
  go_simp
  refine (ops_any _).mono ?_
  rintro e wy ⟨rfl, hwy⟩
  have hbx : Below wx.heap.size wx wy := by rw [← hwy]; exact (Below.refl _ wx).alloc (Nat.le_refl _) _
  have hop : wy.cell? ⟨wx.heap.size, 11, none⟩ = some (.func (.func 36) #[] #[]) := by rw [← hwy]; exact (Blk.new wx 56 opCells).cell 11
  refine hK.out _ _ (⟨⟨cellL hbx hHeld.1.1, cellL hbx hHeld.1.2.1, cellL hbx hHeld.1.2.2.1, cellL hbx hHeld.1.2.2.2⟩, cellL hbx hHeld.2.1, hHeld.2.2.trans (hbx.mono hHeld.2.2.size)⟩) (fun hHeld => ?_)
  clear hK K'
  try simp only [Act.put, List.setIfInBounds_toArray, List.set_cons_zero, List.set_cons_succ]
  refine wpAnyH_weaken (S' := fun w' => ((w'.cell? ⟨w.heap.size, 0, none⟩ = some (.int .i64 (j : Int)) ∧ w'.cell? ⟨w.heap.size, 1, none⟩ = some (.int .i64 6) ∧ w'.cell? ⟨w.heap.size, 2, none⟩ = some (.int .u64 m) ∧ w'.cell? ⟨w.heap.size, 3, none⟩ = some (.int .u64 v)) ∧ w'.cell? ⟨w.heap.size + 1, j, none⟩ = some (.int .u64 xv) ∧ Below W.heap.size W w') ∧ w'.cell? ⟨wx.heap.size, 11, none⟩ = some (.func (.func 36) #[] #[])) (fun _ h => h.1) _ _ _ _ ?_
  have hHeld2 : (fun w' : World => ((w'.cell? ⟨w.heap.size, 0, none⟩ = some (.int .i64 (j : Int)) ∧ w'.cell? ⟨w.heap.size, 1, none⟩ = some (.int .i64 6) ∧ w'.cell? ⟨w.heap.size, 2, none⟩ = some (.int .u64 m) ∧ w'.cell? ⟨w.heap.size, 3, none⟩ = some (.int .u64 v)) ∧ w'.cell? ⟨w.heap.size + 1, j, none⟩ = some (.int .u64 xv) ∧ Below W.heap.size W w') ∧ w'.cell? ⟨wx.heap.size, 11, none⟩ = some (.func (.func 36) #[] #[])) wy := ⟨hHeld, hop⟩
  clear hHeld hbx hop hwy
  refine wpAnyH_take (i := 7) (oi := { dst := some 12, op := Op.indexAddr 53 (Operand.tmp 8) (Operand.tmp 11), type := 0, pos := "cond.go:49", after := #[{ on := 3, ground := Ground.data }, { on := 6, ground := Ground.data }, { on := 2, ground := Ground.guard }], guard := some (2, true) }) (v := ?vk67) rfl (by kernel_rfl) (by kernel_rfl) (by kernel_rfl) (fun _ _ _ h => h) (Or.inl ⟨by rfl, ?hyk67⟩) (by assumption) ?restk67
  case hyk67 =>
    intro w hSw
    try dsimp only at hSw
    try obtain ⟨hSw, hSw2⟩ := hSw
    try go_split_ands
    go_simp
    try with_reducible rfl
  try simp only [Act.put, List.setIfInBounds_toArray, List.set_cons_zero, List.set_cons_succ]
  refine wpAnyH_take (i := 8) (oi := { dst := some 13, op := Op.fieldAddr 56 (Operand.tmp 12) 1, type := 0, pos := "cond.go:49", after := #[{ on := 7, ground := Ground.data }, { on := 2, ground := Ground.guard }], guard := some (2, true) }) (v := ?vk68) rfl (by kernel_rfl) (by kernel_rfl) (by kernel_rfl) (fun _ _ _ h => h) (Or.inl ⟨by rfl, ?hyk68⟩) (by assumption) ?restk68
  case hyk68 =>
    intro w hSw
    try dsimp only at hSw
    try obtain ⟨hSw, hSw2⟩ := hSw
    try go_split_ands
    go_simp
    try with_reducible rfl
  try simp only [Act.put, List.setIfInBounds_toArray, List.set_cons_zero, List.set_cons_succ]
  refine wpAnyH_take (i := 9) (oi := { dst := some 14, op := Op.load 54 (Operand.tmp 13), type := 54, pos := "cond.go:49", after := #[{ on := 8, ground := Ground.data }, { on := 2, ground := Ground.guard }], guard := some (2, true) }) (v := ?vk69) rfl (by kernel_rfl) (by kernel_rfl) (by kernel_rfl) (fun _ _ _ h => h) (Or.inl ⟨by rfl, ?hyk69⟩) (by assumption) ?restk69
  case hyk69 =>
    intro w hSw
    try dsimp only at hSw
    try obtain ⟨hSw, hSw2⟩ := hSw
    try go_split_ands
    go_simp
    try with_reducible rfl
  try simp only [Act.put, List.setIfInBounds_toArray, List.set_cons_zero, List.set_cons_succ]
  refine wpAnyH_ready (rs := [15]) (by kernel_rfl) (by simp) ?_
  refine AllReadyH.cons (o := { dst := some 20, op := Op.call { callee := Callee.value (Operand.tmp 14), args := #[Operand.tmp 18, Operand.tmp 19], argTypes := #[23, 25] }, type := 4, pos := "cond.go:49", after := #[{ on := 9, ground := Ground.data }, { on := 13, ground := Ground.data }, { on := 14, ground := Ground.data }, { on := 3, ground := Ground.chain }, { on := 2, ground := Ground.guard }], guard := some (2, true) }) rfl (fun K' hK => ?_) AllReadyH.nil
  go_simp
  refine (op6_any _ _ _ _ _ _).mono ?_
  rintro e wz ⟨rfl, hbx⟩
  refine hK.out _ _ (⟨⟨⟨cellL hbx hHeld2.1.1.1, cellL hbx hHeld2.1.1.2.1, cellL hbx hHeld2.1.1.2.2.1, cellL hbx hHeld2.1.1.2.2.2⟩, cellL hbx hHeld2.1.2.1, hHeld2.1.2.2.trans (hbx.mono hHeld2.1.2.2.size)⟩, cellL hbx hHeld2.2⟩) (fun hHeld => ?_)
  clear hK K'
  try simp only [Act.put, List.setIfInBounds_toArray, List.set_cons_zero, List.set_cons_succ]
  refine wpAnyH_take (i := 16) (oi := { dst := some 21, op := Op.pick (Operand.tmp 7) (Operand.tmp 20) (Operand.const (Value.bool false)), type := 4, pos := "cond.go:49", after := #[{ on := 2, ground := Ground.data }, { on := 15, ground := Ground.data }], guard := none }) (v := ?vk616) rfl (by kernel_rfl) (by kernel_rfl) (by kernel_rfl) (fun _ _ _ h => h) (Or.inl ⟨by rfl, ?hyk616⟩) (by assumption) ?restk616
  case hyk616 =>
    intro w hSw
    try dsimp only at hSw
    try obtain ⟨hSw, hSw2⟩ := hSw
    try go_split_ands
    go_simp
    try with_reducible rfl
  try simp only [Act.put, List.setIfInBounds_toArray, List.set_cons_zero, List.set_cons_succ]
  refine wpAnyH_take (i := 17) (oi := { dst := some 4, op := Op.assign (Operand.tmp 21), type := 4, pos := "cond.go:49", after := #[{ on := 16, ground := Ground.data }, { on := 15, ground := Ground.chain }, { on := 0, ground := Ground.phase }, { on := 1, ground := Ground.phase }, { on := 2, ground := Ground.phase }, { on := 3, ground := Ground.phase }, { on := 4, ground := Ground.phase }, { on := 5, ground := Ground.phase }, { on := 6, ground := Ground.phase }, { on := 7, ground := Ground.phase }, { on := 8, ground := Ground.phase }, { on := 9, ground := Ground.phase }, { on := 10, ground := Ground.phase }, { on := 11, ground := Ground.phase }, { on := 12, ground := Ground.phase }, { on := 13, ground := Ground.phase }, { on := 14, ground := Ground.phase }, { on := 15, ground := Ground.phase }, { on := 16, ground := Ground.phase }], guard := none }) (v := ?vk617) rfl (by kernel_rfl) (by kernel_rfl) (by kernel_rfl) (fun _ _ _ h => h) (Or.inl ⟨by rfl, ?hyk617⟩) (by assumption) ?restk617
  case hyk617 =>
    intro w hSw
    try dsimp only at hSw
    try obtain ⟨hSw, hSw2⟩ := hSw
    try go_split_ands
    go_simp
    try with_reducible rfl
  try simp only [Act.put, List.setIfInBounds_toArray, List.set_cons_zero, List.set_cons_succ]
  refine wpAnyH_done (by kernel_rfl) ?_ _
  refine NoPanic.normal ?_
  have hfin := hHeld.1.2.2
  go_wp2
  go_ret
  exact ⟨rfl, HB.out.trans (hfin.mono HB.out.size)⟩

set_option maxRecDepth 100000 in
set_option maxHeartbeats 2000000 in
theorem holds_7 (j : Nat) (hj : j ≤ 5) (m v x0 x1 x2 x3 x4 x5 xv : Int) (hx : [x0, x1, x2, x3, x4, x5][j]? = some xv) (hr : condRight j 7 m = true) (w : World) : Calls Tryd.prog 15 #[.agg #[.int .i64 (j : Int), .int .i64 7, .int .u64 m, .int .u64 v], .agg #[.int .u64 x0, .int .u64 x1, .int .u64 x2, .int .u64 x3, .int .u64 x4, .int .u64 x5]] w fun e w' => e = .returned (.bool (opHolds 7 m v xv)) ∧ Below w.heap.size w w' := by
  have hA := (Blk.new w 25 #[.int .i64 (j : Int), .int .i64 7, .int .u64 m, .int .u64 v]).alloc (.cells #[.int .u64 x0, .int .u64 x1, .int .u64 x2, .int .u64 x3, .int .u64 x4, .int .u64 x5] 37)
  have hX := Blk.new (w.alloc (.cells #[.int .i64 (j : Int), .int .i64 7, .int .u64 m, .int .u64 v] 25)) 37 #[.int .u64 x0, .int .u64 x1, .int .u64 x2, .int .u64 x3, .int .u64 x4, .int .u64 x5]
  have hb := ((Below.refl w.heap.size w).alloc (Nat.le_refl _) (.cells #[.int .i64 (j : Int), .int .i64 7, .int .u64 m, .int .u64 v] 25)).alloc (by simp) (.cells #[.int .u64 x0, .int .u64 x1, .int .u64 x2, .int .u64 x3, .int .u64 x4, .int .u64 x5] 37)
  simp only [World.size_alloc] at hX
  have c0 := hA.cell 0
  have c1 := hA.cell 1
  have c2 := hA.cell 2
  have c3 := hA.cell 3
  have cx := hX.cell j
  have ex : (#[.int .u64 x0, .int .u64 x1, .int .u64 x2, .int .u64 x3, .int .u64 x4, .int .u64 x5] : Array Value)[j]? = some (.int .u64 xv) := by
    match j, hj, hx with
    | 0, _, hx => simp at hx; subst hx; rfl
    | 1, _, hx => simp at hx; subst hx; rfl
    | 2, _, hx => simp at hx; subst hx; rfl
    | 3, _, hx => simp at hx; subst hx; rfl
    | 4, _, hx => simp at hx; subst hx; rfl
    | 5, _, hx => simp at hx; subst hx; rfl
  rw [ex] at cx
  simp only [List.getElem?_toArray, List.getElem?_cons_zero, List.getElem?_cons_succ] at c0 c1 c2 c3
  have HB := Lib.hid hb
  have HR := Lib.hid (fun W => right_any j 7 m v W)
  rw [hr] at HR
  have j0 : (0 : Int) ≤ (j : Int) := by omega
  have j6 : (j : Int) < 6 := by omega
  have wk : IntKind.i64.wrap 6 = 6 := by decide
  clear hA hX hb hr hx ex
  go_enter Tryd.func15, Tryd.ntmps15
  go_upto_region 1 with fail
  generalize (w.alloc (.cells #[.int .i64 (j : Int), .int .i64 7, .int .u64 m, .int .u64 v] 25)).alloc (.cells #[.int .u64 x0, .int .u64 x1, .int .u64 x2, .int .u64 x3, .int .u64 x4, .int .u64 x5] 37) = W at *
  refine wp_region_noPanic ?_
  refine wp_region_held_drew (S := fun w' => (w'.cell? ⟨w.heap.size, 0, none⟩ = some (.int .i64 (j : Int)) ∧ w'.cell? ⟨w.heap.size, 1, none⟩ = some (.int .i64 7) ∧ w'.cell? ⟨w.heap.size, 2, none⟩ = some (.int .u64 m) ∧ w'.cell? ⟨w.heap.size, 3, none⟩ = some (.int .u64 v)) ∧ w'.cell? ⟨w.heap.size + 1, j, none⟩ = some (.int .u64 xv) ∧ Below W.heap.size W w') (by kernel_rfl) (by first | exact ⟨⟨c0, c1, c2, c3⟩, cx, (Below.refl _ W).drew⟩ | go_keep) (fun hHeld => ?_)
  refine wpAnyH_take (i := 0) (oi := { dst := some 5, op := Op.load 25 (Operand.tmp 2), type := 25, pos := "cond.go:49", after := #[], guard := none }) (v := ?vk70) rfl (by kernel_rfl) (by kernel_rfl) (by kernel_rfl) (fun _ _ _ h => h) (Or.inl ⟨by rfl, ?hyk70⟩) (by assumption) ?restk70
  case hyk70 =>
    intro w hSw
    try dsimp only at hSw
    try obtain ⟨hSw, hSw2⟩ := hSw
    try go_split_ands
    go_simp
    try with_reducible rfl
  try simp only [Act.put, List.setIfInBounds_toArray, List.set_cons_zero, List.set_cons_succ]
  refine wpAnyH_ready (rs := [1]) (by kernel_rfl) (by simp) ?_
  refine AllReadyH.cons (o := { dst := some 6, op := Op.call { callee := Callee.value (Operand.func 17), args := #[Operand.tmp 5], argTypes := #[25] }, type := 4, pos := "cond.go:49", after := #[{ on := 0, ground := Ground.data }], guard := none }) rfl (fun K' hK => ?_) AllReadyH.nil
  go_simp
  refine (HR.out _).mono ?_
  rintro e wx ⟨rfl, hbx⟩
  refine hK.out _ _ (⟨⟨cellL hbx hHeld.1.1, cellL hbx hHeld.1.2.1, cellL hbx hHeld.1.2.2.1, cellL hbx hHeld.1.2.2.2⟩, cellL hbx hHeld.2.1, hHeld.2.2.trans (hbx.mono hHeld.2.2.size)⟩) (fun hHeld => ?_)
  clear hK K'
  try simp only [Act.put, List.setIfInBounds_toArray, List.set_cons_zero, List.set_cons_succ]
  refine wpAnyH_take (i := 2) (oi := { dst := some 7, op := Op.move (Operand.tmp 6), type := 4, pos := "cond.go:49", after := #[{ on := 1, ground := Ground.data }, { on := 1, ground := Ground.chain }], guard := none }) (v := ?vk72) rfl (by kernel_rfl) (by kernel_rfl) (by kernel_rfl) (fun _ _ _ h => h) (Or.inl ⟨by rfl, ?hyk72⟩) (by assumption) ?restk72
  case hyk72 =>
    intro w hSw
    try dsimp only at hSw
    try obtain ⟨hSw, hSw2⟩ := hSw
    try go_split_ands
    go_simp
    try with_reducible rfl
  try simp only [Act.put, List.setIfInBounds_toArray, List.set_cons_zero, List.set_cons_succ]
  refine wpAnyH_take (i := 4) (oi := { dst := some 9, op := Op.fieldAddr 25 (Operand.tmp 2) 1, type := 0, pos := "cond.go:49", after := #[{ on := 2, ground := Ground.guard }], guard := some (2, true) }) (v := ?vk74) rfl (by kernel_rfl) (by kernel_rfl) (by kernel_rfl) (fun _ _ _ h => h) (Or.inl ⟨by rfl, ?hyk74⟩) (by assumption) ?restk74
  case hyk74 =>
    intro w hSw
    try dsimp only at hSw
    try obtain ⟨hSw, hSw2⟩ := hSw
    try go_split_ands
    go_simp
    try with_reducible rfl
  try simp only [Act.put, List.setIfInBounds_toArray, List.set_cons_zero, List.set_cons_succ]
  refine wpAnyH_take (i := 5) (oi := { dst := some 10, op := Op.load 3 (Operand.tmp 9), type := 3, pos := "cond.go:49", after := #[{ on := 4, ground := Ground.data }, { on := 2, ground := Ground.guard }], guard := some (2, true) }) (v := ?vk75) rfl (by kernel_rfl) (by kernel_rfl) (by kernel_rfl) (fun _ _ _ h => h) (Or.inl ⟨by rfl, ?hyk75⟩) (by assumption) ?restk75
  case hyk75 =>
    intro w hSw
    try dsimp only at hSw
    try obtain ⟨hSw, hSw2⟩ := hSw
    try go_split_ands
    go_simp
    try with_reducible rfl
  try simp only [Act.put, List.setIfInBounds_toArray, List.set_cons_zero, List.set_cons_succ]
  refine wpAnyH_take (i := 6) (oi := { dst := some 11, op := Op.binOp BinOp.sub 3 (Operand.tmp 10) (Operand.const (Value.int IntKind.i64 1)) 3, type := 3, pos := "cond.go:49", after := #[{ on := 5, ground := Ground.data }, { on := 2, ground := Ground.guard }], guard := some (2, true) }) (v := ?vk76) rfl (by kernel_rfl) (by kernel_rfl) (by kernel_rfl) (fun _ _ _ h => h) (Or.inl ⟨by rfl, ?hyk76⟩) (by assumption) ?restk76
  case hyk76 =>
    intro w hSw
    try dsimp only at hSw
    try obtain ⟨hSw, hSw2⟩ := hSw
    try go_split_ands
    go_simp
    try with_reducible rfl
  try simp only [Act.put, List.setIfInBounds_toArray, List.set_cons_zero, List.set_cons_succ]
  refine wpAnyH_take (i := 10) (oi := { dst := some 15, op := Op.fieldAddr 25 (Operand.tmp 2) 0, type := 0, pos := "cond.go:49", after := #[{ on := 2, ground := Ground.guard }], guard := some (2, true) }) (v := ?vk710) rfl (by kernel_rfl) (by kernel_rfl) (by kernel_rfl) (fun _ _ _ h => h) (Or.inl ⟨by rfl, ?hyk710⟩) (by assumption) ?restk710
  case hyk710 =>
    intro w hSw
    try dsimp only at hSw
    try obtain ⟨hSw, hSw2⟩ := hSw
    try go_split_ands
    go_simp
    try with_reducible rfl
  try simp only [Act.put, List.setIfInBounds_toArray, List.set_cons_zero, List.set_cons_succ]
  refine wpAnyH_take (i := 11) (oi := { dst := some 16, op := Op.load 3 (Operand.tmp 15), type := 3, pos := "cond.go:49", after := #[{ on := 10, ground := Ground.data }, { on := 2, ground := Ground.guard }], guard := some (2, true) }) (v := ?vk711) rfl (by kernel_rfl) (by kernel_rfl) (by kernel_rfl) (fun _ _ _ h => h) (Or.inl ⟨by rfl, ?hyk711⟩) (by assumption) ?restk711
  case hyk711 =>
    intro w hSw
    try dsimp only at hSw
    try obtain ⟨hSw, hSw2⟩ := hSw
    try go_split_ands
    go_simp
    try with_reducible rfl
  try simp only [Act.put, List.setIfInBounds_toArray, List.set_cons_zero, List.set_cons_succ]
  refine wpAnyH_take (i := 12) (oi := { dst := some 17, op := Op.indexAddr 37 (Operand.tmp 3) (Operand.tmp 16), type := 0, pos := "cond.go:49", after := #[{ on := 11, ground := Ground.data }, { on := 2, ground := Ground.guard }], guard := some (2, true) }) (v := ?vk712) rfl (by kernel_rfl) (by kernel_rfl) (by kernel_rfl) (fun _ _ _ h => h) (Or.inl ⟨by rfl, ?hyk712⟩) (by assumption) ?restk712
  case hyk712 =>
    intro w hSw
    try dsimp only at hSw
    try obtain ⟨hSw, hSw2⟩ := hSw
    try go_split_ands
    go_simp
    try with_reducible rfl
  try simp only [Act.put, List.setIfInBounds_toArray, List.set_cons_zero, List.set_cons_succ]
  refine wpAnyH_take (i := 13) (oi := { dst := some 18, op := Op.load 23 (Operand.tmp 17), type := 23, pos := "cond.go:49", after := #[{ on := 12, ground := Ground.data }, { on := 2, ground := Ground.guard }], guard := some (2, true) }) (v := ?vk713) rfl (by kernel_rfl) (by kernel_rfl) (by kernel_rfl) (fun _ _ _ h => h) (Or.inl ⟨by rfl, ?hyk713⟩) (by assumption) ?restk713
  case hyk713 =>
    intro w hSw
    try dsimp only at hSw
    try obtain ⟨hSw, hSw2⟩ := hSw
    try go_split_ands
    go_simp
    try with_reducible rfl
  try simp only [Act.put, List.setIfInBounds_toArray, List.set_cons_zero, List.set_cons_succ]
  refine wpAnyH_take (i := 14) (oi := { dst := some 19, op := Op.load 25 (Operand.tmp 2), type := 25, pos := "cond.go:49", after := #[{ on := 2, ground := Ground.guard }], guard := some (2, true) }) (v := ?vk714) rfl (by kernel_rfl) (by kernel_rfl) (by kernel_rfl) (fun _ _ _ h => h) (Or.inl ⟨by rfl, ?hyk714⟩) (by assumption) ?restk714
  case hyk714 =>
    intro w hSw
    try dsimp only at hSw
    try obtain ⟨hSw, hSw2⟩ := hSw
    try go_split_ands
    go_simp
    try with_reducible rfl
  try simp only [Act.put, List.setIfInBounds_toArray, List.set_cons_zero, List.set_cons_succ]
  refine wpAnyH_ready (rs := [3]) (by kernel_rfl) (by simp) ?_
  refine AllReadyH.cons (o := { dst := some 8, op := Op.call { callee := Callee.value (Operand.func 21), args := #[], argTypes := #[] }, type := 53, pos := "cond.go:49", after := #[{ on := 2, ground := Ground.chain }, { on := 2, ground := Ground.guard }], guard := some (2, true) }) rfl (fun K' hK => ?_) AllReadyH.nil
  go_simp
  refine (ops_any _).mono ?_
  rintro e wy ⟨rfl, hwy⟩
  have hbx : Below wx.heap.size wx wy := by rw [← hwy]; exact (Below.refl _ wx).alloc (Nat.le_refl _) _
  have hop : wy.cell? ⟨wx.heap.size, 13, none⟩ = some (.func (.func 37) #[] #[]) := by rw [← hwy]; exact (Blk.new wx 56 opCells).cell 13
  refine hK.out _ _ (⟨⟨cellL hbx hHeld.1.1, cellL hbx hHeld.1.2.1, cellL hbx hHeld.1.2.2.1, cellL hbx hHeld.1.2.2.2⟩, cellL hbx hHeld.2.1, hHeld.2.2.trans (hbx.mono hHeld.2.2.size)⟩) (fun hHeld => ?_)
  clear hK K'
  try simp only [Act.put, List.setIfInBounds_toArray, List.set_cons_zero, List.set_cons_succ]
  refine wpAnyH_weaken (S' := fun w' => ((w'.cell? ⟨w.heap.size, 0, none⟩ = some (.int .i64 (j : Int)) ∧ w'.cell? ⟨w.heap.size, 1, none⟩ = some (.int .i64 7) ∧ w'.cell? ⟨w.heap.size, 2, none⟩ = some (.int .u64 m) ∧ w'.cell? ⟨w.heap.size, 3, none⟩ = some (.int .u64 v)) ∧ w'.cell? ⟨w.heap.size + 1, j, none⟩ = some (.int .u64 xv) ∧ Below W.heap.size W w') ∧ w'.cell? ⟨wx.heap.size, 13, none⟩ = some (.func (.func 37) #[] #[])) (fun _ h => h.1) _ _ _ _ ?_
  have hHeld2 : (fun w' : World => ((w'.cell? ⟨w.heap.size, 0, none⟩ = some (.int .i64 (j : Int)) ∧ w'.cell? ⟨w.heap.size, 1, none⟩ = some (.int .i64 7) ∧ w'.cell? ⟨w.heap.size, 2, none⟩ = some (.int .u64 m) ∧ w'.cell? ⟨w.heap.size, 3, none⟩ = some (.int .u64 v)) ∧ w'.cell? ⟨w.heap.size + 1, j, none⟩ = some (.int .u64 xv) ∧ Below W.heap.size W w') ∧ w'.cell? ⟨wx.heap.size, 13, none⟩ = some (.func (.func 37) #[] #[])) wy := ⟨hHeld, hop⟩
  clear hHeld hbx hop hwy
  refine wpAnyH_take (i := 7) (oi := { dst := some 12, op := Op.indexAddr 53 (Operand.tmp 8) (Operand.tmp 11), type := 0, pos := "cond.go:49", after := #[{ on := 3, ground := Ground.data }, { on := 6, ground := Ground.data }, { on := 2, ground := Ground.guard }], guard := some (2, true) }) (v := ?vk77) rfl (by kernel_rfl) (by kernel_rfl) (by kernel_rfl) (fun _ _ _ h => h) (Or.inl ⟨by rfl, ?hyk77⟩) (by assumption) ?restk77
  case hyk77 =>
    intro w hSw
    try dsimp only at hSw
    try obtain ⟨hSw, hSw2⟩ := hSw
    try go_split_ands
    go_simp
    try with_reducible rfl
  try simp only [Act.put, List.setIfInBounds_toArray, List.set_cons_zero, List.set_cons_succ]
  refine wpAnyH_take (i := 8) (oi := { dst := some 13, op := Op.fieldAddr 56 (Operand.tmp 12) 1, type := 0, pos := "cond.go:49", after := #[{ on := 7, ground := Ground.data }, { on := 2, ground := Ground.guard }], guard := some (2, true) }) (v := ?vk78) rfl (by kernel_rfl) (by kernel_rfl) (by kernel_rfl) (fun _ _ _ h => h) (Or.inl ⟨by rfl, ?hyk78⟩) (by assumption) ?restk78
  case hyk78 =>
    intro w hSw
    try dsimp only at hSw
    try obtain ⟨hSw, hSw2⟩ := hSw
    try go_split_ands
    go_simp
    try with_reducible rfl
  try simp only [Act.put, List.setIfInBounds_toArray, List.set_cons_zero, List.set_cons_succ]
  refine wpAnyH_take (i := 9) (oi := { dst := some 14, op := Op.load 54 (Operand.tmp 13), type := 54, pos := "cond.go:49", after := #[{ on := 8, ground := Ground.data }, { on := 2, ground := Ground.guard }], guard := some (2, true) }) (v := ?vk79) rfl (by kernel_rfl) (by kernel_rfl) (by kernel_rfl) (fun _ _ _ h => h) (Or.inl ⟨by rfl, ?hyk79⟩) (by assumption) ?restk79
  case hyk79 =>
    intro w hSw
    try dsimp only at hSw
    try obtain ⟨hSw, hSw2⟩ := hSw
    try go_split_ands
    go_simp
    try with_reducible rfl
  try simp only [Act.put, List.setIfInBounds_toArray, List.set_cons_zero, List.set_cons_succ]
  refine wpAnyH_ready (rs := [15]) (by kernel_rfl) (by simp) ?_
  refine AllReadyH.cons (o := { dst := some 20, op := Op.call { callee := Callee.value (Operand.tmp 14), args := #[Operand.tmp 18, Operand.tmp 19], argTypes := #[23, 25] }, type := 4, pos := "cond.go:49", after := #[{ on := 9, ground := Ground.data }, { on := 13, ground := Ground.data }, { on := 14, ground := Ground.data }, { on := 3, ground := Ground.chain }, { on := 2, ground := Ground.guard }], guard := some (2, true) }) rfl (fun K' hK => ?_) AllReadyH.nil
  go_simp
  refine (op7_any _ _ _ _ _ _).mono ?_
  rintro e wz ⟨rfl, hbx⟩
  refine hK.out _ _ (⟨⟨⟨cellL hbx hHeld2.1.1.1, cellL hbx hHeld2.1.1.2.1, cellL hbx hHeld2.1.1.2.2.1, cellL hbx hHeld2.1.1.2.2.2⟩, cellL hbx hHeld2.1.2.1, hHeld2.1.2.2.trans (hbx.mono hHeld2.1.2.2.size)⟩, cellL hbx hHeld2.2⟩) (fun hHeld => ?_)
  clear hK K'
  try simp only [Act.put, List.setIfInBounds_toArray, List.set_cons_zero, List.set_cons_succ]
  refine wpAnyH_take (i := 16) (oi := { dst := some 21, op := Op.pick (Operand.tmp 7) (Operand.tmp 20) (Operand.const (Value.bool false)), type := 4, pos := "cond.go:49", after := #[{ on := 2, ground := Ground.data }, { on := 15, ground := Ground.data }], guard := none }) (v := ?vk716) rfl (by kernel_rfl) (by kernel_rfl) (by kernel_rfl) (fun _ _ _ h => h) (Or.inl ⟨by rfl, ?hyk716⟩) (by assumption) ?restk716
  case hyk716 =>
    intro w hSw
    try dsimp only at hSw
    try obtain ⟨hSw, hSw2⟩ := hSw
    try go_split_ands
    go_simp
    try with_reducible rfl
  try simp only [Act.put, List.setIfInBounds_toArray, List.set_cons_zero, List.set_cons_succ]
  refine wpAnyH_take (i := 17) (oi := { dst := some 4, op := Op.assign (Operand.tmp 21), type := 4, pos := "cond.go:49", after := #[{ on := 16, ground := Ground.data }, { on := 15, ground := Ground.chain }, { on := 0, ground := Ground.phase }, { on := 1, ground := Ground.phase }, { on := 2, ground := Ground.phase }, { on := 3, ground := Ground.phase }, { on := 4, ground := Ground.phase }, { on := 5, ground := Ground.phase }, { on := 6, ground := Ground.phase }, { on := 7, ground := Ground.phase }, { on := 8, ground := Ground.phase }, { on := 9, ground := Ground.phase }, { on := 10, ground := Ground.phase }, { on := 11, ground := Ground.phase }, { on := 12, ground := Ground.phase }, { on := 13, ground := Ground.phase }, { on := 14, ground := Ground.phase }, { on := 15, ground := Ground.phase }, { on := 16, ground := Ground.phase }], guard := none }) (v := ?vk717) rfl (by kernel_rfl) (by kernel_rfl) (by kernel_rfl) (fun _ _ _ h => h) (Or.inl ⟨by rfl, ?hyk717⟩) (by assumption) ?restk717
  case hyk717 =>
    intro w hSw
    try dsimp only at hSw
    try obtain ⟨hSw, hSw2⟩ := hSw
    try go_split_ands
    go_simp
    try with_reducible rfl
  try simp only [Act.put, List.setIfInBounds_toArray, List.set_cons_zero, List.set_cons_succ]
  refine wpAnyH_done (by kernel_rfl) ?_ _
  refine NoPanic.normal ?_
  have hfin := hHeld.1.2.2
  go_wp2
  go_ret
  exact ⟨rfl, HB.out.trans (hfin.mono HB.out.size)⟩
end Go.Proofs.YtlmobmbglninkaaDoor
