/- The document's Line. -/
import Derived.Test.YtokehnclakedeaaGreatDoorListPlain
namespace Go.Proofs.YtokehnclakedeaaGreatDoor
open Go Go.Proofs Go.RowKit

set_option maxRecDepth 100000 in
set_option maxHeartbeats 8000000 in
theorem rline_any (c jt jf k : Nat) (hc : c < 65536) (hjt : jt < 256) (hjf : jf < 256) (hk : k < 4294967296) (w : World) :
    Calls Tryz.prog 21 #[.agg #[.int .u16 (c : Int), .int .u8 (jt : Int), .int .u8 (jf : Int), .int .u32 (k : Int)]] w fun e w' => e = .returned (.string (lineS c jt jf k)) ∧ Below w.heap.size w w' := by
  have hA := Blk.new w 29 #[.int .u16 (c : Int), .int .u8 (jt : Int), .int .u8 (jf : Int), .int .u32 (k : Int)]
  have hb := (Below.refl w.heap.size w).alloc (Nat.le_refl _) (.cells #[.int .u16 (c : Int), .int .u8 (jt : Int), .int .u8 (jf : Int), .int .u32 (k : Int)] 29)
  have hl1 := line_raw (c := c) (jt := jt) (jf := jf) (k := k)
  have hl2 := line_kind (c := c) jt jf k
  have Hof := Lib.hid (fun W => of2_any c hc W)
  have hdk := fun W => digits3_any k W hk
  have hdt := fun W => digits3_any jt W (by omega)
  have hdf := fun W => digits3_any jf W (by omega)
  have hdc := fun W => digits3_any c W (by omega)
  have hle := of_le c
  have z1 := decS_le k hk
  have z2 := decS_le jt (by omega)
  have z3 := decS_le jf (by omega)
  have z4 := decS_le c (by omega)
  have hot := fun W => other_any (ofN c).1 (ofN c).2 (decS k) hle (by omega) W
  have hwd := fun W => word3_any (ofN c).1 hle W
  have hoz : ((otherT (ofN c).1 (ofN c).2 (decS k)).1).size ≤ 23 := by
    rw [other_tag]
    have h1 : (⟨#[91]⟩ : ByteArray).size = 1 := rfl
    have h2 : (⟨#[93]⟩ : ByteArray).size = 1 := rfl
    have h3 : (⟨#[109, 91]⟩ : ByteArray).size = 2 := rfl
    have h4 : (⟨#[35]⟩ : ByteArray).size = 1 := rfl
    have h5 : (⟨#[120]⟩ : ByteArray).size = 1 := rfl
    have h6 : (⟨#[108, 101, 110]⟩ : ByteArray).size = 3 := rfl
    have h7 : (⟨#[97]⟩ : ByteArray).size = 1 := rfl
    have h8 : (⟨#[]⟩ : ByteArray).size = 0 := rfl
    unfold tagT
    repeat' split
    all_goals (simp only [ByteArray.size_append, h1, h2, h3, h4, h5, h6, h7, h8]; omega)
  have hwz : (wordN (ofN c).1).size ≤ 10 := (by decide : ∀ i, i ≤ 28 → (wordN i).size ≤ 10) _ hle
  unfold rawS headS tailS at hl2
  unfold rawS at hl1
  obtain ⟨K, X, hKX⟩ : ∃ K X, ofN c = (K, X) := ⟨_, _, rfl⟩
  rw [hKX] at Hof hl1 hl2 hle hot hwd hoz hwz
  dsimp only at Hof hl1 hl2 hle hot hwd hoz hwz
  obtain ⟨o, bears, hob⟩ : ∃ o b, otherT K X (decS k) = (o, b) := ⟨_, _, rfl⟩
  rw [hob] at hl2 hot hoz
  dsimp only at hl2 hot hoz
  generalize lineS c jt jf k = L at *
  generalize wordN K = wd at *
  generalize decS k = dk at *
  generalize decS jt = dt at *
  generalize decS jf = df at *
  generalize decS c = dc at *
  have HL1 := Lib.hid hl1
  have HL2 := Lib.hid hl2
  have HDk := Lib.hid hdk
  have HDjt := Lib.hid hdt
  have HDjf := Lib.hid hdf
  have HDc := Lib.hid hdc
  have HOT := Lib.hid hot
  have HWD := Lib.hid hwd
  have HA := Lib.hid hA
  have HB := Lib.hid hb
  have wk : IntKind.i64.wrap (k : Int) = (k : Int) := IntWalk.i64_in _ (by omega)
  have wjt : IntKind.i64.wrap (jt : Int) = (jt : Int) := IntWalk.i64_in _ (by omega)
  have wjf : IntKind.i64.wrap (jf : Int) = (jf : Int) := IntWalk.i64_in _ (by omega)
  have wc : IntKind.i64.wrap (c : Int) = (c : Int) := IntWalk.i64_in _ (by omega)
  clear hA hb hl1 hl2 hdk hdt hdf hdc hot hwd hKX hob hc hjt hjf hk
  have c0 := HA.out.cell 0
  simp only [List.getElem?_toArray, List.getElem?_cons_zero, List.getElem?_cons_succ] at c0
  go_enter Tryz.func21, Tryz.ntmps21
  go_wp2_with fail
  refine (Hof.out _).mono ?_
  rintro e W1 ⟨rfl, hb1⟩
  have HA1 := blkH HA hb1
  have HB1 := belB HB hb1
  have HBw : Hid (∀ W, Below W1.heap.size W1 W → Below w.heap.size w W) := fun W hW => HB1.out.trans (hW.mono HB1.out.size)
  have HCA : Hid (∀ W, Below W1.heap.size W1 W → Blk W w.heap.size 29 #[.int .u16 (c : Int), .int .u8 (jt : Int), .int .u8 (jf : Int), .int .u32 (k : Int)]) := fun W hW => HA1.out.below hW HA1.out.lt
  clear hb1 HA HB c0 HA1 HB1 Hof
  by_cases hK0 : K = 0
  · have hr := HL1.out hK0
    subst hK0
    have SOK : Hid (∀ w', Below W1.heap.size W1 w' → (w'.cell? ⟨w.heap.size, 0, none⟩ = some (.int .u16 (c : Int)) ∧ w'.cell? ⟨w.heap.size, 1, none⟩ = some (.int .u8 (jt : Int)) ∧ w'.cell? ⟨w.heap.size, 2, none⟩ = some (.int .u8 (jf : Int)) ∧ w'.cell? ⟨w.heap.size, 3, none⟩ = some (.int .u32 (k : Int)))) := fun w' h => ⟨(HCA.out w' h).cell 0, (HCA.out w' h).cell 1, (HCA.out w' h).cell 2, (HCA.out w' h).cell 3⟩
    have HR := Lib.hid hr
    have HA1 : Hid (Below W1.heap.size W1 W1) := Below.refl _ _
    clear hr HL1 HL2 HOT HWD
    go_upto_region 12 with fail
    refine wp_region_noPanic ?_
    refine wp_region_held_drew (S := fun w' => w'.cell? ⟨w.heap.size, 0, none⟩ = some (.int .u16 (c : Int)) ∧ w'.cell? ⟨w.heap.size, 1, none⟩ = some (.int .u8 (jt : Int)) ∧ w'.cell? ⟨w.heap.size, 2, none⟩ = some (.int .u8 (jf : Int)) ∧ w'.cell? ⟨w.heap.size, 3, none⟩ = some (.int .u32 (k : Int))) (by kernel_rfl) (by first | exact SOK.out _ HA1.out.drew) (fun hHeld => ?_)
    have hzz0 := Lib.hid HA1.out.drew
    clear HA1
    generalize W1.drew = wz0 at *
    refine wpAnyH_take (i := 0) (oi := { dst := some 71, op := Op.fieldAddr 29 (Operand.tmp 1) 0, type := 0, pos := "ref.go:58", after := #[], guard := none }) (v := ?vq0) rfl (by kernel_rfl) (by kernel_rfl) (by kernel_rfl) (fun _ _ _ h => h) (Or.inl ⟨by rfl, ?hyq0⟩) (by assumption) ?restq0
    case hyq0 =>
      intro w hSw
      try dsimp only at hSw
      try obtain ⟨hSw, hSw2⟩ := hSw
      try go_split_ands
      go_simp
      try with_reducible rfl
    try simp only [Act.put, List.setIfInBounds_toArray, List.set_cons_zero, List.set_cons_succ]
    refine wpAnyH_take (i := 1) (oi := { dst := some 72, op := Op.load 22 (Operand.tmp 71), type := 22, pos := "ref.go:58", after := #[{ on := 0, ground := Ground.data }], guard := none }) (v := ?vq1) rfl (by kernel_rfl) (by kernel_rfl) (by kernel_rfl) (fun _ _ _ h => h) (Or.inl ⟨by rfl, ?hyq1⟩) (by assumption) ?restq1
    case hyq1 =>
      intro w hSw
      try dsimp only at hSw
      try obtain ⟨hSw, hSw2⟩ := hSw
      try go_split_ands
      go_simp
      try with_reducible rfl
    try simp only [Act.put, List.setIfInBounds_toArray, List.set_cons_zero, List.set_cons_succ]
    refine wpAnyH_take (i := 2) (oi := { dst := some 73, op := Op.convert 22 3 (Operand.tmp 72), type := 3, pos := "ref.go:58", after := #[{ on := 1, ground := Ground.data }], guard := none }) (v := ?vq2) rfl (by kernel_rfl) (by kernel_rfl) (by kernel_rfl) (fun _ _ _ h => h) (Or.inl ⟨by rfl, ?hyq2⟩) (by assumption) ?restq2
    case hyq2 =>
      intro w hSw
      try dsimp only at hSw
      try obtain ⟨hSw, hSw2⟩ := hSw
      try go_split_ands
      go_simp
      try with_reducible rfl
    try simp only [Act.put, List.setIfInBounds_toArray, List.set_cons_zero, List.set_cons_succ]
    refine wpAnyH_take (i := 6) (oi := { dst := some 77, op := Op.fieldAddr 29 (Operand.tmp 1) 1, type := 0, pos := "ref.go:58", after := #[], guard := none }) (v := ?vq6) rfl (by kernel_rfl) (by kernel_rfl) (by kernel_rfl) (fun _ _ _ h => h) (Or.inl ⟨by rfl, ?hyq6⟩) (by assumption) ?restq6
    case hyq6 =>
      intro w hSw
      try dsimp only at hSw
      try obtain ⟨hSw, hSw2⟩ := hSw
      try go_split_ands
      go_simp
      try with_reducible rfl
    try simp only [Act.put, List.setIfInBounds_toArray, List.set_cons_zero, List.set_cons_succ]
    refine wpAnyH_take (i := 7) (oi := { dst := some 78, op := Op.load 5 (Operand.tmp 77), type := 5, pos := "ref.go:58", after := #[{ on := 6, ground := Ground.data }], guard := none }) (v := ?vq7) rfl (by kernel_rfl) (by kernel_rfl) (by kernel_rfl) (fun _ _ _ h => h) (Or.inl ⟨by rfl, ?hyq7⟩) (by assumption) ?restq7
    case hyq7 =>
      intro w hSw
      try dsimp only at hSw
      try obtain ⟨hSw, hSw2⟩ := hSw
      try go_split_ands
      go_simp
      try with_reducible rfl
    try simp only [Act.put, List.setIfInBounds_toArray, List.set_cons_zero, List.set_cons_succ]
    refine wpAnyH_take (i := 8) (oi := { dst := some 79, op := Op.convert 5 3 (Operand.tmp 78), type := 3, pos := "ref.go:58", after := #[{ on := 7, ground := Ground.data }], guard := none }) (v := ?vq8) rfl (by kernel_rfl) (by kernel_rfl) (by kernel_rfl) (fun _ _ _ h => h) (Or.inl ⟨by rfl, ?hyq8⟩) (by assumption) ?restq8
    case hyq8 =>
      intro w hSw
      try dsimp only at hSw
      try obtain ⟨hSw, hSw2⟩ := hSw
      try go_split_ands
      go_simp
      try with_reducible rfl
    try simp only [Act.put, List.setIfInBounds_toArray, List.set_cons_zero, List.set_cons_succ]
    refine wpAnyH_take (i := 12) (oi := { dst := some 83, op := Op.fieldAddr 29 (Operand.tmp 1) 2, type := 0, pos := "ref.go:58", after := #[], guard := none }) (v := ?vq12) rfl (by kernel_rfl) (by kernel_rfl) (by kernel_rfl) (fun _ _ _ h => h) (Or.inl ⟨by rfl, ?hyq12⟩) (by assumption) ?restq12
    case hyq12 =>
      intro w hSw
      try dsimp only at hSw
      try obtain ⟨hSw, hSw2⟩ := hSw
      try go_split_ands
      go_simp
      try with_reducible rfl
    try simp only [Act.put, List.setIfInBounds_toArray, List.set_cons_zero, List.set_cons_succ]
    refine wpAnyH_take (i := 13) (oi := { dst := some 84, op := Op.load 5 (Operand.tmp 83), type := 5, pos := "ref.go:58", after := #[{ on := 12, ground := Ground.data }], guard := none }) (v := ?vq13) rfl (by kernel_rfl) (by kernel_rfl) (by kernel_rfl) (fun _ _ _ h => h) (Or.inl ⟨by rfl, ?hyq13⟩) (by assumption) ?restq13
    case hyq13 =>
      intro w hSw
      try dsimp only at hSw
      try obtain ⟨hSw, hSw2⟩ := hSw
      try go_split_ands
      go_simp
      try with_reducible rfl
    try simp only [Act.put, List.setIfInBounds_toArray, List.set_cons_zero, List.set_cons_succ]
    refine wpAnyH_take (i := 14) (oi := { dst := some 85, op := Op.convert 5 3 (Operand.tmp 84), type := 3, pos := "ref.go:58", after := #[{ on := 13, ground := Ground.data }], guard := none }) (v := ?vq14) rfl (by kernel_rfl) (by kernel_rfl) (by kernel_rfl) (fun _ _ _ h => h) (Or.inl ⟨by rfl, ?hyq14⟩) (by assumption) ?restq14
    case hyq14 =>
      intro w hSw
      try dsimp only at hSw
      try obtain ⟨hSw, hSw2⟩ := hSw
      try go_split_ands
      go_simp
      try with_reducible rfl
    try simp only [Act.put, List.setIfInBounds_toArray, List.set_cons_zero, List.set_cons_succ]
    refine wpAnyH_take (i := 18) (oi := { dst := some 89, op := Op.fieldAddr 29 (Operand.tmp 1) 3, type := 0, pos := "ref.go:58", after := #[], guard := none }) (v := ?vq18) rfl (by kernel_rfl) (by kernel_rfl) (by kernel_rfl) (fun _ _ _ h => h) (Or.inl ⟨by rfl, ?hyq18⟩) (by assumption) ?restq18
    case hyq18 =>
      intro w hSw
      try dsimp only at hSw
      try obtain ⟨hSw, hSw2⟩ := hSw
      try go_split_ands
      go_simp
      try with_reducible rfl
    try simp only [Act.put, List.setIfInBounds_toArray, List.set_cons_zero, List.set_cons_succ]
    refine wpAnyH_take (i := 19) (oi := { dst := some 90, op := Op.load 23 (Operand.tmp 89), type := 23, pos := "ref.go:58", after := #[{ on := 18, ground := Ground.data }], guard := none }) (v := ?vq19) rfl (by kernel_rfl) (by kernel_rfl) (by kernel_rfl) (fun _ _ _ h => h) (Or.inl ⟨by rfl, ?hyq19⟩) (by assumption) ?restq19
    case hyq19 =>
      intro w hSw
      try dsimp only at hSw
      try obtain ⟨hSw, hSw2⟩ := hSw
      try go_split_ands
      go_simp
      try with_reducible rfl
    try simp only [Act.put, List.setIfInBounds_toArray, List.set_cons_zero, List.set_cons_succ]
    refine wpAnyH_take (i := 20) (oi := { dst := some 91, op := Op.convert 23 3 (Operand.tmp 90), type := 3, pos := "ref.go:58", after := #[{ on := 19, ground := Ground.data }], guard := none }) (v := ?vq20) rfl (by kernel_rfl) (by kernel_rfl) (by kernel_rfl) (fun _ _ _ h => h) (Or.inl ⟨by rfl, ?hyq20⟩) (by assumption) ?restq20
    case hyq20 =>
      intro w hSw
      try dsimp only at hSw
      try obtain ⟨hSw, hSw2⟩ := hSw
      try go_split_ands
      go_simp
      try with_reducible rfl
    try simp only [Act.put, List.setIfInBounds_toArray, List.set_cons_zero, List.set_cons_succ]
    refine wpAnyH_ready (rs := [3]) (by kernel_rfl) (by simp) ?_
    refine AllReadyH.cons (o := { dst := some 74, op := Op.call { callee := Callee.value (Operand.func 38), args := #[Operand.tmp 73], argTypes := #[3] }, type := 9, pos := "ref.go:58", after := #[{ on := 2, ground := Ground.data }], guard := none }) rfl (fun K' hK => ?_) AllReadyH.nil
    go_simp
    refine (HDc.out _).mono ?_
    rintro e wz1 ⟨rfl, hbz⟩
    have hzz1 := Lib.hid (hzz0.out.trans (hbz.mono hzz0.out.size))
    clear hHeld
    refine hK.out _ _ (SOK.out _ hzz1.out) (fun hHeld => ?_)
    clear hK K'
    try simp only [Act.put, List.setIfInBounds_toArray, List.set_cons_zero, List.set_cons_succ]
    clear hbz hzz0
    refine wpAnyH_take (i := 4) (oi := { dst := some 75, op := Op.binOp BinOp.add 9 (Operand.const (Value.string { data := #[46, 99, 111, 100, 101, 32] })) (Operand.tmp 74) 9, type := 9, pos := "ref.go:58", after := #[{ on := 3, ground := Ground.data }], guard := none }) (v := (.string (⟨#[46, 99, 111, 100, 101, 32]⟩ ++ dc))) rfl (by kernel_rfl) (by kernel_rfl) (by kernel_rfl) (fun _ _ _ h => h) (Or.inl ⟨by rfl, ?hyq4⟩) (by assumption) ?restq4
    case hyq4 =>
      intro w hSw
      try dsimp only at hSw
      try obtain ⟨hSw, hSw2⟩ := hSw
      try go_split_ands
      go_simp
      try with_reducible rfl
      try omega
    try simp only [Act.put, List.setIfInBounds_toArray, List.set_cons_zero, List.set_cons_succ]
    refine wpAnyH_take (i := 5) (oi := { dst := some 76, op := Op.binOp BinOp.add 9 (Operand.tmp 75) (Operand.const (Value.string { data := #[32] })) 9, type := 9, pos := "ref.go:58", after := #[{ on := 4, ground := Ground.data }], guard := none }) (v := (.string (⟨#[46, 99, 111, 100, 101, 32]⟩ ++ dc ++ ⟨#[32]⟩))) rfl (by kernel_rfl) (by kernel_rfl) (by kernel_rfl) (fun _ _ _ h => h) (Or.inl ⟨by rfl, ?hyq5⟩) (by assumption) ?restq5
    case hyq5 =>
      intro w hSw
      try dsimp only at hSw
      try obtain ⟨hSw, hSw2⟩ := hSw
      try go_split_ands
      go_simp
      try with_reducible rfl
      try omega
    try simp only [Act.put, List.setIfInBounds_toArray, List.set_cons_zero, List.set_cons_succ]
    refine wpAnyH_ready (rs := [9]) (by kernel_rfl) (by simp) ?_
    refine AllReadyH.cons (o := { dst := some 80, op := Op.call { callee := Callee.value (Operand.func 38), args := #[Operand.tmp 79], argTypes := #[3] }, type := 9, pos := "ref.go:58", after := #[{ on := 8, ground := Ground.data }, { on := 3, ground := Ground.chain }], guard := none }) rfl (fun K' hK => ?_) AllReadyH.nil
    go_simp
    refine (HDjt.out _).mono ?_
    rintro e wz2 ⟨rfl, hbz⟩
    have hzz2 := Lib.hid (hzz1.out.trans (hbz.mono hzz1.out.size))
    clear hHeld
    refine hK.out _ _ (SOK.out _ hzz2.out) (fun hHeld => ?_)
    clear hK K'
    try simp only [Act.put, List.setIfInBounds_toArray, List.set_cons_zero, List.set_cons_succ]
    clear hbz hzz1
    refine wpAnyH_take (i := 10) (oi := { dst := some 81, op := Op.binOp BinOp.add 9 (Operand.tmp 76) (Operand.tmp 80) 9, type := 9, pos := "ref.go:58", after := #[{ on := 5, ground := Ground.data }, { on := 9, ground := Ground.data }], guard := none }) (v := (.string (⟨#[46, 99, 111, 100, 101, 32]⟩ ++ dc ++ ⟨#[32]⟩ ++ dt))) rfl (by kernel_rfl) (by kernel_rfl) (by kernel_rfl) (fun _ _ _ h => h) (Or.inl ⟨by rfl, ?hyq10⟩) (by assumption) ?restq10
    case hyq10 =>
      intro w hSw
      try dsimp only at hSw
      try obtain ⟨hSw, hSw2⟩ := hSw
      try go_split_ands
      go_simp
      try with_reducible rfl
      try omega
    try simp only [Act.put, List.setIfInBounds_toArray, List.set_cons_zero, List.set_cons_succ]
    refine wpAnyH_take (i := 11) (oi := { dst := some 82, op := Op.binOp BinOp.add 9 (Operand.tmp 81) (Operand.const (Value.string { data := #[32] })) 9, type := 9, pos := "ref.go:58", after := #[{ on := 10, ground := Ground.data }], guard := none }) (v := (.string (⟨#[46, 99, 111, 100, 101, 32]⟩ ++ dc ++ ⟨#[32]⟩ ++ dt ++ ⟨#[32]⟩))) rfl (by kernel_rfl) (by kernel_rfl) (by kernel_rfl) (fun _ _ _ h => h) (Or.inl ⟨by rfl, ?hyq11⟩) (by assumption) ?restq11
    case hyq11 =>
      intro w hSw
      try dsimp only at hSw
      try obtain ⟨hSw, hSw2⟩ := hSw
      try go_split_ands
      go_simp
      try with_reducible rfl
      try omega
    try simp only [Act.put, List.setIfInBounds_toArray, List.set_cons_zero, List.set_cons_succ]
    refine wpAnyH_ready (rs := [15]) (by kernel_rfl) (by simp) ?_
    refine AllReadyH.cons (o := { dst := some 86, op := Op.call { callee := Callee.value (Operand.func 38), args := #[Operand.tmp 85], argTypes := #[3] }, type := 9, pos := "ref.go:58", after := #[{ on := 14, ground := Ground.data }, { on := 9, ground := Ground.chain }], guard := none }) rfl (fun K' hK => ?_) AllReadyH.nil
    go_simp
    refine (HDjf.out _).mono ?_
    rintro e wz3 ⟨rfl, hbz⟩
    have hzz3 := Lib.hid (hzz2.out.trans (hbz.mono hzz2.out.size))
    clear hHeld
    refine hK.out _ _ (SOK.out _ hzz3.out) (fun hHeld => ?_)
    clear hK K'
    try simp only [Act.put, List.setIfInBounds_toArray, List.set_cons_zero, List.set_cons_succ]
    clear hbz hzz2
    refine wpAnyH_take (i := 16) (oi := { dst := some 87, op := Op.binOp BinOp.add 9 (Operand.tmp 82) (Operand.tmp 86) 9, type := 9, pos := "ref.go:58", after := #[{ on := 11, ground := Ground.data }, { on := 15, ground := Ground.data }], guard := none }) (v := (.string (⟨#[46, 99, 111, 100, 101, 32]⟩ ++ dc ++ ⟨#[32]⟩ ++ dt ++ ⟨#[32]⟩ ++ df))) rfl (by kernel_rfl) (by kernel_rfl) (by kernel_rfl) (fun _ _ _ h => h) (Or.inl ⟨by rfl, ?hyq16⟩) (by assumption) ?restq16
    case hyq16 =>
      intro w hSw
      try dsimp only at hSw
      try obtain ⟨hSw, hSw2⟩ := hSw
      try go_split_ands
      go_simp
      try with_reducible rfl
      try omega
    try simp only [Act.put, List.setIfInBounds_toArray, List.set_cons_zero, List.set_cons_succ]
    refine wpAnyH_take (i := 17) (oi := { dst := some 88, op := Op.binOp BinOp.add 9 (Operand.tmp 87) (Operand.const (Value.string { data := #[32] })) 9, type := 9, pos := "ref.go:58", after := #[{ on := 16, ground := Ground.data }], guard := none }) (v := (.string (⟨#[46, 99, 111, 100, 101, 32]⟩ ++ dc ++ ⟨#[32]⟩ ++ dt ++ ⟨#[32]⟩ ++ df ++ ⟨#[32]⟩))) rfl (by kernel_rfl) (by kernel_rfl) (by kernel_rfl) (fun _ _ _ h => h) (Or.inl ⟨by rfl, ?hyq17⟩) (by assumption) ?restq17
    case hyq17 =>
      intro w hSw
      try dsimp only at hSw
      try obtain ⟨hSw, hSw2⟩ := hSw
      try go_split_ands
      go_simp
      try with_reducible rfl
      try omega
    try simp only [Act.put, List.setIfInBounds_toArray, List.set_cons_zero, List.set_cons_succ]
    refine wpAnyH_ready (rs := [21]) (by kernel_rfl) (by simp) ?_
    refine AllReadyH.cons (o := { dst := some 92, op := Op.call { callee := Callee.value (Operand.func 38), args := #[Operand.tmp 91], argTypes := #[3] }, type := 9, pos := "ref.go:58", after := #[{ on := 20, ground := Ground.data }, { on := 15, ground := Ground.chain }], guard := none }) rfl (fun K' hK => ?_) AllReadyH.nil
    go_simp
    refine (HDk.out _).mono ?_
    rintro e wz4 ⟨rfl, hbz⟩
    have hzz4 := Lib.hid (hzz3.out.trans (hbz.mono hzz3.out.size))
    clear hHeld
    refine hK.out _ _ (SOK.out _ hzz4.out) (fun hHeld => ?_)
    clear hK K'
    try simp only [Act.put, List.setIfInBounds_toArray, List.set_cons_zero, List.set_cons_succ]
    clear hbz hzz3
    refine wpAnyH_take (i := 22) (oi := { dst := some 93, op := Op.binOp BinOp.add 9 (Operand.tmp 88) (Operand.tmp 92) 9, type := 9, pos := "ref.go:58", after := #[{ on := 17, ground := Ground.data }, { on := 21, ground := Ground.data }], guard := none }) (v := (.string (⟨#[46, 99, 111, 100, 101, 32]⟩ ++ dc ++ ⟨#[32]⟩ ++ dt ++ ⟨#[32]⟩ ++ df ++ ⟨#[32]⟩ ++ dk))) rfl (by kernel_rfl) (by kernel_rfl) (by kernel_rfl) (fun _ _ _ h => h) (Or.inl ⟨by rfl, ?hyq22⟩) (by assumption) ?restq22
    case hyq22 =>
      intro w hSw
      try dsimp only at hSw
      try obtain ⟨hSw, hSw2⟩ := hSw
      try go_split_ands
      go_simp
      try with_reducible rfl
      try omega
    try simp only [Act.put, List.setIfInBounds_toArray, List.set_cons_zero, List.set_cons_succ]
    refine wpAnyH_take (i := 23) (oi := { dst := some 2, op := Op.assign (Operand.tmp 93), type := 9, pos := "ref.go:58", after := #[{ on := 22, ground := Ground.data }, { on := 21, ground := Ground.chain }, { on := 0, ground := Ground.phase }, { on := 1, ground := Ground.phase }, { on := 2, ground := Ground.phase }, { on := 3, ground := Ground.phase }, { on := 4, ground := Ground.phase }, { on := 5, ground := Ground.phase }, { on := 6, ground := Ground.phase }, { on := 7, ground := Ground.phase }, { on := 8, ground := Ground.phase }, { on := 9, ground := Ground.phase }, { on := 10, ground := Ground.phase }, { on := 11, ground := Ground.phase }, { on := 12, ground := Ground.phase }, { on := 13, ground := Ground.phase }, { on := 14, ground := Ground.phase }, { on := 15, ground := Ground.phase }, { on := 16, ground := Ground.phase }, { on := 17, ground := Ground.phase }, { on := 18, ground := Ground.phase }, { on := 19, ground := Ground.phase }, { on := 20, ground := Ground.phase }, { on := 21, ground := Ground.phase }, { on := 22, ground := Ground.phase }], guard := none }) (v := ?vq23) rfl (by kernel_rfl) (by kernel_rfl) (by kernel_rfl) (fun _ _ _ h => h) (Or.inl ⟨by rfl, ?hyq23⟩) (by assumption) ?restq23
    case hyq23 =>
      intro w hSw
      try dsimp only at hSw
      try obtain ⟨hSw, hSw2⟩ := hSw
      try go_split_ands
      go_simp
      try with_reducible rfl
    try simp only [Act.put, List.setIfInBounds_toArray, List.set_cons_zero, List.set_cons_succ]
    refine wpAnyH_done (by kernel_rfl) ?_ _
    refine NoPanic.normal ?_
    go_wp2
    go_ret
    exact ⟨by rw [HR.out]; rfl, HBw.out _ hzz4.out⟩
  have kz : ¬ (K : Int) = 0 := by omega
  have kzb : ((K : Int) != 0) = true := by simpa using kz
  have HL := Lib.hid (HL2.out hK0)
  have c0 := (HCA.out W1 (Below.refl _ _)).cell 3
  simp only [List.getElem?_toArray, List.getElem?_cons_zero, List.getElem?_cons_succ] at c0
  clear HL1 HL2 hK0
  go_wp2_with fail
  refine (HDk.out _).mono ?_
  rintro e W2 ⟨rfl, hb2⟩
  have HZ2 : Hid (Below W1.heap.size W1 W2) := hb2
  clear hb2 c0
  go_wp2_with fail
  refine (HOT.out _).mono ?_
  rintro e W3 ⟨rfl, hb3⟩
  have HZ3 := belB HZ2 hb3
  have hC3 := HCA.out _ HZ3.out
  clear hb3 HZ2 HOT
  have c1 := hC3.cell 1
  have c2 := hC3.cell 2
  have c3 := hC3.cell 3
  simp only [List.getElem?_toArray, List.getElem?_cons_zero, List.getElem?_cons_succ] at c1 c2 c3
  have hj : decide (25 ≤ K) = decide ((25 : Int) ≤ (K : Int)) := by by_cases h : 25 ≤ K <;> simp [h] <;> omega
  go_upto_region 5 with fail
  have hkz : (Hid (k = 0) ∧ ((k : Int) == 0) = true) ∨ (Hid (¬ k = 0) ∧ ((k : Int) == 0) = false) := by
    by_cases h : k = 0
    · exact .inl ⟨h, by rw [h]; rfl⟩
    · exact .inr ⟨h, by simpa using h⟩
  have hjz : (Hid (jt = 0) ∧ ((jt : Int) == 0) = true) ∨ (Hid (¬ jt = 0) ∧ ((jt : Int) == 0) = false) := by
    by_cases h : jt = 0
    · exact .inl ⟨h, by rw [h]; rfl⟩
    · exact .inr ⟨h, by simpa using h⟩
  have hlz : (Hid (jf = 0) ∧ ((jf : Int) == 0) = true) ∨ (Hid (¬ jf = 0) ∧ ((jf : Int) == 0) = false) := by
    by_cases h : jf = 0
    · exact .inl ⟨h, by rw [h]; rfl⟩
    · exact .inr ⟨h, by simpa using h⟩
  have HJ := Lib.hid hj
  obtain ⟨J, hJ⟩ : ∃ J, decide ((25 : Int) ≤ (K : Int)) = J := ⟨_, rfl⟩
  rw [hJ] at HJ
  rw [HJ.out] at HL
  simp only [hJ]
  clear hj hJ HJ
  go_cut [47] (fun s47 wx => s47 = .bool ((bears || k == 0) && (J || (jt == 0 && jf == 0))) ∧ W3 = wx)
  case first =>
    rcases hkz with ⟨k1, k3⟩ | ⟨k1, k3⟩
    all_goals rcases hjz with ⟨j1, j3⟩ | ⟨j1, j3⟩
    all_goals rcases hlz with ⟨l1, l3⟩ | ⟨l1, l3⟩
    all_goals cases bears
    all_goals cases J
    all_goals
      go_wp2
      go_meet
      exact ⟨by simp [k1.out, j1.out, l1.out], rfl⟩
  case rest =>
    obtain ⟨rfl, rfl⟩ := hcut
    clear c1 c2 c3 hC3 hkz hjz hlz
    generalize ((bears || k == 0) && (J || (jt == 0 && jf == 0))) = ok at *
    cases ok with
    | false =>
      have HR : Hid (L = _) := HL
      have SOK : Hid (∀ w', Below W1.heap.size W1 w' → (w'.cell? ⟨w.heap.size, 0, none⟩ = some (.int .u16 (c : Int)) ∧ w'.cell? ⟨w.heap.size, 1, none⟩ = some (.int .u8 (jt : Int)) ∧ w'.cell? ⟨w.heap.size, 2, none⟩ = some (.int .u8 (jf : Int)) ∧ w'.cell? ⟨w.heap.size, 3, none⟩ = some (.int .u32 (k : Int)))) := fun w' h => ⟨(HCA.out w' h).cell 0, (HCA.out w' h).cell 1, (HCA.out w' h).cell 2, (HCA.out w' h).cell 3⟩
      go_upto_region 12 with fail
      refine wp_region_noPanic ?_
      refine wp_region_held_drew (S := fun w' => w'.cell? ⟨w.heap.size, 0, none⟩ = some (.int .u16 (c : Int)) ∧ w'.cell? ⟨w.heap.size, 1, none⟩ = some (.int .u8 (jt : Int)) ∧ w'.cell? ⟨w.heap.size, 2, none⟩ = some (.int .u8 (jf : Int)) ∧ w'.cell? ⟨w.heap.size, 3, none⟩ = some (.int .u32 (k : Int))) (by kernel_rfl) (by first | exact SOK.out _ HZ3.out.drew) (fun hHeld => ?_)
      have hzz0 := Lib.hid HZ3.out.drew
      clear HZ3
      generalize W3.drew = wz0 at *
      refine wpAnyH_take (i := 0) (oi := { dst := some 71, op := Op.fieldAddr 29 (Operand.tmp 1) 0, type := 0, pos := "ref.go:58", after := #[], guard := none }) (v := ?vr0) rfl (by kernel_rfl) (by kernel_rfl) (by kernel_rfl) (fun _ _ _ h => h) (Or.inl ⟨by rfl, ?hyr0⟩) (by assumption) ?restr0
      case hyr0 =>
        intro w hSw
        try dsimp only at hSw
        try obtain ⟨hSw, hSw2⟩ := hSw
        try go_split_ands
        go_simp
        try with_reducible rfl
      try simp only [Act.put, List.setIfInBounds_toArray, List.set_cons_zero, List.set_cons_succ]
      refine wpAnyH_take (i := 1) (oi := { dst := some 72, op := Op.load 22 (Operand.tmp 71), type := 22, pos := "ref.go:58", after := #[{ on := 0, ground := Ground.data }], guard := none }) (v := ?vr1) rfl (by kernel_rfl) (by kernel_rfl) (by kernel_rfl) (fun _ _ _ h => h) (Or.inl ⟨by rfl, ?hyr1⟩) (by assumption) ?restr1
      case hyr1 =>
        intro w hSw
        try dsimp only at hSw
        try obtain ⟨hSw, hSw2⟩ := hSw
        try go_split_ands
        go_simp
        try with_reducible rfl
      try simp only [Act.put, List.setIfInBounds_toArray, List.set_cons_zero, List.set_cons_succ]
      refine wpAnyH_take (i := 2) (oi := { dst := some 73, op := Op.convert 22 3 (Operand.tmp 72), type := 3, pos := "ref.go:58", after := #[{ on := 1, ground := Ground.data }], guard := none }) (v := ?vr2) rfl (by kernel_rfl) (by kernel_rfl) (by kernel_rfl) (fun _ _ _ h => h) (Or.inl ⟨by rfl, ?hyr2⟩) (by assumption) ?restr2
      case hyr2 =>
        intro w hSw
        try dsimp only at hSw
        try obtain ⟨hSw, hSw2⟩ := hSw
        try go_split_ands
        go_simp
        try with_reducible rfl
      try simp only [Act.put, List.setIfInBounds_toArray, List.set_cons_zero, List.set_cons_succ]
      refine wpAnyH_take (i := 6) (oi := { dst := some 77, op := Op.fieldAddr 29 (Operand.tmp 1) 1, type := 0, pos := "ref.go:58", after := #[], guard := none }) (v := ?vr6) rfl (by kernel_rfl) (by kernel_rfl) (by kernel_rfl) (fun _ _ _ h => h) (Or.inl ⟨by rfl, ?hyr6⟩) (by assumption) ?restr6
      case hyr6 =>
        intro w hSw
        try dsimp only at hSw
        try obtain ⟨hSw, hSw2⟩ := hSw
        try go_split_ands
        go_simp
        try with_reducible rfl
      try simp only [Act.put, List.setIfInBounds_toArray, List.set_cons_zero, List.set_cons_succ]
      refine wpAnyH_take (i := 7) (oi := { dst := some 78, op := Op.load 5 (Operand.tmp 77), type := 5, pos := "ref.go:58", after := #[{ on := 6, ground := Ground.data }], guard := none }) (v := ?vr7) rfl (by kernel_rfl) (by kernel_rfl) (by kernel_rfl) (fun _ _ _ h => h) (Or.inl ⟨by rfl, ?hyr7⟩) (by assumption) ?restr7
      case hyr7 =>
        intro w hSw
        try dsimp only at hSw
        try obtain ⟨hSw, hSw2⟩ := hSw
        try go_split_ands
        go_simp
        try with_reducible rfl
      try simp only [Act.put, List.setIfInBounds_toArray, List.set_cons_zero, List.set_cons_succ]
      refine wpAnyH_take (i := 8) (oi := { dst := some 79, op := Op.convert 5 3 (Operand.tmp 78), type := 3, pos := "ref.go:58", after := #[{ on := 7, ground := Ground.data }], guard := none }) (v := ?vr8) rfl (by kernel_rfl) (by kernel_rfl) (by kernel_rfl) (fun _ _ _ h => h) (Or.inl ⟨by rfl, ?hyr8⟩) (by assumption) ?restr8
      case hyr8 =>
        intro w hSw
        try dsimp only at hSw
        try obtain ⟨hSw, hSw2⟩ := hSw
        try go_split_ands
        go_simp
        try with_reducible rfl
      try simp only [Act.put, List.setIfInBounds_toArray, List.set_cons_zero, List.set_cons_succ]
      refine wpAnyH_take (i := 12) (oi := { dst := some 83, op := Op.fieldAddr 29 (Operand.tmp 1) 2, type := 0, pos := "ref.go:58", after := #[], guard := none }) (v := ?vr12) rfl (by kernel_rfl) (by kernel_rfl) (by kernel_rfl) (fun _ _ _ h => h) (Or.inl ⟨by rfl, ?hyr12⟩) (by assumption) ?restr12
      case hyr12 =>
        intro w hSw
        try dsimp only at hSw
        try obtain ⟨hSw, hSw2⟩ := hSw
        try go_split_ands
        go_simp
        try with_reducible rfl
      try simp only [Act.put, List.setIfInBounds_toArray, List.set_cons_zero, List.set_cons_succ]
      refine wpAnyH_take (i := 13) (oi := { dst := some 84, op := Op.load 5 (Operand.tmp 83), type := 5, pos := "ref.go:58", after := #[{ on := 12, ground := Ground.data }], guard := none }) (v := ?vr13) rfl (by kernel_rfl) (by kernel_rfl) (by kernel_rfl) (fun _ _ _ h => h) (Or.inl ⟨by rfl, ?hyr13⟩) (by assumption) ?restr13
      case hyr13 =>
        intro w hSw
        try dsimp only at hSw
        try obtain ⟨hSw, hSw2⟩ := hSw
        try go_split_ands
        go_simp
        try with_reducible rfl
      try simp only [Act.put, List.setIfInBounds_toArray, List.set_cons_zero, List.set_cons_succ]
      refine wpAnyH_take (i := 14) (oi := { dst := some 85, op := Op.convert 5 3 (Operand.tmp 84), type := 3, pos := "ref.go:58", after := #[{ on := 13, ground := Ground.data }], guard := none }) (v := ?vr14) rfl (by kernel_rfl) (by kernel_rfl) (by kernel_rfl) (fun _ _ _ h => h) (Or.inl ⟨by rfl, ?hyr14⟩) (by assumption) ?restr14
      case hyr14 =>
        intro w hSw
        try dsimp only at hSw
        try obtain ⟨hSw, hSw2⟩ := hSw
        try go_split_ands
        go_simp
        try with_reducible rfl
      try simp only [Act.put, List.setIfInBounds_toArray, List.set_cons_zero, List.set_cons_succ]
      refine wpAnyH_take (i := 18) (oi := { dst := some 89, op := Op.fieldAddr 29 (Operand.tmp 1) 3, type := 0, pos := "ref.go:58", after := #[], guard := none }) (v := ?vr18) rfl (by kernel_rfl) (by kernel_rfl) (by kernel_rfl) (fun _ _ _ h => h) (Or.inl ⟨by rfl, ?hyr18⟩) (by assumption) ?restr18
      case hyr18 =>
        intro w hSw
        try dsimp only at hSw
        try obtain ⟨hSw, hSw2⟩ := hSw
        try go_split_ands
        go_simp
        try with_reducible rfl
      try simp only [Act.put, List.setIfInBounds_toArray, List.set_cons_zero, List.set_cons_succ]
      refine wpAnyH_take (i := 19) (oi := { dst := some 90, op := Op.load 23 (Operand.tmp 89), type := 23, pos := "ref.go:58", after := #[{ on := 18, ground := Ground.data }], guard := none }) (v := ?vr19) rfl (by kernel_rfl) (by kernel_rfl) (by kernel_rfl) (fun _ _ _ h => h) (Or.inl ⟨by rfl, ?hyr19⟩) (by assumption) ?restr19
      case hyr19 =>
        intro w hSw
        try dsimp only at hSw
        try obtain ⟨hSw, hSw2⟩ := hSw
        try go_split_ands
        go_simp
        try with_reducible rfl
      try simp only [Act.put, List.setIfInBounds_toArray, List.set_cons_zero, List.set_cons_succ]
      refine wpAnyH_take (i := 20) (oi := { dst := some 91, op := Op.convert 23 3 (Operand.tmp 90), type := 3, pos := "ref.go:58", after := #[{ on := 19, ground := Ground.data }], guard := none }) (v := ?vr20) rfl (by kernel_rfl) (by kernel_rfl) (by kernel_rfl) (fun _ _ _ h => h) (Or.inl ⟨by rfl, ?hyr20⟩) (by assumption) ?restr20
      case hyr20 =>
        intro w hSw
        try dsimp only at hSw
        try obtain ⟨hSw, hSw2⟩ := hSw
        try go_split_ands
        go_simp
        try with_reducible rfl
      try simp only [Act.put, List.setIfInBounds_toArray, List.set_cons_zero, List.set_cons_succ]
      refine wpAnyH_ready (rs := [3]) (by kernel_rfl) (by simp) ?_
      refine AllReadyH.cons (o := { dst := some 74, op := Op.call { callee := Callee.value (Operand.func 38), args := #[Operand.tmp 73], argTypes := #[3] }, type := 9, pos := "ref.go:58", after := #[{ on := 2, ground := Ground.data }], guard := none }) rfl (fun K' hK => ?_) AllReadyH.nil
      go_simp
      refine (HDc.out _).mono ?_
      rintro e wz1 ⟨rfl, hbz⟩
      have hzz1 := Lib.hid (hzz0.out.trans (hbz.mono hzz0.out.size))
      clear hHeld
      refine hK.out _ _ (SOK.out _ hzz1.out) (fun hHeld => ?_)
      clear hK K'
      try simp only [Act.put, List.setIfInBounds_toArray, List.set_cons_zero, List.set_cons_succ]
      clear hbz hzz0
      refine wpAnyH_take (i := 4) (oi := { dst := some 75, op := Op.binOp BinOp.add 9 (Operand.const (Value.string { data := #[46, 99, 111, 100, 101, 32] })) (Operand.tmp 74) 9, type := 9, pos := "ref.go:58", after := #[{ on := 3, ground := Ground.data }], guard := none }) (v := (.string (⟨#[46, 99, 111, 100, 101, 32]⟩ ++ dc))) rfl (by kernel_rfl) (by kernel_rfl) (by kernel_rfl) (fun _ _ _ h => h) (Or.inl ⟨by rfl, ?hyr4⟩) (by assumption) ?restr4
      case hyr4 =>
        intro w hSw
        try dsimp only at hSw
        try obtain ⟨hSw, hSw2⟩ := hSw
        try go_split_ands
        go_simp
        try with_reducible rfl
        try omega
      try simp only [Act.put, List.setIfInBounds_toArray, List.set_cons_zero, List.set_cons_succ]
      refine wpAnyH_take (i := 5) (oi := { dst := some 76, op := Op.binOp BinOp.add 9 (Operand.tmp 75) (Operand.const (Value.string { data := #[32] })) 9, type := 9, pos := "ref.go:58", after := #[{ on := 4, ground := Ground.data }], guard := none }) (v := (.string (⟨#[46, 99, 111, 100, 101, 32]⟩ ++ dc ++ ⟨#[32]⟩))) rfl (by kernel_rfl) (by kernel_rfl) (by kernel_rfl) (fun _ _ _ h => h) (Or.inl ⟨by rfl, ?hyr5⟩) (by assumption) ?restr5
      case hyr5 =>
        intro w hSw
        try dsimp only at hSw
        try obtain ⟨hSw, hSw2⟩ := hSw
        try go_split_ands
        go_simp
        try with_reducible rfl
        try omega
      try simp only [Act.put, List.setIfInBounds_toArray, List.set_cons_zero, List.set_cons_succ]
      refine wpAnyH_ready (rs := [9]) (by kernel_rfl) (by simp) ?_
      refine AllReadyH.cons (o := { dst := some 80, op := Op.call { callee := Callee.value (Operand.func 38), args := #[Operand.tmp 79], argTypes := #[3] }, type := 9, pos := "ref.go:58", after := #[{ on := 8, ground := Ground.data }, { on := 3, ground := Ground.chain }], guard := none }) rfl (fun K' hK => ?_) AllReadyH.nil
      go_simp
      refine (HDjt.out _).mono ?_
      rintro e wz2 ⟨rfl, hbz⟩
      have hzz2 := Lib.hid (hzz1.out.trans (hbz.mono hzz1.out.size))
      clear hHeld
      refine hK.out _ _ (SOK.out _ hzz2.out) (fun hHeld => ?_)
      clear hK K'
      try simp only [Act.put, List.setIfInBounds_toArray, List.set_cons_zero, List.set_cons_succ]
      clear hbz hzz1
      refine wpAnyH_take (i := 10) (oi := { dst := some 81, op := Op.binOp BinOp.add 9 (Operand.tmp 76) (Operand.tmp 80) 9, type := 9, pos := "ref.go:58", after := #[{ on := 5, ground := Ground.data }, { on := 9, ground := Ground.data }], guard := none }) (v := (.string (⟨#[46, 99, 111, 100, 101, 32]⟩ ++ dc ++ ⟨#[32]⟩ ++ dt))) rfl (by kernel_rfl) (by kernel_rfl) (by kernel_rfl) (fun _ _ _ h => h) (Or.inl ⟨by rfl, ?hyr10⟩) (by assumption) ?restr10
      case hyr10 =>
        intro w hSw
        try dsimp only at hSw
        try obtain ⟨hSw, hSw2⟩ := hSw
        try go_split_ands
        go_simp
        try with_reducible rfl
        try omega
      try simp only [Act.put, List.setIfInBounds_toArray, List.set_cons_zero, List.set_cons_succ]
      refine wpAnyH_take (i := 11) (oi := { dst := some 82, op := Op.binOp BinOp.add 9 (Operand.tmp 81) (Operand.const (Value.string { data := #[32] })) 9, type := 9, pos := "ref.go:58", after := #[{ on := 10, ground := Ground.data }], guard := none }) (v := (.string (⟨#[46, 99, 111, 100, 101, 32]⟩ ++ dc ++ ⟨#[32]⟩ ++ dt ++ ⟨#[32]⟩))) rfl (by kernel_rfl) (by kernel_rfl) (by kernel_rfl) (fun _ _ _ h => h) (Or.inl ⟨by rfl, ?hyr11⟩) (by assumption) ?restr11
      case hyr11 =>
        intro w hSw
        try dsimp only at hSw
        try obtain ⟨hSw, hSw2⟩ := hSw
        try go_split_ands
        go_simp
        try with_reducible rfl
        try omega
      try simp only [Act.put, List.setIfInBounds_toArray, List.set_cons_zero, List.set_cons_succ]
      refine wpAnyH_ready (rs := [15]) (by kernel_rfl) (by simp) ?_
      refine AllReadyH.cons (o := { dst := some 86, op := Op.call { callee := Callee.value (Operand.func 38), args := #[Operand.tmp 85], argTypes := #[3] }, type := 9, pos := "ref.go:58", after := #[{ on := 14, ground := Ground.data }, { on := 9, ground := Ground.chain }], guard := none }) rfl (fun K' hK => ?_) AllReadyH.nil
      go_simp
      refine (HDjf.out _).mono ?_
      rintro e wz3 ⟨rfl, hbz⟩
      have hzz3 := Lib.hid (hzz2.out.trans (hbz.mono hzz2.out.size))
      clear hHeld
      refine hK.out _ _ (SOK.out _ hzz3.out) (fun hHeld => ?_)
      clear hK K'
      try simp only [Act.put, List.setIfInBounds_toArray, List.set_cons_zero, List.set_cons_succ]
      clear hbz hzz2
      refine wpAnyH_take (i := 16) (oi := { dst := some 87, op := Op.binOp BinOp.add 9 (Operand.tmp 82) (Operand.tmp 86) 9, type := 9, pos := "ref.go:58", after := #[{ on := 11, ground := Ground.data }, { on := 15, ground := Ground.data }], guard := none }) (v := (.string (⟨#[46, 99, 111, 100, 101, 32]⟩ ++ dc ++ ⟨#[32]⟩ ++ dt ++ ⟨#[32]⟩ ++ df))) rfl (by kernel_rfl) (by kernel_rfl) (by kernel_rfl) (fun _ _ _ h => h) (Or.inl ⟨by rfl, ?hyr16⟩) (by assumption) ?restr16
      case hyr16 =>
        intro w hSw
        try dsimp only at hSw
        try obtain ⟨hSw, hSw2⟩ := hSw
        try go_split_ands
        go_simp
        try with_reducible rfl
        try omega
      try simp only [Act.put, List.setIfInBounds_toArray, List.set_cons_zero, List.set_cons_succ]
      refine wpAnyH_take (i := 17) (oi := { dst := some 88, op := Op.binOp BinOp.add 9 (Operand.tmp 87) (Operand.const (Value.string { data := #[32] })) 9, type := 9, pos := "ref.go:58", after := #[{ on := 16, ground := Ground.data }], guard := none }) (v := (.string (⟨#[46, 99, 111, 100, 101, 32]⟩ ++ dc ++ ⟨#[32]⟩ ++ dt ++ ⟨#[32]⟩ ++ df ++ ⟨#[32]⟩))) rfl (by kernel_rfl) (by kernel_rfl) (by kernel_rfl) (fun _ _ _ h => h) (Or.inl ⟨by rfl, ?hyr17⟩) (by assumption) ?restr17
      case hyr17 =>
        intro w hSw
        try dsimp only at hSw
        try obtain ⟨hSw, hSw2⟩ := hSw
        try go_split_ands
        go_simp
        try with_reducible rfl
        try omega
      try simp only [Act.put, List.setIfInBounds_toArray, List.set_cons_zero, List.set_cons_succ]
      refine wpAnyH_ready (rs := [21]) (by kernel_rfl) (by simp) ?_
      refine AllReadyH.cons (o := { dst := some 92, op := Op.call { callee := Callee.value (Operand.func 38), args := #[Operand.tmp 91], argTypes := #[3] }, type := 9, pos := "ref.go:58", after := #[{ on := 20, ground := Ground.data }, { on := 15, ground := Ground.chain }], guard := none }) rfl (fun K' hK => ?_) AllReadyH.nil
      go_simp
      refine (HDk.out _).mono ?_
      rintro e wz4 ⟨rfl, hbz⟩
      have hzz4 := Lib.hid (hzz3.out.trans (hbz.mono hzz3.out.size))
      clear hHeld
      refine hK.out _ _ (SOK.out _ hzz4.out) (fun hHeld => ?_)
      clear hK K'
      try simp only [Act.put, List.setIfInBounds_toArray, List.set_cons_zero, List.set_cons_succ]
      clear hbz hzz3
      refine wpAnyH_take (i := 22) (oi := { dst := some 93, op := Op.binOp BinOp.add 9 (Operand.tmp 88) (Operand.tmp 92) 9, type := 9, pos := "ref.go:58", after := #[{ on := 17, ground := Ground.data }, { on := 21, ground := Ground.data }], guard := none }) (v := (.string (⟨#[46, 99, 111, 100, 101, 32]⟩ ++ dc ++ ⟨#[32]⟩ ++ dt ++ ⟨#[32]⟩ ++ df ++ ⟨#[32]⟩ ++ dk))) rfl (by kernel_rfl) (by kernel_rfl) (by kernel_rfl) (fun _ _ _ h => h) (Or.inl ⟨by rfl, ?hyr22⟩) (by assumption) ?restr22
      case hyr22 =>
        intro w hSw
        try dsimp only at hSw
        try obtain ⟨hSw, hSw2⟩ := hSw
        try go_split_ands
        go_simp
        try with_reducible rfl
        try omega
      try simp only [Act.put, List.setIfInBounds_toArray, List.set_cons_zero, List.set_cons_succ]
      refine wpAnyH_take (i := 23) (oi := { dst := some 2, op := Op.assign (Operand.tmp 93), type := 9, pos := "ref.go:58", after := #[{ on := 22, ground := Ground.data }, { on := 21, ground := Ground.chain }, { on := 0, ground := Ground.phase }, { on := 1, ground := Ground.phase }, { on := 2, ground := Ground.phase }, { on := 3, ground := Ground.phase }, { on := 4, ground := Ground.phase }, { on := 5, ground := Ground.phase }, { on := 6, ground := Ground.phase }, { on := 7, ground := Ground.phase }, { on := 8, ground := Ground.phase }, { on := 9, ground := Ground.phase }, { on := 10, ground := Ground.phase }, { on := 11, ground := Ground.phase }, { on := 12, ground := Ground.phase }, { on := 13, ground := Ground.phase }, { on := 14, ground := Ground.phase }, { on := 15, ground := Ground.phase }, { on := 16, ground := Ground.phase }, { on := 17, ground := Ground.phase }, { on := 18, ground := Ground.phase }, { on := 19, ground := Ground.phase }, { on := 20, ground := Ground.phase }, { on := 21, ground := Ground.phase }, { on := 22, ground := Ground.phase }], guard := none }) (v := ?vr23) rfl (by kernel_rfl) (by kernel_rfl) (by kernel_rfl) (fun _ _ _ h => h) (Or.inl ⟨by rfl, ?hyr23⟩) (by assumption) ?restr23
      case hyr23 =>
        intro w hSw
        try dsimp only at hSw
        try obtain ⟨hSw, hSw2⟩ := hSw
        try go_split_ands
        go_simp
        try with_reducible rfl
      try simp only [Act.put, List.setIfInBounds_toArray, List.set_cons_zero, List.set_cons_succ]
      refine wpAnyH_done (by kernel_rfl) ?_ _
      refine NoPanic.normal ?_
      go_wp2
      go_ret
      exact ⟨by rw [HR.out]; rfl, HBw.out _ hzz4.out⟩
    | true =>
      go_wp2_with fail
      refine (HWD.out _).mono ?_
      rintro e W4 ⟨rfl, hb4⟩
      have HZ4 := belB HZ3 hb4
      clear hb4 HZ3 HWD
      obtain ⟨hd, hhd⟩ : ∃ hd : ByteArray, (if o = ⟨#[]⟩ then wd else wd ++ (⟨#[32]⟩ ++ o)) = hd := ⟨_, rfl⟩
      have hhz : hd.size ≤ 34 := by
        have e1 : (⟨#[32]⟩ : ByteArray).size = 1 := rfl
        rw [← hhd]
        split
        · omega
        · simp only [ByteArray.size_append, e1]; omega
      rw [hhd] at HL
      have HHD := Lib.hid hhd
      clear hhd
      go_upto_if 51 with fail
      go_cut [8] (fun s8 wx => s8 = .string hd ∧ W4 = wx)
      case first =>
        by_cases he : o = ⟨#[]⟩
        · have r1 : o.toList.isEmpty = true := by rw [he]; decide +kernel
          have hh : Hid (wd = hd) := by show wd = hd; rw [← HHD.out, if_pos he]
          clear he
          simp only [r1, Bool.not_true]
          go_wp2_with fail
          go_meet
          exact ⟨by rw [hh.out], rfl⟩
        · have m0 : ¬ o.toList = [] := fun e => he (bytes_eqT (e.trans (by decide +kernel)))
          have r0 : o.toList.isEmpty = false := by cases h : o.toList with | nil => exact absurd h m0 | cons a b => rfl
          have hh : Hid (wd ++ (⟨#[32]⟩ ++ o) = hd) := by show _ = hd; rw [← HHD.out, if_neg he]
          have e1 : (⟨#[32]⟩ : ByteArray).size = 1 := rfl
          have b1 : (⟨#[32]⟩ : ByteArray).size + o.size ≤ 1000 := by rw [e1]; omega
          have b2 : wd.size + (⟨#[32]⟩ ++ o : ByteArray).size ≤ 1000 := by rw [ByteArray.size_append, e1]; omega
          clear he m0 e1
          simp only [r0, Bool.not_false]
          go_wp2_with fail
          go_meet
          exact ⟨by rw [hh.out], rfl⟩
      case rest =>
        obtain ⟨rfl, rfl⟩ := hcut
        cases J with
        | false =>
          have HR : Hid (L = hd) := HL
          go_wp2
          go_ret
          exact ⟨by rw [HR.out]; rfl, HBw.out _ HZ4.out⟩
        | true =>
          have HR : Hid (L = hd ++ (⟨#[32]⟩ ++ dt ++ ⟨#[32]⟩ ++ df)) := HL
          have SOK : Hid (∀ w', Below W1.heap.size W1 w' → (w'.cell? ⟨w.heap.size, 1, none⟩ = some (.int .u8 (jt : Int)) ∧ w'.cell? ⟨w.heap.size, 2, none⟩ = some (.int .u8 (jf : Int)))) := fun w' h => ⟨(HCA.out w' h).cell 1, (HCA.out w' h).cell 2⟩
          go_upto_region 10 with fail
          refine wp_region_noPanic ?_
          refine wp_region_held_drew (S := fun w' => w'.cell? ⟨w.heap.size, 1, none⟩ = some (.int .u8 (jt : Int)) ∧ w'.cell? ⟨w.heap.size, 2, none⟩ = some (.int .u8 (jf : Int))) (by kernel_rfl) (by first | exact SOK.out _ HZ4.out.drew) (fun hHeld => ?_)
          have hzz0 := Lib.hid HZ4.out.drew
          clear HZ4
          generalize W4.drew = wz0 at *
          refine wpAnyH_take (i := 0) (oi := { dst := some 57, op := Op.move (Operand.tmp 8), type := 9, pos := "ref.go:53", after := #[], guard := none }) (v := ?vp0) rfl (by kernel_rfl) (by kernel_rfl) (by kernel_rfl) (fun _ _ _ h => h) (Or.inl ⟨by rfl, ?hyp0⟩) (by assumption) ?restp0
          case hyp0 =>
            intro w hSw
            try dsimp only at hSw
            try obtain ⟨hSw, hSw2⟩ := hSw
            try go_split_ands
            go_simp
            try with_reducible rfl
          try simp only [Act.put, List.setIfInBounds_toArray, List.set_cons_zero, List.set_cons_succ]
          refine wpAnyH_take (i := 1) (oi := { dst := some 58, op := Op.fieldAddr 29 (Operand.tmp 1) 1, type := 0, pos := "ref.go:53", after := #[], guard := none }) (v := ?vp1) rfl (by kernel_rfl) (by kernel_rfl) (by kernel_rfl) (fun _ _ _ h => h) (Or.inl ⟨by rfl, ?hyp1⟩) (by assumption) ?restp1
          case hyp1 =>
            intro w hSw
            try dsimp only at hSw
            try obtain ⟨hSw, hSw2⟩ := hSw
            try go_split_ands
            go_simp
            try with_reducible rfl
          try simp only [Act.put, List.setIfInBounds_toArray, List.set_cons_zero, List.set_cons_succ]
          refine wpAnyH_take (i := 2) (oi := { dst := some 59, op := Op.load 5 (Operand.tmp 58), type := 5, pos := "ref.go:53", after := #[{ on := 1, ground := Ground.data }], guard := none }) (v := ?vp2) rfl (by kernel_rfl) (by kernel_rfl) (by kernel_rfl) (fun _ _ _ h => h) (Or.inl ⟨by rfl, ?hyp2⟩) (by assumption) ?restp2
          case hyp2 =>
            intro w hSw
            try dsimp only at hSw
            try obtain ⟨hSw, hSw2⟩ := hSw
            try go_split_ands
            go_simp
            try with_reducible rfl
          try simp only [Act.put, List.setIfInBounds_toArray, List.set_cons_zero, List.set_cons_succ]
          refine wpAnyH_take (i := 3) (oi := { dst := some 60, op := Op.convert 5 3 (Operand.tmp 59), type := 3, pos := "ref.go:53", after := #[{ on := 2, ground := Ground.data }], guard := none }) (v := ?vp3) rfl (by kernel_rfl) (by kernel_rfl) (by kernel_rfl) (fun _ _ _ h => h) (Or.inl ⟨by rfl, ?hyp3⟩) (by assumption) ?restp3
          case hyp3 =>
            intro w hSw
            try dsimp only at hSw
            try obtain ⟨hSw, hSw2⟩ := hSw
            try go_split_ands
            go_simp
            try with_reducible rfl
          try simp only [Act.put, List.setIfInBounds_toArray, List.set_cons_zero, List.set_cons_succ]
          refine wpAnyH_take (i := 7) (oi := { dst := some 64, op := Op.fieldAddr 29 (Operand.tmp 1) 2, type := 0, pos := "ref.go:53", after := #[], guard := none }) (v := ?vp7) rfl (by kernel_rfl) (by kernel_rfl) (by kernel_rfl) (fun _ _ _ h => h) (Or.inl ⟨by rfl, ?hyp7⟩) (by assumption) ?restp7
          case hyp7 =>
            intro w hSw
            try dsimp only at hSw
            try obtain ⟨hSw, hSw2⟩ := hSw
            try go_split_ands
            go_simp
            try with_reducible rfl
          try simp only [Act.put, List.setIfInBounds_toArray, List.set_cons_zero, List.set_cons_succ]
          refine wpAnyH_take (i := 8) (oi := { dst := some 65, op := Op.load 5 (Operand.tmp 64), type := 5, pos := "ref.go:53", after := #[{ on := 7, ground := Ground.data }], guard := none }) (v := ?vp8) rfl (by kernel_rfl) (by kernel_rfl) (by kernel_rfl) (fun _ _ _ h => h) (Or.inl ⟨by rfl, ?hyp8⟩) (by assumption) ?restp8
          case hyp8 =>
            intro w hSw
            try dsimp only at hSw
            try obtain ⟨hSw, hSw2⟩ := hSw
            try go_split_ands
            go_simp
            try with_reducible rfl
          try simp only [Act.put, List.setIfInBounds_toArray, List.set_cons_zero, List.set_cons_succ]
          refine wpAnyH_take (i := 9) (oi := { dst := some 66, op := Op.convert 5 3 (Operand.tmp 65), type := 3, pos := "ref.go:53", after := #[{ on := 8, ground := Ground.data }], guard := none }) (v := ?vp9) rfl (by kernel_rfl) (by kernel_rfl) (by kernel_rfl) (fun _ _ _ h => h) (Or.inl ⟨by rfl, ?hyp9⟩) (by assumption) ?restp9
          case hyp9 =>
            intro w hSw
            try dsimp only at hSw
            try obtain ⟨hSw, hSw2⟩ := hSw
            try go_split_ands
            go_simp
            try with_reducible rfl
          try simp only [Act.put, List.setIfInBounds_toArray, List.set_cons_zero, List.set_cons_succ]
          refine wpAnyH_ready (rs := [4]) (by kernel_rfl) (by simp) ?_
          refine AllReadyH.cons (o := { dst := some 61, op := Op.call { callee := Callee.value (Operand.func 38), args := #[Operand.tmp 60], argTypes := #[3] }, type := 9, pos := "ref.go:53", after := #[{ on := 3, ground := Ground.data }], guard := none }) rfl (fun K' hK => ?_) AllReadyH.nil
          go_simp
          refine (HDjt.out _).mono ?_
          rintro e wz1 ⟨rfl, hbz⟩
          have hzz1 := Lib.hid (hzz0.out.trans (hbz.mono hzz0.out.size))
          clear hHeld
          refine hK.out _ _ (SOK.out _ hzz1.out) (fun hHeld => ?_)
          clear hK K'
          try simp only [Act.put, List.setIfInBounds_toArray, List.set_cons_zero, List.set_cons_succ]
          clear hbz hzz0
          refine wpAnyH_take (i := 5) (oi := { dst := some 62, op := Op.binOp BinOp.add 9 (Operand.const (Value.string { data := #[32] })) (Operand.tmp 61) 9, type := 9, pos := "ref.go:53", after := #[{ on := 4, ground := Ground.data }], guard := none }) (v := (.string (⟨#[32]⟩ ++ dt))) rfl (by kernel_rfl) (by kernel_rfl) (by kernel_rfl) (fun _ _ _ h => h) (Or.inl ⟨by rfl, ?hyp5⟩) (by assumption) ?restp5
          case hyp5 =>
            intro w hSw
            try dsimp only at hSw
            try obtain ⟨hSw, hSw2⟩ := hSw
            try go_split_ands
            go_simp
            try with_reducible rfl
            try omega
          try simp only [Act.put, List.setIfInBounds_toArray, List.set_cons_zero, List.set_cons_succ]
          refine wpAnyH_take (i := 6) (oi := { dst := some 63, op := Op.binOp BinOp.add 9 (Operand.tmp 62) (Operand.const (Value.string { data := #[32] })) 9, type := 9, pos := "ref.go:53", after := #[{ on := 5, ground := Ground.data }], guard := none }) (v := (.string (⟨#[32]⟩ ++ dt ++ ⟨#[32]⟩))) rfl (by kernel_rfl) (by kernel_rfl) (by kernel_rfl) (fun _ _ _ h => h) (Or.inl ⟨by rfl, ?hyp6⟩) (by assumption) ?restp6
          case hyp6 =>
            intro w hSw
            try dsimp only at hSw
            try obtain ⟨hSw, hSw2⟩ := hSw
            try go_split_ands
            go_simp
            try with_reducible rfl
            try omega
          try simp only [Act.put, List.setIfInBounds_toArray, List.set_cons_zero, List.set_cons_succ]
          refine wpAnyH_ready (rs := [10]) (by kernel_rfl) (by simp) ?_
          refine AllReadyH.cons (o := { dst := some 67, op := Op.call { callee := Callee.value (Operand.func 38), args := #[Operand.tmp 66], argTypes := #[3] }, type := 9, pos := "ref.go:53", after := #[{ on := 9, ground := Ground.data }, { on := 4, ground := Ground.chain }], guard := none }) rfl (fun K' hK => ?_) AllReadyH.nil
          go_simp
          refine (HDjf.out _).mono ?_
          rintro e wz2 ⟨rfl, hbz⟩
          have hzz2 := Lib.hid (hzz1.out.trans (hbz.mono hzz1.out.size))
          clear hHeld
          refine hK.out _ _ (SOK.out _ hzz2.out) (fun hHeld => ?_)
          clear hK K'
          try simp only [Act.put, List.setIfInBounds_toArray, List.set_cons_zero, List.set_cons_succ]
          clear hbz hzz1
          refine wpAnyH_take (i := 11) (oi := { dst := some 68, op := Op.binOp BinOp.add 9 (Operand.tmp 63) (Operand.tmp 67) 9, type := 9, pos := "ref.go:53", after := #[{ on := 6, ground := Ground.data }, { on := 10, ground := Ground.data }], guard := none }) (v := (.string (⟨#[32]⟩ ++ dt ++ ⟨#[32]⟩ ++ df))) rfl (by kernel_rfl) (by kernel_rfl) (by kernel_rfl) (fun _ _ _ h => h) (Or.inl ⟨by rfl, ?hyp11⟩) (by assumption) ?restp11
          case hyp11 =>
            intro w hSw
            try dsimp only at hSw
            try obtain ⟨hSw, hSw2⟩ := hSw
            try go_split_ands
            go_simp
            try with_reducible rfl
            try omega
          try simp only [Act.put, List.setIfInBounds_toArray, List.set_cons_zero, List.set_cons_succ]
          refine wpAnyH_take (i := 12) (oi := { dst := some 69, op := Op.binOp BinOp.add 9 (Operand.tmp 57) (Operand.tmp 68) 9, type := 9, pos := "ref.go:53", after := #[{ on := 0, ground := Ground.data }, { on := 11, ground := Ground.data }], guard := none }) (v := (.string (hd ++ (⟨#[32]⟩ ++ dt ++ ⟨#[32]⟩ ++ df)))) rfl (by kernel_rfl) (by kernel_rfl) (by kernel_rfl) (fun _ _ _ h => h) (Or.inl ⟨by rfl, ?hyp12⟩) (by assumption) ?restp12
          case hyp12 =>
            intro w hSw
            try dsimp only at hSw
            try obtain ⟨hSw, hSw2⟩ := hSw
            try go_split_ands
            go_simp
            try with_reducible rfl
            try omega
          try simp only [Act.put, List.setIfInBounds_toArray, List.set_cons_zero, List.set_cons_succ]
          refine wpAnyH_take (i := 13) (oi := { dst := some 8, op := Op.assign (Operand.tmp 69), type := 9, pos := "ref.go:53", after := #[{ on := 12, ground := Ground.data }, { on := 10, ground := Ground.chain }, { on := 0, ground := Ground.phase }, { on := 1, ground := Ground.phase }, { on := 2, ground := Ground.phase }, { on := 3, ground := Ground.phase }, { on := 4, ground := Ground.phase }, { on := 5, ground := Ground.phase }, { on := 6, ground := Ground.phase }, { on := 7, ground := Ground.phase }, { on := 8, ground := Ground.phase }, { on := 9, ground := Ground.phase }, { on := 10, ground := Ground.phase }, { on := 11, ground := Ground.phase }, { on := 12, ground := Ground.phase }], guard := none }) (v := ?vp13) rfl (by kernel_rfl) (by kernel_rfl) (by kernel_rfl) (fun _ _ _ h => h) (Or.inl ⟨by rfl, ?hyp13⟩) (by assumption) ?restp13
          case hyp13 =>
            intro w hSw
            try dsimp only at hSw
            try obtain ⟨hSw, hSw2⟩ := hSw
            try go_split_ands
            go_simp
            try with_reducible rfl
          try simp only [Act.put, List.setIfInBounds_toArray, List.set_cons_zero, List.set_cons_succ]
          refine wpAnyH_done (by kernel_rfl) ?_ _
          refine NoPanic.normal ?_
          go_wp2
          go_ret
          exact ⟨by rw [HR.out]; rfl, HBw.out _ hzz2.out⟩
end Go.Proofs.YtokehnclakedeaaGreatDoor
