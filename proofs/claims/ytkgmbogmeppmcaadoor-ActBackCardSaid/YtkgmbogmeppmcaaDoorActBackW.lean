/- strainerlaw09.ActBack: the walk. -/
import Derived.Test.YtkgmbogmeppmcaaDoorActLaw
import Derived.Test.YtkgmbogmeppmcaaDoorActBackP
namespace Go.Proofs.YtkgmbogmeppmcaaDoor
open Go Go.Proofs Go.RowKit

theorem bytes_inj {a b : ByteArray} (h : a.toList = b.toList) : a = b := by
  rw [ByteArray.toList_eq, ByteArray.toList_eq] at h
  exact ByteArray.ext (Array.toList_inj.1 h)
theorem keep6 {a W wx : World} {p q r s t t' : Addr} {u v x y z z' : Value} (h : W.cell? p = some u ∧ W.cell? q = some v ∧ W.cell? r = some x ∧ W.cell? s = some y ∧ W.cell? t = some z ∧ W.cell? t' = some z' ∧ Below a.heap.size a W) (hb : Below W.heap.size W wx) :
    wx.cell? p = some u ∧ wx.cell? q = some v ∧ wx.cell? r = some x ∧ wx.cell? s = some y ∧ wx.cell? t = some z ∧ wx.cell? t' = some z' ∧ Below a.heap.size a wx := by
  obtain ⟨h1, h2, h3, h4, h5, h6, h7⟩ := h
  exact ⟨cellLater hb h1, cellLater hb h2, cellLater hb h3, cellLater hb h4, cellLater hb h5, cellLater hb h6, h7.trans (hb.mono h7.size)⟩

set_option maxRecDepth 100000 in
set_option maxHeartbeats 4000000 in
theorem back_any (k n k' n' : Int) (w : World) (hp : Pow10 w) :
    Calls Tryd.prog 4 #[.agg #[.int .i64 k, .int .i64 n], .agg #[.int .i64 k', .int .i64 n']] w fun e w' => e = .returned (.bool true) ∧ Below w.heap.size w w' := by
  have hA := (Blk.new w 23 #[.int .i64 k, .int .i64 n]).alloc (.cells #[.int .i64 k', .int .i64 n'] 23)
  have hA2 := Blk.new (w.alloc (.cells #[.int .i64 k, .int .i64 n] 23)) 23 #[.int .i64 k', .int .i64 n']
  have hb := ((Below.refl w.heap.size w).alloc (Nat.le_refl _) (.cells #[.int .i64 k, .int .i64 n] 23)).alloc (by simp) (.cells #[.int .i64 k', .int .i64 n'] 23)
  simp only [World.size_alloc] at hA2
  have HA := Lib.hid hA
  have HA2 := Lib.hid hA2
  have HB := Lib.hid hb
  have HP := Lib.hid hp
  clear hA hA2 hb hp
  go_enter Tryd.func4, Tryd.ntmps4
  go_upto_region 1 with fail
  generalize (w.alloc (.cells #[.int .i64 k, .int .i64 n] 23)).alloc (.cells #[.int .i64 k', .int .i64 n'] 23) = W0 at *
  have SOK : Hid (∀ w', Below W0.heap.size W0 w' → (w'.cell? ⟨w.heap.size, 0, none⟩ = some (.int .i64 k) ∧ w'.cell? ⟨w.heap.size, 1, none⟩ = some (.int .i64 n) ∧ w'.cell? ⟨w.heap.size + 1, 0, none⟩ = some (.int .i64 k') ∧ w'.cell? ⟨w.heap.size + 1, 1, none⟩ = some (.int .i64 n'))) := fun w' hb => ⟨(HA.out.below hb HA.out.lt).cell 0, (HA.out.below hb HA.out.lt).cell 1, (HA2.out.below hb HA2.out.lt).cell 0, (HA2.out.below hb HA2.out.lt).cell 1⟩
  go_cut [5, 6] (fun s5 s6 wx => ∃ B5 B6 : Nat, s5 = .pointer (some ⟨B5, 0, none⟩) ∧ s6 = .pointer (some ⟨B6, 0, none⟩) ∧ Hid (Below W0.heap.size W0 wx) ∧ Hid (Blk wx B5 25 #[.int .i64 k, .int .i64 n]) ∧ Hid (Blk wx B6 25 #[.int .i64 k', .int .i64 n']))
  case first =>
    refine wp_region_noPanic ?_
    refine wp_region_held_drew (S := fun w' => w'.cell? ⟨w.heap.size, 0, none⟩ = some (.int .i64 k) ∧ w'.cell? ⟨w.heap.size, 1, none⟩ = some (.int .i64 n) ∧ w'.cell? ⟨w.heap.size + 1, 0, none⟩ = some (.int .i64 k') ∧ w'.cell? ⟨w.heap.size + 1, 1, none⟩ = some (.int .i64 n')) (by kernel_rfl) (by first | exact SOK.out _ (Below.refl _ W0).drew) (fun hHeld => ?_)
    refine wpAnyH_take (i := 0) (oi := { dst := some 13, op := Op.load 23 (Operand.tmp 2), type := 23, pos := "outright.go:11", after := #[], guard := none }) (v := ?v0) rfl (by kernel_rfl) (by kernel_rfl) (by kernel_rfl) (fun _ _ _ h => h) (Or.inl ⟨by rfl, ?hy0⟩) (by assumption) ?rest0
    case hy0 =>
      intro w hSw
      try dsimp only at hSw
      try obtain ⟨hSw, hSw2⟩ := hSw
      try go_split_ands
      go_simp
      try with_reducible rfl
    try simp only [Act.put, List.setIfInBounds_toArray, List.set_cons_zero, List.set_cons_succ]
    refine wpAnyH_take (i := 2) (oi := { dst := some 15, op := Op.load 23 (Operand.tmp 3), type := 23, pos := "outright.go:11", after := #[], guard := none }) (v := ?v2) rfl (by kernel_rfl) (by kernel_rfl) (by kernel_rfl) (fun _ _ _ h => h) (Or.inl ⟨by rfl, ?hy2⟩) (by assumption) ?rest2
    case hy2 =>
      intro w hSw
      try dsimp only at hSw
      try obtain ⟨hSw, hSw2⟩ := hSw
      try go_split_ands
      go_simp
      try with_reducible rfl
    try simp only [Act.put, List.setIfInBounds_toArray, List.set_cons_zero, List.set_cons_succ]
    have hz0 := Lib.hid ((Below.refl W0.heap.size W0).drew)
    clear hHeld
    generalize W0.drew = wz0 at *
    refine wpAnyH_ready (rs := [1, 4, 5]) (by kernel_rfl) (by simp) ?_
    refine AllReadyH.cons (o := { dst := some 14, op := Op.call { callee := Callee.value (Operand.func 12), args := #[Operand.tmp 13], argTypes := #[23] }, type := 25, pos := "outright.go:11", after := #[{ on := 0, ground := Ground.data }], guard := none }) rfl (fun K' hK => ?_) ?_
    ·
      go_simp
      refine (of09_any _ _ _).mono ?_
      rintro e wz1 ⟨rfl, hbz⟩
      have hz1 := belB hz0 hbz
      refine hK.out _ _ (SOK.out _ hz1.out) (fun hHeld => ?_)
      clear hK K'
      try simp only [Act.put, List.setIfInBounds_toArray, List.set_cons_zero, List.set_cons_succ]
      clear hHeld
      clear hbz hz0
      refine wpAnyH_ready (rs := [3, 4, 5]) (by kernel_rfl) (by simp) ?_
      refine AllReadyH.cons (o := { dst := some 16, op := Op.call { callee := Callee.value (Operand.func 12), args := #[Operand.tmp 15], argTypes := #[23] }, type := 25, pos := "outright.go:11", after := #[{ on := 2, ground := Ground.data }, { on := 1, ground := Ground.chain }], guard := none }) rfl (fun K' hK => ?_) ?_
      ·
        go_simp
        refine (of09_any _ _ _).mono ?_
        rintro e wz2 ⟨rfl, hbz⟩
        have hz2 := belB hz1 hbz
        refine hK.out _ _ (SOK.out _ hz2.out) (fun hHeld => ?_)
        clear hK K'
        try simp only [Act.put, List.setIfInBounds_toArray, List.set_cons_zero, List.set_cons_succ]
        clear hHeld
        clear hbz hz1
        refine wpAnyH_ready (rs := [4, 5]) (by kernel_rfl) (by simp) ?_
        refine AllReadyH.cons (o := { dst := some 5, op := Op.alloc 25, type := 0, pos := "outright.go:11", after := #[], guard := none }) rfl (fun K' hK => ?_) ?_
        ·
          have hz3 := Lib.hid (hz2.out.alloc hz2.out.size (.cells #[.int .i64 0, .int .i64 0] 25))
          have g5z3 := Lib.hid (Blk.new wz2 25 #[.int .i64 0, .int .i64 0])
          have lz3 : W0.heap.size ≤ wz2.heap.size := hz2.out.size
          go_simp
          refine hK.out _ _ (SOK.out _ hz3.out) (fun hHeld => ?_)
          clear hK K'
          try simp only [Act.put, List.setIfInBounds_toArray, List.set_cons_zero, List.set_cons_succ]
          clear hHeld
          clear hz2
          generalize wz2.alloc (.cells #[.int .i64 0, .int .i64 0] 25) = wz3 at *
          generalize wz2.heap.size = Bz3 at *
          refine wpAnyH_ready (rs := [5]) (by kernel_rfl) (by simp) ?_
          refine AllReadyH.cons (o := { dst := some 6, op := Op.alloc 25, type := 0, pos := "outright.go:11", after := #[], guard := none }) rfl (fun K' hK => ?_) ?_
          ·
            have hz4 := Lib.hid (hz3.out.alloc hz3.out.size (.cells #[.int .i64 0, .int .i64 0] 25))
            have g6z4 := Lib.hid (Blk.new wz3 25 #[.int .i64 0, .int .i64 0])
            have lz4 : W0.heap.size ≤ wz3.heap.size := hz3.out.size
            have g5z4 := Lib.hid (g5z3.out.alloc (.cells #[.int .i64 0, .int .i64 0] 25))
            have nz4 : Bz3 ≠ wz3.heap.size := Nat.ne_of_lt g5z3.out.lt
            go_simp
            refine hK.out _ _ (SOK.out _ hz4.out) (fun hHeld => ?_)
            clear hK K'
            try simp only [Act.put, List.setIfInBounds_toArray, List.set_cons_zero, List.set_cons_succ]
            clear hHeld
            clear hz3 g5z3
            generalize wz3.alloc (.cells #[.int .i64 0, .int .i64 0] 25) = wz4 at *
            generalize wz3.heap.size = Bz4 at *
            refine wpAnyH_ready (rs := [6]) (by kernel_rfl) (by simp) ?_
            refine AllReadyH.cons (o := { dst := none, op := Op.store 25 (Operand.tmp 5) (Operand.tmp 14), type := 0, pos := "outright.go:11", after := #[{ on := 4, ground := Ground.data }, { on := 1, ground := Ground.data }, { on := 3, ground := Ground.chain }, { on := 0, ground := Ground.phase }, { on := 1, ground := Ground.phase }, { on := 2, ground := Ground.textOnly Departure.lateStores }, { on := 3, ground := Ground.textOnly Departure.lateStoresUnsure }, { on := 4, ground := Ground.phase }, { on := 5, ground := Ground.phase }], guard := none }) rfl (fun K' hK => ?_) ?_
            ·
              have z0 := g5z4.out.frozen 0
              have z1 := g5z4.out.frozen 1
              have y0 : wz4.cell? ⟨Bz3, 0, none⟩ = some (.int .i64 0) := g5z4.out.cell 0
              have y1 : wz4.cell? ⟨Bz3, 1, none⟩ = some (.int .i64 0) := g5z4.out.cell 1
              have hz5 : Hid (Below W0.heap.size W0 ((wz4.setCell ⟨Bz3, 0, none⟩ (.int .i64 k)).setCell ⟨Bz3, 1, none⟩ (.int .i64 n))) := (hz4.out.setCell (p := ⟨Bz3, 0, none⟩) lz3 _).setCell (p := ⟨Bz3, 1, none⟩) lz3 _
              have g5z5 : Hid (Blk ((wz4.setCell ⟨Bz3, 0, none⟩ (.int .i64 k)).setCell ⟨Bz3, 1, none⟩ (.int .i64 n)) Bz3 25 #[.int .i64 k, .int .i64 n]) := (g5z4.out.set 0 (.int .i64 k)).set 1 (.int .i64 n)
              have g6z5 := Lib.hid ((g6z4.out.other (Ne.symm nz4) 0 (.int .i64 k)).other (Ne.symm nz4) 1 (.int .i64 n))
              go_simp
              refine hK.out _ _ (SOK.out _ hz5.out) (fun hHeld => ?_)
              clear hK K'
              try simp only [Act.put, List.setIfInBounds_toArray, List.set_cons_zero, List.set_cons_succ]
              clear hHeld
              clear z0 z1 y0 y1 hz4 g5z4 g6z4
              generalize (wz4.setCell ⟨Bz3, 0, none⟩ (.int .i64 k)).setCell ⟨Bz3, 1, none⟩ (.int .i64 n) = wz5 at *
              refine wpAnyH_ready (rs := [7]) (by kernel_rfl) (by simp) ?_
              refine AllReadyH.cons (o := { dst := none, op := Op.store 25 (Operand.tmp 6) (Operand.tmp 16), type := 0, pos := "outright.go:11", after := #[{ on := 5, ground := Ground.data }, { on := 3, ground := Ground.data }, { on := 6, ground := Ground.chain }, { on := 0, ground := Ground.phase }, { on := 1, ground := Ground.phase }, { on := 2, ground := Ground.phase }, { on := 3, ground := Ground.phase }, { on := 4, ground := Ground.phase }, { on := 5, ground := Ground.phase }, { on := 6, ground := Ground.phase }], guard := none }) rfl (fun K' hK => ?_) ?_
              ·
                have z0 := g6z5.out.frozen 0
                have z1 := g6z5.out.frozen 1
                have y0 : wz5.cell? ⟨Bz4, 0, none⟩ = some (.int .i64 0) := g6z5.out.cell 0
                have y1 : wz5.cell? ⟨Bz4, 1, none⟩ = some (.int .i64 0) := g6z5.out.cell 1
                have hz6 : Hid (Below W0.heap.size W0 ((wz5.setCell ⟨Bz4, 0, none⟩ (.int .i64 k')).setCell ⟨Bz4, 1, none⟩ (.int .i64 n'))) := (hz5.out.setCell (p := ⟨Bz4, 0, none⟩) lz4 _).setCell (p := ⟨Bz4, 1, none⟩) lz4 _
                have g6z6 : Hid (Blk ((wz5.setCell ⟨Bz4, 0, none⟩ (.int .i64 k')).setCell ⟨Bz4, 1, none⟩ (.int .i64 n')) Bz4 25 #[.int .i64 k', .int .i64 n']) := (g6z5.out.set 0 (.int .i64 k')).set 1 (.int .i64 n')
                have g5z6 := Lib.hid ((g5z5.out.other nz4 0 (.int .i64 k')).other nz4 1 (.int .i64 n'))
                go_simp
                refine hK.out _ _ (SOK.out _ hz6.out) (fun hHeld => ?_)
                clear hK K'
                try simp only [Act.put, List.setIfInBounds_toArray, List.set_cons_zero, List.set_cons_succ]
                clear hHeld
                clear z0 z1 y0 y1 hz5 g6z5 g5z5
                generalize (wz5.setCell ⟨Bz4, 0, none⟩ (.int .i64 k')).setCell ⟨Bz4, 1, none⟩ (.int .i64 n') = wz6 at *
                refine wpAnyH_done (by kernel_rfl) ?_ _
                refine NoPanic.normal ?_
                go_wp2_with fail
                go_meet
                exact ⟨_, _, rfl, rfl, hz6, g5z6, g6z6⟩
              exact AllReadyH.nil
            exact AllReadyH.nil
          exact AllReadyH.nil
        refine AllReadyH.cons (o := { dst := some 6, op := Op.alloc 25, type := 0, pos := "outright.go:11", after := #[], guard := none }) rfl (fun K' hK => ?_) ?_
        ·
          have hz7 := Lib.hid (hz2.out.alloc hz2.out.size (.cells #[.int .i64 0, .int .i64 0] 25))
          have g6z7 := Lib.hid (Blk.new wz2 25 #[.int .i64 0, .int .i64 0])
          have lz7 : W0.heap.size ≤ wz2.heap.size := hz2.out.size
          go_simp
          refine hK.out _ _ (SOK.out _ hz7.out) (fun hHeld => ?_)
          clear hK K'
          try simp only [Act.put, List.setIfInBounds_toArray, List.set_cons_zero, List.set_cons_succ]
          clear hHeld
          clear hz2
          generalize wz2.alloc (.cells #[.int .i64 0, .int .i64 0] 25) = wz7 at *
          generalize wz2.heap.size = Bz7 at *
          refine wpAnyH_ready (rs := [4]) (by kernel_rfl) (by simp) ?_
          refine AllReadyH.cons (o := { dst := some 5, op := Op.alloc 25, type := 0, pos := "outright.go:11", after := #[], guard := none }) rfl (fun K' hK => ?_) ?_
          ·
            have hz8 := Lib.hid (hz7.out.alloc hz7.out.size (.cells #[.int .i64 0, .int .i64 0] 25))
            have g5z8 := Lib.hid (Blk.new wz7 25 #[.int .i64 0, .int .i64 0])
            have lz8 : W0.heap.size ≤ wz7.heap.size := hz7.out.size
            have g6z8 := Lib.hid (g6z7.out.alloc (.cells #[.int .i64 0, .int .i64 0] 25))
            have nz8 : Bz7 ≠ wz7.heap.size := Nat.ne_of_lt g6z7.out.lt
            go_simp
            refine hK.out _ _ (SOK.out _ hz8.out) (fun hHeld => ?_)
            clear hK K'
            try simp only [Act.put, List.setIfInBounds_toArray, List.set_cons_zero, List.set_cons_succ]
            clear hHeld
            clear hz7 g6z7
            generalize wz7.alloc (.cells #[.int .i64 0, .int .i64 0] 25) = wz8 at *
            generalize wz7.heap.size = Bz8 at *
            refine wpAnyH_ready (rs := [6]) (by kernel_rfl) (by simp) ?_
            refine AllReadyH.cons (o := { dst := none, op := Op.store 25 (Operand.tmp 5) (Operand.tmp 14), type := 0, pos := "outright.go:11", after := #[{ on := 4, ground := Ground.data }, { on := 1, ground := Ground.data }, { on := 3, ground := Ground.chain }, { on := 0, ground := Ground.phase }, { on := 1, ground := Ground.phase }, { on := 2, ground := Ground.textOnly Departure.lateStores }, { on := 3, ground := Ground.textOnly Departure.lateStoresUnsure }, { on := 4, ground := Ground.phase }, { on := 5, ground := Ground.phase }], guard := none }) rfl (fun K' hK => ?_) ?_
            ·
              have z0 := g5z8.out.frozen 0
              have z1 := g5z8.out.frozen 1
              have y0 : wz8.cell? ⟨Bz8, 0, none⟩ = some (.int .i64 0) := g5z8.out.cell 0
              have y1 : wz8.cell? ⟨Bz8, 1, none⟩ = some (.int .i64 0) := g5z8.out.cell 1
              have hz9 : Hid (Below W0.heap.size W0 ((wz8.setCell ⟨Bz8, 0, none⟩ (.int .i64 k)).setCell ⟨Bz8, 1, none⟩ (.int .i64 n))) := (hz8.out.setCell (p := ⟨Bz8, 0, none⟩) lz8 _).setCell (p := ⟨Bz8, 1, none⟩) lz8 _
              have g5z9 : Hid (Blk ((wz8.setCell ⟨Bz8, 0, none⟩ (.int .i64 k)).setCell ⟨Bz8, 1, none⟩ (.int .i64 n)) Bz8 25 #[.int .i64 k, .int .i64 n]) := (g5z8.out.set 0 (.int .i64 k)).set 1 (.int .i64 n)
              have g6z9 := Lib.hid ((g6z8.out.other nz8 0 (.int .i64 k)).other nz8 1 (.int .i64 n))
              go_simp
              refine hK.out _ _ (SOK.out _ hz9.out) (fun hHeld => ?_)
              clear hK K'
              try simp only [Act.put, List.setIfInBounds_toArray, List.set_cons_zero, List.set_cons_succ]
              clear hHeld
              clear z0 z1 y0 y1 hz8 g5z8 g6z8
              generalize (wz8.setCell ⟨Bz8, 0, none⟩ (.int .i64 k)).setCell ⟨Bz8, 1, none⟩ (.int .i64 n) = wz9 at *
              refine wpAnyH_ready (rs := [7]) (by kernel_rfl) (by simp) ?_
              refine AllReadyH.cons (o := { dst := none, op := Op.store 25 (Operand.tmp 6) (Operand.tmp 16), type := 0, pos := "outright.go:11", after := #[{ on := 5, ground := Ground.data }, { on := 3, ground := Ground.data }, { on := 6, ground := Ground.chain }, { on := 0, ground := Ground.phase }, { on := 1, ground := Ground.phase }, { on := 2, ground := Ground.phase }, { on := 3, ground := Ground.phase }, { on := 4, ground := Ground.phase }, { on := 5, ground := Ground.phase }, { on := 6, ground := Ground.phase }], guard := none }) rfl (fun K' hK => ?_) ?_
              ·
                have z0 := g6z9.out.frozen 0
                have z1 := g6z9.out.frozen 1
                have y0 : wz9.cell? ⟨Bz7, 0, none⟩ = some (.int .i64 0) := g6z9.out.cell 0
                have y1 : wz9.cell? ⟨Bz7, 1, none⟩ = some (.int .i64 0) := g6z9.out.cell 1
                have hz10 : Hid (Below W0.heap.size W0 ((wz9.setCell ⟨Bz7, 0, none⟩ (.int .i64 k')).setCell ⟨Bz7, 1, none⟩ (.int .i64 n'))) := (hz9.out.setCell (p := ⟨Bz7, 0, none⟩) lz7 _).setCell (p := ⟨Bz7, 1, none⟩) lz7 _
                have g6z10 : Hid (Blk ((wz9.setCell ⟨Bz7, 0, none⟩ (.int .i64 k')).setCell ⟨Bz7, 1, none⟩ (.int .i64 n')) Bz7 25 #[.int .i64 k', .int .i64 n']) := (g6z9.out.set 0 (.int .i64 k')).set 1 (.int .i64 n')
                have g5z10 := Lib.hid ((g5z9.out.other (Ne.symm nz8) 0 (.int .i64 k')).other (Ne.symm nz8) 1 (.int .i64 n'))
                go_simp
                refine hK.out _ _ (SOK.out _ hz10.out) (fun hHeld => ?_)
                clear hK K'
                try simp only [Act.put, List.setIfInBounds_toArray, List.set_cons_zero, List.set_cons_succ]
                clear hHeld
                clear z0 z1 y0 y1 hz9 g6z9 g5z9
                generalize (wz9.setCell ⟨Bz7, 0, none⟩ (.int .i64 k')).setCell ⟨Bz7, 1, none⟩ (.int .i64 n') = wz10 at *
                refine wpAnyH_done (by kernel_rfl) ?_ _
                refine NoPanic.normal ?_
                go_wp2_with fail
                go_meet
                exact ⟨_, _, rfl, rfl, hz10, g5z10, g6z10⟩
              exact AllReadyH.nil
            exact AllReadyH.nil
          exact AllReadyH.nil
        exact AllReadyH.nil
      refine AllReadyH.cons (o := { dst := some 5, op := Op.alloc 25, type := 0, pos := "outright.go:11", after := #[], guard := none }) rfl (fun K' hK => ?_) ?_
      ·
        have hz11 := Lib.hid (hz1.out.alloc hz1.out.size (.cells #[.int .i64 0, .int .i64 0] 25))
        have g5z11 := Lib.hid (Blk.new wz1 25 #[.int .i64 0, .int .i64 0])
        have lz11 : W0.heap.size ≤ wz1.heap.size := hz1.out.size
        go_simp
        refine hK.out _ _ (SOK.out _ hz11.out) (fun hHeld => ?_)
        clear hK K'
        try simp only [Act.put, List.setIfInBounds_toArray, List.set_cons_zero, List.set_cons_succ]
        clear hHeld
        clear hz1
        generalize wz1.alloc (.cells #[.int .i64 0, .int .i64 0] 25) = wz11 at *
        generalize wz1.heap.size = Bz11 at *
        refine wpAnyH_ready (rs := [3, 5]) (by kernel_rfl) (by simp) ?_
        refine AllReadyH.cons (o := { dst := some 16, op := Op.call { callee := Callee.value (Operand.func 12), args := #[Operand.tmp 15], argTypes := #[23] }, type := 25, pos := "outright.go:11", after := #[{ on := 2, ground := Ground.data }, { on := 1, ground := Ground.chain }], guard := none }) rfl (fun K' hK => ?_) ?_
        ·
          go_simp
          refine (of09_any _ _ _).mono ?_
          rintro e wz12 ⟨rfl, hbz⟩
          have hz12 := belB hz11 hbz
          have g5z12 := blkB g5z11 hbz
          refine hK.out _ _ (SOK.out _ hz12.out) (fun hHeld => ?_)
          clear hK K'
          try simp only [Act.put, List.setIfInBounds_toArray, List.set_cons_zero, List.set_cons_succ]
          clear hHeld
          clear hbz hz11 g5z11
          refine wpAnyH_ready (rs := [5]) (by kernel_rfl) (by simp) ?_
          refine AllReadyH.cons (o := { dst := some 6, op := Op.alloc 25, type := 0, pos := "outright.go:11", after := #[], guard := none }) rfl (fun K' hK => ?_) ?_
          ·
            have hz13 := Lib.hid (hz12.out.alloc hz12.out.size (.cells #[.int .i64 0, .int .i64 0] 25))
            have g6z13 := Lib.hid (Blk.new wz12 25 #[.int .i64 0, .int .i64 0])
            have lz13 : W0.heap.size ≤ wz12.heap.size := hz12.out.size
            have g5z13 := Lib.hid (g5z12.out.alloc (.cells #[.int .i64 0, .int .i64 0] 25))
            have nz13 : Bz11 ≠ wz12.heap.size := Nat.ne_of_lt g5z12.out.lt
            go_simp
            refine hK.out _ _ (SOK.out _ hz13.out) (fun hHeld => ?_)
            clear hK K'
            try simp only [Act.put, List.setIfInBounds_toArray, List.set_cons_zero, List.set_cons_succ]
            clear hHeld
            clear hz12 g5z12
            generalize wz12.alloc (.cells #[.int .i64 0, .int .i64 0] 25) = wz13 at *
            generalize wz12.heap.size = Bz13 at *
            refine wpAnyH_ready (rs := [6]) (by kernel_rfl) (by simp) ?_
            refine AllReadyH.cons (o := { dst := none, op := Op.store 25 (Operand.tmp 5) (Operand.tmp 14), type := 0, pos := "outright.go:11", after := #[{ on := 4, ground := Ground.data }, { on := 1, ground := Ground.data }, { on := 3, ground := Ground.chain }, { on := 0, ground := Ground.phase }, { on := 1, ground := Ground.phase }, { on := 2, ground := Ground.textOnly Departure.lateStores }, { on := 3, ground := Ground.textOnly Departure.lateStoresUnsure }, { on := 4, ground := Ground.phase }, { on := 5, ground := Ground.phase }], guard := none }) rfl (fun K' hK => ?_) ?_
            ·
              have z0 := g5z13.out.frozen 0
              have z1 := g5z13.out.frozen 1
              have y0 : wz13.cell? ⟨Bz11, 0, none⟩ = some (.int .i64 0) := g5z13.out.cell 0
              have y1 : wz13.cell? ⟨Bz11, 1, none⟩ = some (.int .i64 0) := g5z13.out.cell 1
              have hz14 : Hid (Below W0.heap.size W0 ((wz13.setCell ⟨Bz11, 0, none⟩ (.int .i64 k)).setCell ⟨Bz11, 1, none⟩ (.int .i64 n))) := (hz13.out.setCell (p := ⟨Bz11, 0, none⟩) lz11 _).setCell (p := ⟨Bz11, 1, none⟩) lz11 _
              have g5z14 : Hid (Blk ((wz13.setCell ⟨Bz11, 0, none⟩ (.int .i64 k)).setCell ⟨Bz11, 1, none⟩ (.int .i64 n)) Bz11 25 #[.int .i64 k, .int .i64 n]) := (g5z13.out.set 0 (.int .i64 k)).set 1 (.int .i64 n)
              have g6z14 := Lib.hid ((g6z13.out.other (Ne.symm nz13) 0 (.int .i64 k)).other (Ne.symm nz13) 1 (.int .i64 n))
              go_simp
              refine hK.out _ _ (SOK.out _ hz14.out) (fun hHeld => ?_)
              clear hK K'
              try simp only [Act.put, List.setIfInBounds_toArray, List.set_cons_zero, List.set_cons_succ]
              clear hHeld
              clear z0 z1 y0 y1 hz13 g5z13 g6z13
              generalize (wz13.setCell ⟨Bz11, 0, none⟩ (.int .i64 k)).setCell ⟨Bz11, 1, none⟩ (.int .i64 n) = wz14 at *
              refine wpAnyH_ready (rs := [7]) (by kernel_rfl) (by simp) ?_
              refine AllReadyH.cons (o := { dst := none, op := Op.store 25 (Operand.tmp 6) (Operand.tmp 16), type := 0, pos := "outright.go:11", after := #[{ on := 5, ground := Ground.data }, { on := 3, ground := Ground.data }, { on := 6, ground := Ground.chain }, { on := 0, ground := Ground.phase }, { on := 1, ground := Ground.phase }, { on := 2, ground := Ground.phase }, { on := 3, ground := Ground.phase }, { on := 4, ground := Ground.phase }, { on := 5, ground := Ground.phase }, { on := 6, ground := Ground.phase }], guard := none }) rfl (fun K' hK => ?_) ?_
              ·
                have z0 := g6z14.out.frozen 0
                have z1 := g6z14.out.frozen 1
                have y0 : wz14.cell? ⟨Bz13, 0, none⟩ = some (.int .i64 0) := g6z14.out.cell 0
                have y1 : wz14.cell? ⟨Bz13, 1, none⟩ = some (.int .i64 0) := g6z14.out.cell 1
                have hz15 : Hid (Below W0.heap.size W0 ((wz14.setCell ⟨Bz13, 0, none⟩ (.int .i64 k')).setCell ⟨Bz13, 1, none⟩ (.int .i64 n'))) := (hz14.out.setCell (p := ⟨Bz13, 0, none⟩) lz13 _).setCell (p := ⟨Bz13, 1, none⟩) lz13 _
                have g6z15 : Hid (Blk ((wz14.setCell ⟨Bz13, 0, none⟩ (.int .i64 k')).setCell ⟨Bz13, 1, none⟩ (.int .i64 n')) Bz13 25 #[.int .i64 k', .int .i64 n']) := (g6z14.out.set 0 (.int .i64 k')).set 1 (.int .i64 n')
                have g5z15 := Lib.hid ((g5z14.out.other nz13 0 (.int .i64 k')).other nz13 1 (.int .i64 n'))
                go_simp
                refine hK.out _ _ (SOK.out _ hz15.out) (fun hHeld => ?_)
                clear hK K'
                try simp only [Act.put, List.setIfInBounds_toArray, List.set_cons_zero, List.set_cons_succ]
                clear hHeld
                clear z0 z1 y0 y1 hz14 g6z14 g5z14
                generalize (wz14.setCell ⟨Bz13, 0, none⟩ (.int .i64 k')).setCell ⟨Bz13, 1, none⟩ (.int .i64 n') = wz15 at *
                refine wpAnyH_done (by kernel_rfl) ?_ _
                refine NoPanic.normal ?_
                go_wp2_with fail
                go_meet
                exact ⟨_, _, rfl, rfl, hz15, g5z15, g6z15⟩
              exact AllReadyH.nil
            exact AllReadyH.nil
          exact AllReadyH.nil
        refine AllReadyH.cons (o := { dst := some 6, op := Op.alloc 25, type := 0, pos := "outright.go:11", after := #[], guard := none }) rfl (fun K' hK => ?_) ?_
        ·
          have hz16 := Lib.hid (hz11.out.alloc hz11.out.size (.cells #[.int .i64 0, .int .i64 0] 25))
          have g6z16 := Lib.hid (Blk.new wz11 25 #[.int .i64 0, .int .i64 0])
          have lz16 : W0.heap.size ≤ wz11.heap.size := hz11.out.size
          have g5z16 := Lib.hid (g5z11.out.alloc (.cells #[.int .i64 0, .int .i64 0] 25))
          have nz16 : Bz11 ≠ wz11.heap.size := Nat.ne_of_lt g5z11.out.lt
          go_simp
          refine hK.out _ _ (SOK.out _ hz16.out) (fun hHeld => ?_)
          clear hK K'
          try simp only [Act.put, List.setIfInBounds_toArray, List.set_cons_zero, List.set_cons_succ]
          clear hHeld
          clear hz11 g5z11
          generalize wz11.alloc (.cells #[.int .i64 0, .int .i64 0] 25) = wz16 at *
          generalize wz11.heap.size = Bz16 at *
          refine wpAnyH_ready (rs := [3]) (by kernel_rfl) (by simp) ?_
          refine AllReadyH.cons (o := { dst := some 16, op := Op.call { callee := Callee.value (Operand.func 12), args := #[Operand.tmp 15], argTypes := #[23] }, type := 25, pos := "outright.go:11", after := #[{ on := 2, ground := Ground.data }, { on := 1, ground := Ground.chain }], guard := none }) rfl (fun K' hK => ?_) ?_
          ·
            go_simp
            refine (of09_any _ _ _).mono ?_
            rintro e wz17 ⟨rfl, hbz⟩
            have hz17 := belB hz16 hbz
            have g5z17 := blkB g5z16 hbz
            have g6z17 := blkB g6z16 hbz
            refine hK.out _ _ (SOK.out _ hz17.out) (fun hHeld => ?_)
            clear hK K'
            try simp only [Act.put, List.setIfInBounds_toArray, List.set_cons_zero, List.set_cons_succ]
            clear hHeld
            clear hbz hz16 g5z16 g6z16
            refine wpAnyH_ready (rs := [6]) (by kernel_rfl) (by simp) ?_
            refine AllReadyH.cons (o := { dst := none, op := Op.store 25 (Operand.tmp 5) (Operand.tmp 14), type := 0, pos := "outright.go:11", after := #[{ on := 4, ground := Ground.data }, { on := 1, ground := Ground.data }, { on := 3, ground := Ground.chain }, { on := 0, ground := Ground.phase }, { on := 1, ground := Ground.phase }, { on := 2, ground := Ground.textOnly Departure.lateStores }, { on := 3, ground := Ground.textOnly Departure.lateStoresUnsure }, { on := 4, ground := Ground.phase }, { on := 5, ground := Ground.phase }], guard := none }) rfl (fun K' hK => ?_) ?_
            ·
              have z0 := g5z17.out.frozen 0
              have z1 := g5z17.out.frozen 1
              have y0 : wz17.cell? ⟨Bz11, 0, none⟩ = some (.int .i64 0) := g5z17.out.cell 0
              have y1 : wz17.cell? ⟨Bz11, 1, none⟩ = some (.int .i64 0) := g5z17.out.cell 1
              have hz18 : Hid (Below W0.heap.size W0 ((wz17.setCell ⟨Bz11, 0, none⟩ (.int .i64 k)).setCell ⟨Bz11, 1, none⟩ (.int .i64 n))) := (hz17.out.setCell (p := ⟨Bz11, 0, none⟩) lz11 _).setCell (p := ⟨Bz11, 1, none⟩) lz11 _
              have g5z18 : Hid (Blk ((wz17.setCell ⟨Bz11, 0, none⟩ (.int .i64 k)).setCell ⟨Bz11, 1, none⟩ (.int .i64 n)) Bz11 25 #[.int .i64 k, .int .i64 n]) := (g5z17.out.set 0 (.int .i64 k)).set 1 (.int .i64 n)
              have g6z18 := Lib.hid ((g6z17.out.other (Ne.symm nz16) 0 (.int .i64 k)).other (Ne.symm nz16) 1 (.int .i64 n))
              go_simp
              refine hK.out _ _ (SOK.out _ hz18.out) (fun hHeld => ?_)
              clear hK K'
              try simp only [Act.put, List.setIfInBounds_toArray, List.set_cons_zero, List.set_cons_succ]
              clear hHeld
              clear z0 z1 y0 y1 hz17 g5z17 g6z17
              generalize (wz17.setCell ⟨Bz11, 0, none⟩ (.int .i64 k)).setCell ⟨Bz11, 1, none⟩ (.int .i64 n) = wz18 at *
              refine wpAnyH_ready (rs := [7]) (by kernel_rfl) (by simp) ?_
              refine AllReadyH.cons (o := { dst := none, op := Op.store 25 (Operand.tmp 6) (Operand.tmp 16), type := 0, pos := "outright.go:11", after := #[{ on := 5, ground := Ground.data }, { on := 3, ground := Ground.data }, { on := 6, ground := Ground.chain }, { on := 0, ground := Ground.phase }, { on := 1, ground := Ground.phase }, { on := 2, ground := Ground.phase }, { on := 3, ground := Ground.phase }, { on := 4, ground := Ground.phase }, { on := 5, ground := Ground.phase }, { on := 6, ground := Ground.phase }], guard := none }) rfl (fun K' hK => ?_) ?_
              ·
                have z0 := g6z18.out.frozen 0
                have z1 := g6z18.out.frozen 1
                have y0 : wz18.cell? ⟨Bz16, 0, none⟩ = some (.int .i64 0) := g6z18.out.cell 0
                have y1 : wz18.cell? ⟨Bz16, 1, none⟩ = some (.int .i64 0) := g6z18.out.cell 1
                have hz19 : Hid (Below W0.heap.size W0 ((wz18.setCell ⟨Bz16, 0, none⟩ (.int .i64 k')).setCell ⟨Bz16, 1, none⟩ (.int .i64 n'))) := (hz18.out.setCell (p := ⟨Bz16, 0, none⟩) lz16 _).setCell (p := ⟨Bz16, 1, none⟩) lz16 _
                have g6z19 : Hid (Blk ((wz18.setCell ⟨Bz16, 0, none⟩ (.int .i64 k')).setCell ⟨Bz16, 1, none⟩ (.int .i64 n')) Bz16 25 #[.int .i64 k', .int .i64 n']) := (g6z18.out.set 0 (.int .i64 k')).set 1 (.int .i64 n')
                have g5z19 := Lib.hid ((g5z18.out.other nz16 0 (.int .i64 k')).other nz16 1 (.int .i64 n'))
                go_simp
                refine hK.out _ _ (SOK.out _ hz19.out) (fun hHeld => ?_)
                clear hK K'
                try simp only [Act.put, List.setIfInBounds_toArray, List.set_cons_zero, List.set_cons_succ]
                clear hHeld
                clear z0 z1 y0 y1 hz18 g6z18 g5z18
                generalize (wz18.setCell ⟨Bz16, 0, none⟩ (.int .i64 k')).setCell ⟨Bz16, 1, none⟩ (.int .i64 n') = wz19 at *
                refine wpAnyH_done (by kernel_rfl) ?_ _
                refine NoPanic.normal ?_
                go_wp2_with fail
                go_meet
                exact ⟨_, _, rfl, rfl, hz19, g5z19, g6z19⟩
              exact AllReadyH.nil
            exact AllReadyH.nil
          exact AllReadyH.nil
        exact AllReadyH.nil
      refine AllReadyH.cons (o := { dst := some 6, op := Op.alloc 25, type := 0, pos := "outright.go:11", after := #[], guard := none }) rfl (fun K' hK => ?_) ?_
      ·
        have hz20 := Lib.hid (hz1.out.alloc hz1.out.size (.cells #[.int .i64 0, .int .i64 0] 25))
        have g6z20 := Lib.hid (Blk.new wz1 25 #[.int .i64 0, .int .i64 0])
        have lz20 : W0.heap.size ≤ wz1.heap.size := hz1.out.size
        go_simp
        refine hK.out _ _ (SOK.out _ hz20.out) (fun hHeld => ?_)
        clear hK K'
        try simp only [Act.put, List.setIfInBounds_toArray, List.set_cons_zero, List.set_cons_succ]
        clear hHeld
        clear hz1
        generalize wz1.alloc (.cells #[.int .i64 0, .int .i64 0] 25) = wz20 at *
        generalize wz1.heap.size = Bz20 at *
        refine wpAnyH_ready (rs := [3, 4]) (by kernel_rfl) (by simp) ?_
        refine AllReadyH.cons (o := { dst := some 16, op := Op.call { callee := Callee.value (Operand.func 12), args := #[Operand.tmp 15], argTypes := #[23] }, type := 25, pos := "outright.go:11", after := #[{ on := 2, ground := Ground.data }, { on := 1, ground := Ground.chain }], guard := none }) rfl (fun K' hK => ?_) ?_
        ·
          go_simp
          refine (of09_any _ _ _).mono ?_
          rintro e wz21 ⟨rfl, hbz⟩
          have hz21 := belB hz20 hbz
          have g6z21 := blkB g6z20 hbz
          refine hK.out _ _ (SOK.out _ hz21.out) (fun hHeld => ?_)
          clear hK K'
          try simp only [Act.put, List.setIfInBounds_toArray, List.set_cons_zero, List.set_cons_succ]
          clear hHeld
          clear hbz hz20 g6z20
          refine wpAnyH_ready (rs := [4]) (by kernel_rfl) (by simp) ?_
          refine AllReadyH.cons (o := { dst := some 5, op := Op.alloc 25, type := 0, pos := "outright.go:11", after := #[], guard := none }) rfl (fun K' hK => ?_) ?_
          ·
            have hz22 := Lib.hid (hz21.out.alloc hz21.out.size (.cells #[.int .i64 0, .int .i64 0] 25))
            have g5z22 := Lib.hid (Blk.new wz21 25 #[.int .i64 0, .int .i64 0])
            have lz22 : W0.heap.size ≤ wz21.heap.size := hz21.out.size
            have g6z22 := Lib.hid (g6z21.out.alloc (.cells #[.int .i64 0, .int .i64 0] 25))
            have nz22 : Bz20 ≠ wz21.heap.size := Nat.ne_of_lt g6z21.out.lt
            go_simp
            refine hK.out _ _ (SOK.out _ hz22.out) (fun hHeld => ?_)
            clear hK K'
            try simp only [Act.put, List.setIfInBounds_toArray, List.set_cons_zero, List.set_cons_succ]
            clear hHeld
            clear hz21 g6z21
            generalize wz21.alloc (.cells #[.int .i64 0, .int .i64 0] 25) = wz22 at *
            generalize wz21.heap.size = Bz22 at *
            refine wpAnyH_ready (rs := [6]) (by kernel_rfl) (by simp) ?_
            refine AllReadyH.cons (o := { dst := none, op := Op.store 25 (Operand.tmp 5) (Operand.tmp 14), type := 0, pos := "outright.go:11", after := #[{ on := 4, ground := Ground.data }, { on := 1, ground := Ground.data }, { on := 3, ground := Ground.chain }, { on := 0, ground := Ground.phase }, { on := 1, ground := Ground.phase }, { on := 2, ground := Ground.textOnly Departure.lateStores }, { on := 3, ground := Ground.textOnly Departure.lateStoresUnsure }, { on := 4, ground := Ground.phase }, { on := 5, ground := Ground.phase }], guard := none }) rfl (fun K' hK => ?_) ?_
            ·
              have z0 := g5z22.out.frozen 0
              have z1 := g5z22.out.frozen 1
              have y0 : wz22.cell? ⟨Bz22, 0, none⟩ = some (.int .i64 0) := g5z22.out.cell 0
              have y1 : wz22.cell? ⟨Bz22, 1, none⟩ = some (.int .i64 0) := g5z22.out.cell 1
              have hz23 : Hid (Below W0.heap.size W0 ((wz22.setCell ⟨Bz22, 0, none⟩ (.int .i64 k)).setCell ⟨Bz22, 1, none⟩ (.int .i64 n))) := (hz22.out.setCell (p := ⟨Bz22, 0, none⟩) lz22 _).setCell (p := ⟨Bz22, 1, none⟩) lz22 _
              have g5z23 : Hid (Blk ((wz22.setCell ⟨Bz22, 0, none⟩ (.int .i64 k)).setCell ⟨Bz22, 1, none⟩ (.int .i64 n)) Bz22 25 #[.int .i64 k, .int .i64 n]) := (g5z22.out.set 0 (.int .i64 k)).set 1 (.int .i64 n)
              have g6z23 := Lib.hid ((g6z22.out.other nz22 0 (.int .i64 k)).other nz22 1 (.int .i64 n))
              go_simp
              refine hK.out _ _ (SOK.out _ hz23.out) (fun hHeld => ?_)
              clear hK K'
              try simp only [Act.put, List.setIfInBounds_toArray, List.set_cons_zero, List.set_cons_succ]
              clear hHeld
              clear z0 z1 y0 y1 hz22 g5z22 g6z22
              generalize (wz22.setCell ⟨Bz22, 0, none⟩ (.int .i64 k)).setCell ⟨Bz22, 1, none⟩ (.int .i64 n) = wz23 at *
              refine wpAnyH_ready (rs := [7]) (by kernel_rfl) (by simp) ?_
              refine AllReadyH.cons (o := { dst := none, op := Op.store 25 (Operand.tmp 6) (Operand.tmp 16), type := 0, pos := "outright.go:11", after := #[{ on := 5, ground := Ground.data }, { on := 3, ground := Ground.data }, { on := 6, ground := Ground.chain }, { on := 0, ground := Ground.phase }, { on := 1, ground := Ground.phase }, { on := 2, ground := Ground.phase }, { on := 3, ground := Ground.phase }, { on := 4, ground := Ground.phase }, { on := 5, ground := Ground.phase }, { on := 6, ground := Ground.phase }], guard := none }) rfl (fun K' hK => ?_) ?_
              ·
                have z0 := g6z23.out.frozen 0
                have z1 := g6z23.out.frozen 1
                have y0 : wz23.cell? ⟨Bz20, 0, none⟩ = some (.int .i64 0) := g6z23.out.cell 0
                have y1 : wz23.cell? ⟨Bz20, 1, none⟩ = some (.int .i64 0) := g6z23.out.cell 1
                have hz24 : Hid (Below W0.heap.size W0 ((wz23.setCell ⟨Bz20, 0, none⟩ (.int .i64 k')).setCell ⟨Bz20, 1, none⟩ (.int .i64 n'))) := (hz23.out.setCell (p := ⟨Bz20, 0, none⟩) lz20 _).setCell (p := ⟨Bz20, 1, none⟩) lz20 _
                have g6z24 : Hid (Blk ((wz23.setCell ⟨Bz20, 0, none⟩ (.int .i64 k')).setCell ⟨Bz20, 1, none⟩ (.int .i64 n')) Bz20 25 #[.int .i64 k', .int .i64 n']) := (g6z23.out.set 0 (.int .i64 k')).set 1 (.int .i64 n')
                have g5z24 := Lib.hid ((g5z23.out.other (Ne.symm nz22) 0 (.int .i64 k')).other (Ne.symm nz22) 1 (.int .i64 n'))
                go_simp
                refine hK.out _ _ (SOK.out _ hz24.out) (fun hHeld => ?_)
                clear hK K'
                try simp only [Act.put, List.setIfInBounds_toArray, List.set_cons_zero, List.set_cons_succ]
                clear hHeld
                clear z0 z1 y0 y1 hz23 g6z23 g5z23
                generalize (wz23.setCell ⟨Bz20, 0, none⟩ (.int .i64 k')).setCell ⟨Bz20, 1, none⟩ (.int .i64 n') = wz24 at *
                refine wpAnyH_done (by kernel_rfl) ?_ _
                refine NoPanic.normal ?_
                go_wp2_with fail
                go_meet
                exact ⟨_, _, rfl, rfl, hz24, g5z24, g6z24⟩
              exact AllReadyH.nil
            exact AllReadyH.nil
          exact AllReadyH.nil
        refine AllReadyH.cons (o := { dst := some 5, op := Op.alloc 25, type := 0, pos := "outright.go:11", after := #[], guard := none }) rfl (fun K' hK => ?_) ?_
        ·
          have hz25 := Lib.hid (hz20.out.alloc hz20.out.size (.cells #[.int .i64 0, .int .i64 0] 25))
          have g5z25 := Lib.hid (Blk.new wz20 25 #[.int .i64 0, .int .i64 0])
          have lz25 : W0.heap.size ≤ wz20.heap.size := hz20.out.size
          have g6z25 := Lib.hid (g6z20.out.alloc (.cells #[.int .i64 0, .int .i64 0] 25))
          have nz25 : Bz20 ≠ wz20.heap.size := Nat.ne_of_lt g6z20.out.lt
          go_simp
          refine hK.out _ _ (SOK.out _ hz25.out) (fun hHeld => ?_)
          clear hK K'
          try simp only [Act.put, List.setIfInBounds_toArray, List.set_cons_zero, List.set_cons_succ]
          clear hHeld
          clear hz20 g6z20
          generalize wz20.alloc (.cells #[.int .i64 0, .int .i64 0] 25) = wz25 at *
          generalize wz20.heap.size = Bz25 at *
          refine wpAnyH_ready (rs := [3]) (by kernel_rfl) (by simp) ?_
          refine AllReadyH.cons (o := { dst := some 16, op := Op.call { callee := Callee.value (Operand.func 12), args := #[Operand.tmp 15], argTypes := #[23] }, type := 25, pos := "outright.go:11", after := #[{ on := 2, ground := Ground.data }, { on := 1, ground := Ground.chain }], guard := none }) rfl (fun K' hK => ?_) ?_
          ·
            go_simp
            refine (of09_any _ _ _).mono ?_
            rintro e wz26 ⟨rfl, hbz⟩
            have hz26 := belB hz25 hbz
            have g5z26 := blkB g5z25 hbz
            have g6z26 := blkB g6z25 hbz
            refine hK.out _ _ (SOK.out _ hz26.out) (fun hHeld => ?_)
            clear hK K'
            try simp only [Act.put, List.setIfInBounds_toArray, List.set_cons_zero, List.set_cons_succ]
            clear hHeld
            clear hbz hz25 g5z25 g6z25
            refine wpAnyH_ready (rs := [6]) (by kernel_rfl) (by simp) ?_
            refine AllReadyH.cons (o := { dst := none, op := Op.store 25 (Operand.tmp 5) (Operand.tmp 14), type := 0, pos := "outright.go:11", after := #[{ on := 4, ground := Ground.data }, { on := 1, ground := Ground.data }, { on := 3, ground := Ground.chain }, { on := 0, ground := Ground.phase }, { on := 1, ground := Ground.phase }, { on := 2, ground := Ground.textOnly Departure.lateStores }, { on := 3, ground := Ground.textOnly Departure.lateStoresUnsure }, { on := 4, ground := Ground.phase }, { on := 5, ground := Ground.phase }], guard := none }) rfl (fun K' hK => ?_) ?_
            ·
              have z0 := g5z26.out.frozen 0
              have z1 := g5z26.out.frozen 1
              have y0 : wz26.cell? ⟨Bz25, 0, none⟩ = some (.int .i64 0) := g5z26.out.cell 0
              have y1 : wz26.cell? ⟨Bz25, 1, none⟩ = some (.int .i64 0) := g5z26.out.cell 1
              have hz27 : Hid (Below W0.heap.size W0 ((wz26.setCell ⟨Bz25, 0, none⟩ (.int .i64 k)).setCell ⟨Bz25, 1, none⟩ (.int .i64 n))) := (hz26.out.setCell (p := ⟨Bz25, 0, none⟩) lz25 _).setCell (p := ⟨Bz25, 1, none⟩) lz25 _
              have g5z27 : Hid (Blk ((wz26.setCell ⟨Bz25, 0, none⟩ (.int .i64 k)).setCell ⟨Bz25, 1, none⟩ (.int .i64 n)) Bz25 25 #[.int .i64 k, .int .i64 n]) := (g5z26.out.set 0 (.int .i64 k)).set 1 (.int .i64 n)
              have g6z27 := Lib.hid ((g6z26.out.other nz25 0 (.int .i64 k)).other nz25 1 (.int .i64 n))
              go_simp
              refine hK.out _ _ (SOK.out _ hz27.out) (fun hHeld => ?_)
              clear hK K'
              try simp only [Act.put, List.setIfInBounds_toArray, List.set_cons_zero, List.set_cons_succ]
              clear hHeld
              clear z0 z1 y0 y1 hz26 g5z26 g6z26
              generalize (wz26.setCell ⟨Bz25, 0, none⟩ (.int .i64 k)).setCell ⟨Bz25, 1, none⟩ (.int .i64 n) = wz27 at *
              refine wpAnyH_ready (rs := [7]) (by kernel_rfl) (by simp) ?_
              refine AllReadyH.cons (o := { dst := none, op := Op.store 25 (Operand.tmp 6) (Operand.tmp 16), type := 0, pos := "outright.go:11", after := #[{ on := 5, ground := Ground.data }, { on := 3, ground := Ground.data }, { on := 6, ground := Ground.chain }, { on := 0, ground := Ground.phase }, { on := 1, ground := Ground.phase }, { on := 2, ground := Ground.phase }, { on := 3, ground := Ground.phase }, { on := 4, ground := Ground.phase }, { on := 5, ground := Ground.phase }, { on := 6, ground := Ground.phase }], guard := none }) rfl (fun K' hK => ?_) ?_
              ·
                have z0 := g6z27.out.frozen 0
                have z1 := g6z27.out.frozen 1
                have y0 : wz27.cell? ⟨Bz20, 0, none⟩ = some (.int .i64 0) := g6z27.out.cell 0
                have y1 : wz27.cell? ⟨Bz20, 1, none⟩ = some (.int .i64 0) := g6z27.out.cell 1
                have hz28 : Hid (Below W0.heap.size W0 ((wz27.setCell ⟨Bz20, 0, none⟩ (.int .i64 k')).setCell ⟨Bz20, 1, none⟩ (.int .i64 n'))) := (hz27.out.setCell (p := ⟨Bz20, 0, none⟩) lz20 _).setCell (p := ⟨Bz20, 1, none⟩) lz20 _
                have g6z28 : Hid (Blk ((wz27.setCell ⟨Bz20, 0, none⟩ (.int .i64 k')).setCell ⟨Bz20, 1, none⟩ (.int .i64 n')) Bz20 25 #[.int .i64 k', .int .i64 n']) := (g6z27.out.set 0 (.int .i64 k')).set 1 (.int .i64 n')
                have g5z28 := Lib.hid ((g5z27.out.other (Ne.symm nz25) 0 (.int .i64 k')).other (Ne.symm nz25) 1 (.int .i64 n'))
                go_simp
                refine hK.out _ _ (SOK.out _ hz28.out) (fun hHeld => ?_)
                clear hK K'
                try simp only [Act.put, List.setIfInBounds_toArray, List.set_cons_zero, List.set_cons_succ]
                clear hHeld
                clear z0 z1 y0 y1 hz27 g6z27 g5z27
                generalize (wz27.setCell ⟨Bz20, 0, none⟩ (.int .i64 k')).setCell ⟨Bz20, 1, none⟩ (.int .i64 n') = wz28 at *
                refine wpAnyH_done (by kernel_rfl) ?_ _
                refine NoPanic.normal ?_
                go_wp2_with fail
                go_meet
                exact ⟨_, _, rfl, rfl, hz28, g5z28, g6z28⟩
              exact AllReadyH.nil
            exact AllReadyH.nil
          exact AllReadyH.nil
        exact AllReadyH.nil
      exact AllReadyH.nil
    refine AllReadyH.cons (o := { dst := some 5, op := Op.alloc 25, type := 0, pos := "outright.go:11", after := #[], guard := none }) rfl (fun K' hK => ?_) ?_
    ·
      have hz29 := Lib.hid (hz0.out.alloc hz0.out.size (.cells #[.int .i64 0, .int .i64 0] 25))
      have g5z29 := Lib.hid (Blk.new wz0 25 #[.int .i64 0, .int .i64 0])
      have lz29 : W0.heap.size ≤ wz0.heap.size := hz0.out.size
      go_simp
      refine hK.out _ _ (SOK.out _ hz29.out) (fun hHeld => ?_)
      clear hK K'
      try simp only [Act.put, List.setIfInBounds_toArray, List.set_cons_zero, List.set_cons_succ]
      clear hHeld
      clear hz0
      generalize wz0.alloc (.cells #[.int .i64 0, .int .i64 0] 25) = wz29 at *
      generalize wz0.heap.size = Bz29 at *
      refine wpAnyH_ready (rs := [1, 5]) (by kernel_rfl) (by simp) ?_
      refine AllReadyH.cons (o := { dst := some 14, op := Op.call { callee := Callee.value (Operand.func 12), args := #[Operand.tmp 13], argTypes := #[23] }, type := 25, pos := "outright.go:11", after := #[{ on := 0, ground := Ground.data }], guard := none }) rfl (fun K' hK => ?_) ?_
      ·
        go_simp
        refine (of09_any _ _ _).mono ?_
        rintro e wz30 ⟨rfl, hbz⟩
        have hz30 := belB hz29 hbz
        have g5z30 := blkB g5z29 hbz
        refine hK.out _ _ (SOK.out _ hz30.out) (fun hHeld => ?_)
        clear hK K'
        try simp only [Act.put, List.setIfInBounds_toArray, List.set_cons_zero, List.set_cons_succ]
        clear hHeld
        clear hbz hz29 g5z29
        refine wpAnyH_ready (rs := [3, 5]) (by kernel_rfl) (by simp) ?_
        refine AllReadyH.cons (o := { dst := some 16, op := Op.call { callee := Callee.value (Operand.func 12), args := #[Operand.tmp 15], argTypes := #[23] }, type := 25, pos := "outright.go:11", after := #[{ on := 2, ground := Ground.data }, { on := 1, ground := Ground.chain }], guard := none }) rfl (fun K' hK => ?_) ?_
        ·
          go_simp
          refine (of09_any _ _ _).mono ?_
          rintro e wz31 ⟨rfl, hbz⟩
          have hz31 := belB hz30 hbz
          have g5z31 := blkB g5z30 hbz
          refine hK.out _ _ (SOK.out _ hz31.out) (fun hHeld => ?_)
          clear hK K'
          try simp only [Act.put, List.setIfInBounds_toArray, List.set_cons_zero, List.set_cons_succ]
          clear hHeld
          clear hbz hz30 g5z30
          refine wpAnyH_ready (rs := [5]) (by kernel_rfl) (by simp) ?_
          refine AllReadyH.cons (o := { dst := some 6, op := Op.alloc 25, type := 0, pos := "outright.go:11", after := #[], guard := none }) rfl (fun K' hK => ?_) ?_
          ·
            have hz32 := Lib.hid (hz31.out.alloc hz31.out.size (.cells #[.int .i64 0, .int .i64 0] 25))
            have g6z32 := Lib.hid (Blk.new wz31 25 #[.int .i64 0, .int .i64 0])
            have lz32 : W0.heap.size ≤ wz31.heap.size := hz31.out.size
            have g5z32 := Lib.hid (g5z31.out.alloc (.cells #[.int .i64 0, .int .i64 0] 25))
            have nz32 : Bz29 ≠ wz31.heap.size := Nat.ne_of_lt g5z31.out.lt
            go_simp
            refine hK.out _ _ (SOK.out _ hz32.out) (fun hHeld => ?_)
            clear hK K'
            try simp only [Act.put, List.setIfInBounds_toArray, List.set_cons_zero, List.set_cons_succ]
            clear hHeld
            clear hz31 g5z31
            generalize wz31.alloc (.cells #[.int .i64 0, .int .i64 0] 25) = wz32 at *
            generalize wz31.heap.size = Bz32 at *
            refine wpAnyH_ready (rs := [6]) (by kernel_rfl) (by simp) ?_
            refine AllReadyH.cons (o := { dst := none, op := Op.store 25 (Operand.tmp 5) (Operand.tmp 14), type := 0, pos := "outright.go:11", after := #[{ on := 4, ground := Ground.data }, { on := 1, ground := Ground.data }, { on := 3, ground := Ground.chain }, { on := 0, ground := Ground.phase }, { on := 1, ground := Ground.phase }, { on := 2, ground := Ground.textOnly Departure.lateStores }, { on := 3, ground := Ground.textOnly Departure.lateStoresUnsure }, { on := 4, ground := Ground.phase }, { on := 5, ground := Ground.phase }], guard := none }) rfl (fun K' hK => ?_) ?_
            ·
              have z0 := g5z32.out.frozen 0
              have z1 := g5z32.out.frozen 1
              have y0 : wz32.cell? ⟨Bz29, 0, none⟩ = some (.int .i64 0) := g5z32.out.cell 0
              have y1 : wz32.cell? ⟨Bz29, 1, none⟩ = some (.int .i64 0) := g5z32.out.cell 1
              have hz33 : Hid (Below W0.heap.size W0 ((wz32.setCell ⟨Bz29, 0, none⟩ (.int .i64 k)).setCell ⟨Bz29, 1, none⟩ (.int .i64 n))) := (hz32.out.setCell (p := ⟨Bz29, 0, none⟩) lz29 _).setCell (p := ⟨Bz29, 1, none⟩) lz29 _
              have g5z33 : Hid (Blk ((wz32.setCell ⟨Bz29, 0, none⟩ (.int .i64 k)).setCell ⟨Bz29, 1, none⟩ (.int .i64 n)) Bz29 25 #[.int .i64 k, .int .i64 n]) := (g5z32.out.set 0 (.int .i64 k)).set 1 (.int .i64 n)
              have g6z33 := Lib.hid ((g6z32.out.other (Ne.symm nz32) 0 (.int .i64 k)).other (Ne.symm nz32) 1 (.int .i64 n))
              go_simp
              refine hK.out _ _ (SOK.out _ hz33.out) (fun hHeld => ?_)
              clear hK K'
              try simp only [Act.put, List.setIfInBounds_toArray, List.set_cons_zero, List.set_cons_succ]
              clear hHeld
              clear z0 z1 y0 y1 hz32 g5z32 g6z32
              generalize (wz32.setCell ⟨Bz29, 0, none⟩ (.int .i64 k)).setCell ⟨Bz29, 1, none⟩ (.int .i64 n) = wz33 at *
              refine wpAnyH_ready (rs := [7]) (by kernel_rfl) (by simp) ?_
              refine AllReadyH.cons (o := { dst := none, op := Op.store 25 (Operand.tmp 6) (Operand.tmp 16), type := 0, pos := "outright.go:11", after := #[{ on := 5, ground := Ground.data }, { on := 3, ground := Ground.data }, { on := 6, ground := Ground.chain }, { on := 0, ground := Ground.phase }, { on := 1, ground := Ground.phase }, { on := 2, ground := Ground.phase }, { on := 3, ground := Ground.phase }, { on := 4, ground := Ground.phase }, { on := 5, ground := Ground.phase }, { on := 6, ground := Ground.phase }], guard := none }) rfl (fun K' hK => ?_) ?_
              ·
                have z0 := g6z33.out.frozen 0
                have z1 := g6z33.out.frozen 1
                have y0 : wz33.cell? ⟨Bz32, 0, none⟩ = some (.int .i64 0) := g6z33.out.cell 0
                have y1 : wz33.cell? ⟨Bz32, 1, none⟩ = some (.int .i64 0) := g6z33.out.cell 1
                have hz34 : Hid (Below W0.heap.size W0 ((wz33.setCell ⟨Bz32, 0, none⟩ (.int .i64 k')).setCell ⟨Bz32, 1, none⟩ (.int .i64 n'))) := (hz33.out.setCell (p := ⟨Bz32, 0, none⟩) lz32 _).setCell (p := ⟨Bz32, 1, none⟩) lz32 _
                have g6z34 : Hid (Blk ((wz33.setCell ⟨Bz32, 0, none⟩ (.int .i64 k')).setCell ⟨Bz32, 1, none⟩ (.int .i64 n')) Bz32 25 #[.int .i64 k', .int .i64 n']) := (g6z33.out.set 0 (.int .i64 k')).set 1 (.int .i64 n')
                have g5z34 := Lib.hid ((g5z33.out.other nz32 0 (.int .i64 k')).other nz32 1 (.int .i64 n'))
                go_simp
                refine hK.out _ _ (SOK.out _ hz34.out) (fun hHeld => ?_)
                clear hK K'
                try simp only [Act.put, List.setIfInBounds_toArray, List.set_cons_zero, List.set_cons_succ]
                clear hHeld
                clear z0 z1 y0 y1 hz33 g6z33 g5z33
                generalize (wz33.setCell ⟨Bz32, 0, none⟩ (.int .i64 k')).setCell ⟨Bz32, 1, none⟩ (.int .i64 n') = wz34 at *
                refine wpAnyH_done (by kernel_rfl) ?_ _
                refine NoPanic.normal ?_
                go_wp2_with fail
                go_meet
                exact ⟨_, _, rfl, rfl, hz34, g5z34, g6z34⟩
              exact AllReadyH.nil
            exact AllReadyH.nil
          exact AllReadyH.nil
        refine AllReadyH.cons (o := { dst := some 6, op := Op.alloc 25, type := 0, pos := "outright.go:11", after := #[], guard := none }) rfl (fun K' hK => ?_) ?_
        ·
          have hz35 := Lib.hid (hz30.out.alloc hz30.out.size (.cells #[.int .i64 0, .int .i64 0] 25))
          have g6z35 := Lib.hid (Blk.new wz30 25 #[.int .i64 0, .int .i64 0])
          have lz35 : W0.heap.size ≤ wz30.heap.size := hz30.out.size
          have g5z35 := Lib.hid (g5z30.out.alloc (.cells #[.int .i64 0, .int .i64 0] 25))
          have nz35 : Bz29 ≠ wz30.heap.size := Nat.ne_of_lt g5z30.out.lt
          go_simp
          refine hK.out _ _ (SOK.out _ hz35.out) (fun hHeld => ?_)
          clear hK K'
          try simp only [Act.put, List.setIfInBounds_toArray, List.set_cons_zero, List.set_cons_succ]
          clear hHeld
          clear hz30 g5z30
          generalize wz30.alloc (.cells #[.int .i64 0, .int .i64 0] 25) = wz35 at *
          generalize wz30.heap.size = Bz35 at *
          refine wpAnyH_ready (rs := [3]) (by kernel_rfl) (by simp) ?_
          refine AllReadyH.cons (o := { dst := some 16, op := Op.call { callee := Callee.value (Operand.func 12), args := #[Operand.tmp 15], argTypes := #[23] }, type := 25, pos := "outright.go:11", after := #[{ on := 2, ground := Ground.data }, { on := 1, ground := Ground.chain }], guard := none }) rfl (fun K' hK => ?_) ?_
          ·
            go_simp
            refine (of09_any _ _ _).mono ?_
            rintro e wz36 ⟨rfl, hbz⟩
            have hz36 := belB hz35 hbz
            have g5z36 := blkB g5z35 hbz
            have g6z36 := blkB g6z35 hbz
            refine hK.out _ _ (SOK.out _ hz36.out) (fun hHeld => ?_)
            clear hK K'
            try simp only [Act.put, List.setIfInBounds_toArray, List.set_cons_zero, List.set_cons_succ]
            clear hHeld
            clear hbz hz35 g5z35 g6z35
            refine wpAnyH_ready (rs := [6]) (by kernel_rfl) (by simp) ?_
            refine AllReadyH.cons (o := { dst := none, op := Op.store 25 (Operand.tmp 5) (Operand.tmp 14), type := 0, pos := "outright.go:11", after := #[{ on := 4, ground := Ground.data }, { on := 1, ground := Ground.data }, { on := 3, ground := Ground.chain }, { on := 0, ground := Ground.phase }, { on := 1, ground := Ground.phase }, { on := 2, ground := Ground.textOnly Departure.lateStores }, { on := 3, ground := Ground.textOnly Departure.lateStoresUnsure }, { on := 4, ground := Ground.phase }, { on := 5, ground := Ground.phase }], guard := none }) rfl (fun K' hK => ?_) ?_
            ·
              have z0 := g5z36.out.frozen 0
              have z1 := g5z36.out.frozen 1
              have y0 : wz36.cell? ⟨Bz29, 0, none⟩ = some (.int .i64 0) := g5z36.out.cell 0
              have y1 : wz36.cell? ⟨Bz29, 1, none⟩ = some (.int .i64 0) := g5z36.out.cell 1
              have hz37 : Hid (Below W0.heap.size W0 ((wz36.setCell ⟨Bz29, 0, none⟩ (.int .i64 k)).setCell ⟨Bz29, 1, none⟩ (.int .i64 n))) := (hz36.out.setCell (p := ⟨Bz29, 0, none⟩) lz29 _).setCell (p := ⟨Bz29, 1, none⟩) lz29 _
              have g5z37 : Hid (Blk ((wz36.setCell ⟨Bz29, 0, none⟩ (.int .i64 k)).setCell ⟨Bz29, 1, none⟩ (.int .i64 n)) Bz29 25 #[.int .i64 k, .int .i64 n]) := (g5z36.out.set 0 (.int .i64 k)).set 1 (.int .i64 n)
              have g6z37 := Lib.hid ((g6z36.out.other (Ne.symm nz35) 0 (.int .i64 k)).other (Ne.symm nz35) 1 (.int .i64 n))
              go_simp
              refine hK.out _ _ (SOK.out _ hz37.out) (fun hHeld => ?_)
              clear hK K'
              try simp only [Act.put, List.setIfInBounds_toArray, List.set_cons_zero, List.set_cons_succ]
              clear hHeld
              clear z0 z1 y0 y1 hz36 g5z36 g6z36
              generalize (wz36.setCell ⟨Bz29, 0, none⟩ (.int .i64 k)).setCell ⟨Bz29, 1, none⟩ (.int .i64 n) = wz37 at *
              refine wpAnyH_ready (rs := [7]) (by kernel_rfl) (by simp) ?_
              refine AllReadyH.cons (o := { dst := none, op := Op.store 25 (Operand.tmp 6) (Operand.tmp 16), type := 0, pos := "outright.go:11", after := #[{ on := 5, ground := Ground.data }, { on := 3, ground := Ground.data }, { on := 6, ground := Ground.chain }, { on := 0, ground := Ground.phase }, { on := 1, ground := Ground.phase }, { on := 2, ground := Ground.phase }, { on := 3, ground := Ground.phase }, { on := 4, ground := Ground.phase }, { on := 5, ground := Ground.phase }, { on := 6, ground := Ground.phase }], guard := none }) rfl (fun K' hK => ?_) ?_
              ·
                have z0 := g6z37.out.frozen 0
                have z1 := g6z37.out.frozen 1
                have y0 : wz37.cell? ⟨Bz35, 0, none⟩ = some (.int .i64 0) := g6z37.out.cell 0
                have y1 : wz37.cell? ⟨Bz35, 1, none⟩ = some (.int .i64 0) := g6z37.out.cell 1
                have hz38 : Hid (Below W0.heap.size W0 ((wz37.setCell ⟨Bz35, 0, none⟩ (.int .i64 k')).setCell ⟨Bz35, 1, none⟩ (.int .i64 n'))) := (hz37.out.setCell (p := ⟨Bz35, 0, none⟩) lz35 _).setCell (p := ⟨Bz35, 1, none⟩) lz35 _
                have g6z38 : Hid (Blk ((wz37.setCell ⟨Bz35, 0, none⟩ (.int .i64 k')).setCell ⟨Bz35, 1, none⟩ (.int .i64 n')) Bz35 25 #[.int .i64 k', .int .i64 n']) := (g6z37.out.set 0 (.int .i64 k')).set 1 (.int .i64 n')
                have g5z38 := Lib.hid ((g5z37.out.other nz35 0 (.int .i64 k')).other nz35 1 (.int .i64 n'))
                go_simp
                refine hK.out _ _ (SOK.out _ hz38.out) (fun hHeld => ?_)
                clear hK K'
                try simp only [Act.put, List.setIfInBounds_toArray, List.set_cons_zero, List.set_cons_succ]
                clear hHeld
                clear z0 z1 y0 y1 hz37 g6z37 g5z37
                generalize (wz37.setCell ⟨Bz35, 0, none⟩ (.int .i64 k')).setCell ⟨Bz35, 1, none⟩ (.int .i64 n') = wz38 at *
                refine wpAnyH_done (by kernel_rfl) ?_ _
                refine NoPanic.normal ?_
                go_wp2_with fail
                go_meet
                exact ⟨_, _, rfl, rfl, hz38, g5z38, g6z38⟩
              exact AllReadyH.nil
            exact AllReadyH.nil
          exact AllReadyH.nil
        exact AllReadyH.nil
      refine AllReadyH.cons (o := { dst := some 6, op := Op.alloc 25, type := 0, pos := "outright.go:11", after := #[], guard := none }) rfl (fun K' hK => ?_) ?_
      ·
        have hz39 := Lib.hid (hz29.out.alloc hz29.out.size (.cells #[.int .i64 0, .int .i64 0] 25))
        have g6z39 := Lib.hid (Blk.new wz29 25 #[.int .i64 0, .int .i64 0])
        have lz39 : W0.heap.size ≤ wz29.heap.size := hz29.out.size
        have g5z39 := Lib.hid (g5z29.out.alloc (.cells #[.int .i64 0, .int .i64 0] 25))
        have nz39 : Bz29 ≠ wz29.heap.size := Nat.ne_of_lt g5z29.out.lt
        go_simp
        refine hK.out _ _ (SOK.out _ hz39.out) (fun hHeld => ?_)
        clear hK K'
        try simp only [Act.put, List.setIfInBounds_toArray, List.set_cons_zero, List.set_cons_succ]
        clear hHeld
        clear hz29 g5z29
        generalize wz29.alloc (.cells #[.int .i64 0, .int .i64 0] 25) = wz39 at *
        generalize wz29.heap.size = Bz39 at *
        refine wpAnyH_ready (rs := [1]) (by kernel_rfl) (by simp) ?_
        refine AllReadyH.cons (o := { dst := some 14, op := Op.call { callee := Callee.value (Operand.func 12), args := #[Operand.tmp 13], argTypes := #[23] }, type := 25, pos := "outright.go:11", after := #[{ on := 0, ground := Ground.data }], guard := none }) rfl (fun K' hK => ?_) ?_
        ·
          go_simp
          refine (of09_any _ _ _).mono ?_
          rintro e wz40 ⟨rfl, hbz⟩
          have hz40 := belB hz39 hbz
          have g5z40 := blkB g5z39 hbz
          have g6z40 := blkB g6z39 hbz
          refine hK.out _ _ (SOK.out _ hz40.out) (fun hHeld => ?_)
          clear hK K'
          try simp only [Act.put, List.setIfInBounds_toArray, List.set_cons_zero, List.set_cons_succ]
          clear hHeld
          clear hbz hz39 g5z39 g6z39
          refine wpAnyH_ready (rs := [3]) (by kernel_rfl) (by simp) ?_
          refine AllReadyH.cons (o := { dst := some 16, op := Op.call { callee := Callee.value (Operand.func 12), args := #[Operand.tmp 15], argTypes := #[23] }, type := 25, pos := "outright.go:11", after := #[{ on := 2, ground := Ground.data }, { on := 1, ground := Ground.chain }], guard := none }) rfl (fun K' hK => ?_) ?_
          ·
            go_simp
            refine (of09_any _ _ _).mono ?_
            rintro e wz41 ⟨rfl, hbz⟩
            have hz41 := belB hz40 hbz
            have g5z41 := blkB g5z40 hbz
            have g6z41 := blkB g6z40 hbz
            refine hK.out _ _ (SOK.out _ hz41.out) (fun hHeld => ?_)
            clear hK K'
            try simp only [Act.put, List.setIfInBounds_toArray, List.set_cons_zero, List.set_cons_succ]
            clear hHeld
            clear hbz hz40 g5z40 g6z40
            refine wpAnyH_ready (rs := [6]) (by kernel_rfl) (by simp) ?_
            refine AllReadyH.cons (o := { dst := none, op := Op.store 25 (Operand.tmp 5) (Operand.tmp 14), type := 0, pos := "outright.go:11", after := #[{ on := 4, ground := Ground.data }, { on := 1, ground := Ground.data }, { on := 3, ground := Ground.chain }, { on := 0, ground := Ground.phase }, { on := 1, ground := Ground.phase }, { on := 2, ground := Ground.textOnly Departure.lateStores }, { on := 3, ground := Ground.textOnly Departure.lateStoresUnsure }, { on := 4, ground := Ground.phase }, { on := 5, ground := Ground.phase }], guard := none }) rfl (fun K' hK => ?_) ?_
            ·
              have z0 := g5z41.out.frozen 0
              have z1 := g5z41.out.frozen 1
              have y0 : wz41.cell? ⟨Bz29, 0, none⟩ = some (.int .i64 0) := g5z41.out.cell 0
              have y1 : wz41.cell? ⟨Bz29, 1, none⟩ = some (.int .i64 0) := g5z41.out.cell 1
              have hz42 : Hid (Below W0.heap.size W0 ((wz41.setCell ⟨Bz29, 0, none⟩ (.int .i64 k)).setCell ⟨Bz29, 1, none⟩ (.int .i64 n))) := (hz41.out.setCell (p := ⟨Bz29, 0, none⟩) lz29 _).setCell (p := ⟨Bz29, 1, none⟩) lz29 _
              have g5z42 : Hid (Blk ((wz41.setCell ⟨Bz29, 0, none⟩ (.int .i64 k)).setCell ⟨Bz29, 1, none⟩ (.int .i64 n)) Bz29 25 #[.int .i64 k, .int .i64 n]) := (g5z41.out.set 0 (.int .i64 k)).set 1 (.int .i64 n)
              have g6z42 := Lib.hid ((g6z41.out.other (Ne.symm nz39) 0 (.int .i64 k)).other (Ne.symm nz39) 1 (.int .i64 n))
              go_simp
              refine hK.out _ _ (SOK.out _ hz42.out) (fun hHeld => ?_)
              clear hK K'
              try simp only [Act.put, List.setIfInBounds_toArray, List.set_cons_zero, List.set_cons_succ]
              clear hHeld
              clear z0 z1 y0 y1 hz41 g5z41 g6z41
              generalize (wz41.setCell ⟨Bz29, 0, none⟩ (.int .i64 k)).setCell ⟨Bz29, 1, none⟩ (.int .i64 n) = wz42 at *
              refine wpAnyH_ready (rs := [7]) (by kernel_rfl) (by simp) ?_
              refine AllReadyH.cons (o := { dst := none, op := Op.store 25 (Operand.tmp 6) (Operand.tmp 16), type := 0, pos := "outright.go:11", after := #[{ on := 5, ground := Ground.data }, { on := 3, ground := Ground.data }, { on := 6, ground := Ground.chain }, { on := 0, ground := Ground.phase }, { on := 1, ground := Ground.phase }, { on := 2, ground := Ground.phase }, { on := 3, ground := Ground.phase }, { on := 4, ground := Ground.phase }, { on := 5, ground := Ground.phase }, { on := 6, ground := Ground.phase }], guard := none }) rfl (fun K' hK => ?_) ?_
              ·
                have z0 := g6z42.out.frozen 0
                have z1 := g6z42.out.frozen 1
                have y0 : wz42.cell? ⟨Bz39, 0, none⟩ = some (.int .i64 0) := g6z42.out.cell 0
                have y1 : wz42.cell? ⟨Bz39, 1, none⟩ = some (.int .i64 0) := g6z42.out.cell 1
                have hz43 : Hid (Below W0.heap.size W0 ((wz42.setCell ⟨Bz39, 0, none⟩ (.int .i64 k')).setCell ⟨Bz39, 1, none⟩ (.int .i64 n'))) := (hz42.out.setCell (p := ⟨Bz39, 0, none⟩) lz39 _).setCell (p := ⟨Bz39, 1, none⟩) lz39 _
                have g6z43 : Hid (Blk ((wz42.setCell ⟨Bz39, 0, none⟩ (.int .i64 k')).setCell ⟨Bz39, 1, none⟩ (.int .i64 n')) Bz39 25 #[.int .i64 k', .int .i64 n']) := (g6z42.out.set 0 (.int .i64 k')).set 1 (.int .i64 n')
                have g5z43 := Lib.hid ((g5z42.out.other nz39 0 (.int .i64 k')).other nz39 1 (.int .i64 n'))
                go_simp
                refine hK.out _ _ (SOK.out _ hz43.out) (fun hHeld => ?_)
                clear hK K'
                try simp only [Act.put, List.setIfInBounds_toArray, List.set_cons_zero, List.set_cons_succ]
                clear hHeld
                clear z0 z1 y0 y1 hz42 g6z42 g5z42
                generalize (wz42.setCell ⟨Bz39, 0, none⟩ (.int .i64 k')).setCell ⟨Bz39, 1, none⟩ (.int .i64 n') = wz43 at *
                refine wpAnyH_done (by kernel_rfl) ?_ _
                refine NoPanic.normal ?_
                go_wp2_with fail
                go_meet
                exact ⟨_, _, rfl, rfl, hz43, g5z43, g6z43⟩
              exact AllReadyH.nil
            exact AllReadyH.nil
          exact AllReadyH.nil
        exact AllReadyH.nil
      exact AllReadyH.nil
    refine AllReadyH.cons (o := { dst := some 6, op := Op.alloc 25, type := 0, pos := "outright.go:11", after := #[], guard := none }) rfl (fun K' hK => ?_) ?_
    ·
      have hz44 := Lib.hid (hz0.out.alloc hz0.out.size (.cells #[.int .i64 0, .int .i64 0] 25))
      have g6z44 := Lib.hid (Blk.new wz0 25 #[.int .i64 0, .int .i64 0])
      have lz44 : W0.heap.size ≤ wz0.heap.size := hz0.out.size
      go_simp
      refine hK.out _ _ (SOK.out _ hz44.out) (fun hHeld => ?_)
      clear hK K'
      try simp only [Act.put, List.setIfInBounds_toArray, List.set_cons_zero, List.set_cons_succ]
      clear hHeld
      clear hz0
      generalize wz0.alloc (.cells #[.int .i64 0, .int .i64 0] 25) = wz44 at *
      generalize wz0.heap.size = Bz44 at *
      refine wpAnyH_ready (rs := [1, 4]) (by kernel_rfl) (by simp) ?_
      refine AllReadyH.cons (o := { dst := some 14, op := Op.call { callee := Callee.value (Operand.func 12), args := #[Operand.tmp 13], argTypes := #[23] }, type := 25, pos := "outright.go:11", after := #[{ on := 0, ground := Ground.data }], guard := none }) rfl (fun K' hK => ?_) ?_
      ·
        go_simp
        refine (of09_any _ _ _).mono ?_
        rintro e wz45 ⟨rfl, hbz⟩
        have hz45 := belB hz44 hbz
        have g6z45 := blkB g6z44 hbz
        refine hK.out _ _ (SOK.out _ hz45.out) (fun hHeld => ?_)
        clear hK K'
        try simp only [Act.put, List.setIfInBounds_toArray, List.set_cons_zero, List.set_cons_succ]
        clear hHeld
        clear hbz hz44 g6z44
        refine wpAnyH_ready (rs := [3, 4]) (by kernel_rfl) (by simp) ?_
        refine AllReadyH.cons (o := { dst := some 16, op := Op.call { callee := Callee.value (Operand.func 12), args := #[Operand.tmp 15], argTypes := #[23] }, type := 25, pos := "outright.go:11", after := #[{ on := 2, ground := Ground.data }, { on := 1, ground := Ground.chain }], guard := none }) rfl (fun K' hK => ?_) ?_
        ·
          go_simp
          refine (of09_any _ _ _).mono ?_
          rintro e wz46 ⟨rfl, hbz⟩
          have hz46 := belB hz45 hbz
          have g6z46 := blkB g6z45 hbz
          refine hK.out _ _ (SOK.out _ hz46.out) (fun hHeld => ?_)
          clear hK K'
          try simp only [Act.put, List.setIfInBounds_toArray, List.set_cons_zero, List.set_cons_succ]
          clear hHeld
          clear hbz hz45 g6z45
          refine wpAnyH_ready (rs := [4]) (by kernel_rfl) (by simp) ?_
          refine AllReadyH.cons (o := { dst := some 5, op := Op.alloc 25, type := 0, pos := "outright.go:11", after := #[], guard := none }) rfl (fun K' hK => ?_) ?_
          ·
            have hz47 := Lib.hid (hz46.out.alloc hz46.out.size (.cells #[.int .i64 0, .int .i64 0] 25))
            have g5z47 := Lib.hid (Blk.new wz46 25 #[.int .i64 0, .int .i64 0])
            have lz47 : W0.heap.size ≤ wz46.heap.size := hz46.out.size
            have g6z47 := Lib.hid (g6z46.out.alloc (.cells #[.int .i64 0, .int .i64 0] 25))
            have nz47 : Bz44 ≠ wz46.heap.size := Nat.ne_of_lt g6z46.out.lt
            go_simp
            refine hK.out _ _ (SOK.out _ hz47.out) (fun hHeld => ?_)
            clear hK K'
            try simp only [Act.put, List.setIfInBounds_toArray, List.set_cons_zero, List.set_cons_succ]
            clear hHeld
            clear hz46 g6z46
            generalize wz46.alloc (.cells #[.int .i64 0, .int .i64 0] 25) = wz47 at *
            generalize wz46.heap.size = Bz47 at *
            refine wpAnyH_ready (rs := [6]) (by kernel_rfl) (by simp) ?_
            refine AllReadyH.cons (o := { dst := none, op := Op.store 25 (Operand.tmp 5) (Operand.tmp 14), type := 0, pos := "outright.go:11", after := #[{ on := 4, ground := Ground.data }, { on := 1, ground := Ground.data }, { on := 3, ground := Ground.chain }, { on := 0, ground := Ground.phase }, { on := 1, ground := Ground.phase }, { on := 2, ground := Ground.textOnly Departure.lateStores }, { on := 3, ground := Ground.textOnly Departure.lateStoresUnsure }, { on := 4, ground := Ground.phase }, { on := 5, ground := Ground.phase }], guard := none }) rfl (fun K' hK => ?_) ?_
            ·
              have z0 := g5z47.out.frozen 0
              have z1 := g5z47.out.frozen 1
              have y0 : wz47.cell? ⟨Bz47, 0, none⟩ = some (.int .i64 0) := g5z47.out.cell 0
              have y1 : wz47.cell? ⟨Bz47, 1, none⟩ = some (.int .i64 0) := g5z47.out.cell 1
              have hz48 : Hid (Below W0.heap.size W0 ((wz47.setCell ⟨Bz47, 0, none⟩ (.int .i64 k)).setCell ⟨Bz47, 1, none⟩ (.int .i64 n))) := (hz47.out.setCell (p := ⟨Bz47, 0, none⟩) lz47 _).setCell (p := ⟨Bz47, 1, none⟩) lz47 _
              have g5z48 : Hid (Blk ((wz47.setCell ⟨Bz47, 0, none⟩ (.int .i64 k)).setCell ⟨Bz47, 1, none⟩ (.int .i64 n)) Bz47 25 #[.int .i64 k, .int .i64 n]) := (g5z47.out.set 0 (.int .i64 k)).set 1 (.int .i64 n)
              have g6z48 := Lib.hid ((g6z47.out.other nz47 0 (.int .i64 k)).other nz47 1 (.int .i64 n))
              go_simp
              refine hK.out _ _ (SOK.out _ hz48.out) (fun hHeld => ?_)
              clear hK K'
              try simp only [Act.put, List.setIfInBounds_toArray, List.set_cons_zero, List.set_cons_succ]
              clear hHeld
              clear z0 z1 y0 y1 hz47 g5z47 g6z47
              generalize (wz47.setCell ⟨Bz47, 0, none⟩ (.int .i64 k)).setCell ⟨Bz47, 1, none⟩ (.int .i64 n) = wz48 at *
              refine wpAnyH_ready (rs := [7]) (by kernel_rfl) (by simp) ?_
              refine AllReadyH.cons (o := { dst := none, op := Op.store 25 (Operand.tmp 6) (Operand.tmp 16), type := 0, pos := "outright.go:11", after := #[{ on := 5, ground := Ground.data }, { on := 3, ground := Ground.data }, { on := 6, ground := Ground.chain }, { on := 0, ground := Ground.phase }, { on := 1, ground := Ground.phase }, { on := 2, ground := Ground.phase }, { on := 3, ground := Ground.phase }, { on := 4, ground := Ground.phase }, { on := 5, ground := Ground.phase }, { on := 6, ground := Ground.phase }], guard := none }) rfl (fun K' hK => ?_) ?_
              ·
                have z0 := g6z48.out.frozen 0
                have z1 := g6z48.out.frozen 1
                have y0 : wz48.cell? ⟨Bz44, 0, none⟩ = some (.int .i64 0) := g6z48.out.cell 0
                have y1 : wz48.cell? ⟨Bz44, 1, none⟩ = some (.int .i64 0) := g6z48.out.cell 1
                have hz49 : Hid (Below W0.heap.size W0 ((wz48.setCell ⟨Bz44, 0, none⟩ (.int .i64 k')).setCell ⟨Bz44, 1, none⟩ (.int .i64 n'))) := (hz48.out.setCell (p := ⟨Bz44, 0, none⟩) lz44 _).setCell (p := ⟨Bz44, 1, none⟩) lz44 _
                have g6z49 : Hid (Blk ((wz48.setCell ⟨Bz44, 0, none⟩ (.int .i64 k')).setCell ⟨Bz44, 1, none⟩ (.int .i64 n')) Bz44 25 #[.int .i64 k', .int .i64 n']) := (g6z48.out.set 0 (.int .i64 k')).set 1 (.int .i64 n')
                have g5z49 := Lib.hid ((g5z48.out.other (Ne.symm nz47) 0 (.int .i64 k')).other (Ne.symm nz47) 1 (.int .i64 n'))
                go_simp
                refine hK.out _ _ (SOK.out _ hz49.out) (fun hHeld => ?_)
                clear hK K'
                try simp only [Act.put, List.setIfInBounds_toArray, List.set_cons_zero, List.set_cons_succ]
                clear hHeld
                clear z0 z1 y0 y1 hz48 g6z48 g5z48
                generalize (wz48.setCell ⟨Bz44, 0, none⟩ (.int .i64 k')).setCell ⟨Bz44, 1, none⟩ (.int .i64 n') = wz49 at *
                refine wpAnyH_done (by kernel_rfl) ?_ _
                refine NoPanic.normal ?_
                go_wp2_with fail
                go_meet
                exact ⟨_, _, rfl, rfl, hz49, g5z49, g6z49⟩
              exact AllReadyH.nil
            exact AllReadyH.nil
          exact AllReadyH.nil
        refine AllReadyH.cons (o := { dst := some 5, op := Op.alloc 25, type := 0, pos := "outright.go:11", after := #[], guard := none }) rfl (fun K' hK => ?_) ?_
        ·
          have hz50 := Lib.hid (hz45.out.alloc hz45.out.size (.cells #[.int .i64 0, .int .i64 0] 25))
          have g5z50 := Lib.hid (Blk.new wz45 25 #[.int .i64 0, .int .i64 0])
          have lz50 : W0.heap.size ≤ wz45.heap.size := hz45.out.size
          have g6z50 := Lib.hid (g6z45.out.alloc (.cells #[.int .i64 0, .int .i64 0] 25))
          have nz50 : Bz44 ≠ wz45.heap.size := Nat.ne_of_lt g6z45.out.lt
          go_simp
          refine hK.out _ _ (SOK.out _ hz50.out) (fun hHeld => ?_)
          clear hK K'
          try simp only [Act.put, List.setIfInBounds_toArray, List.set_cons_zero, List.set_cons_succ]
          clear hHeld
          clear hz45 g6z45
          generalize wz45.alloc (.cells #[.int .i64 0, .int .i64 0] 25) = wz50 at *
          generalize wz45.heap.size = Bz50 at *
          refine wpAnyH_ready (rs := [3]) (by kernel_rfl) (by simp) ?_
          refine AllReadyH.cons (o := { dst := some 16, op := Op.call { callee := Callee.value (Operand.func 12), args := #[Operand.tmp 15], argTypes := #[23] }, type := 25, pos := "outright.go:11", after := #[{ on := 2, ground := Ground.data }, { on := 1, ground := Ground.chain }], guard := none }) rfl (fun K' hK => ?_) ?_
          ·
            go_simp
            refine (of09_any _ _ _).mono ?_
            rintro e wz51 ⟨rfl, hbz⟩
            have hz51 := belB hz50 hbz
            have g5z51 := blkB g5z50 hbz
            have g6z51 := blkB g6z50 hbz
            refine hK.out _ _ (SOK.out _ hz51.out) (fun hHeld => ?_)
            clear hK K'
            try simp only [Act.put, List.setIfInBounds_toArray, List.set_cons_zero, List.set_cons_succ]
            clear hHeld
            clear hbz hz50 g5z50 g6z50
            refine wpAnyH_ready (rs := [6]) (by kernel_rfl) (by simp) ?_
            refine AllReadyH.cons (o := { dst := none, op := Op.store 25 (Operand.tmp 5) (Operand.tmp 14), type := 0, pos := "outright.go:11", after := #[{ on := 4, ground := Ground.data }, { on := 1, ground := Ground.data }, { on := 3, ground := Ground.chain }, { on := 0, ground := Ground.phase }, { on := 1, ground := Ground.phase }, { on := 2, ground := Ground.textOnly Departure.lateStores }, { on := 3, ground := Ground.textOnly Departure.lateStoresUnsure }, { on := 4, ground := Ground.phase }, { on := 5, ground := Ground.phase }], guard := none }) rfl (fun K' hK => ?_) ?_
            ·
              have z0 := g5z51.out.frozen 0
              have z1 := g5z51.out.frozen 1
              have y0 : wz51.cell? ⟨Bz50, 0, none⟩ = some (.int .i64 0) := g5z51.out.cell 0
              have y1 : wz51.cell? ⟨Bz50, 1, none⟩ = some (.int .i64 0) := g5z51.out.cell 1
              have hz52 : Hid (Below W0.heap.size W0 ((wz51.setCell ⟨Bz50, 0, none⟩ (.int .i64 k)).setCell ⟨Bz50, 1, none⟩ (.int .i64 n))) := (hz51.out.setCell (p := ⟨Bz50, 0, none⟩) lz50 _).setCell (p := ⟨Bz50, 1, none⟩) lz50 _
              have g5z52 : Hid (Blk ((wz51.setCell ⟨Bz50, 0, none⟩ (.int .i64 k)).setCell ⟨Bz50, 1, none⟩ (.int .i64 n)) Bz50 25 #[.int .i64 k, .int .i64 n]) := (g5z51.out.set 0 (.int .i64 k)).set 1 (.int .i64 n)
              have g6z52 := Lib.hid ((g6z51.out.other nz50 0 (.int .i64 k)).other nz50 1 (.int .i64 n))
              go_simp
              refine hK.out _ _ (SOK.out _ hz52.out) (fun hHeld => ?_)
              clear hK K'
              try simp only [Act.put, List.setIfInBounds_toArray, List.set_cons_zero, List.set_cons_succ]
              clear hHeld
              clear z0 z1 y0 y1 hz51 g5z51 g6z51
              generalize (wz51.setCell ⟨Bz50, 0, none⟩ (.int .i64 k)).setCell ⟨Bz50, 1, none⟩ (.int .i64 n) = wz52 at *
              refine wpAnyH_ready (rs := [7]) (by kernel_rfl) (by simp) ?_
              refine AllReadyH.cons (o := { dst := none, op := Op.store 25 (Operand.tmp 6) (Operand.tmp 16), type := 0, pos := "outright.go:11", after := #[{ on := 5, ground := Ground.data }, { on := 3, ground := Ground.data }, { on := 6, ground := Ground.chain }, { on := 0, ground := Ground.phase }, { on := 1, ground := Ground.phase }, { on := 2, ground := Ground.phase }, { on := 3, ground := Ground.phase }, { on := 4, ground := Ground.phase }, { on := 5, ground := Ground.phase }, { on := 6, ground := Ground.phase }], guard := none }) rfl (fun K' hK => ?_) ?_
              ·
                have z0 := g6z52.out.frozen 0
                have z1 := g6z52.out.frozen 1
                have y0 : wz52.cell? ⟨Bz44, 0, none⟩ = some (.int .i64 0) := g6z52.out.cell 0
                have y1 : wz52.cell? ⟨Bz44, 1, none⟩ = some (.int .i64 0) := g6z52.out.cell 1
                have hz53 : Hid (Below W0.heap.size W0 ((wz52.setCell ⟨Bz44, 0, none⟩ (.int .i64 k')).setCell ⟨Bz44, 1, none⟩ (.int .i64 n'))) := (hz52.out.setCell (p := ⟨Bz44, 0, none⟩) lz44 _).setCell (p := ⟨Bz44, 1, none⟩) lz44 _
                have g6z53 : Hid (Blk ((wz52.setCell ⟨Bz44, 0, none⟩ (.int .i64 k')).setCell ⟨Bz44, 1, none⟩ (.int .i64 n')) Bz44 25 #[.int .i64 k', .int .i64 n']) := (g6z52.out.set 0 (.int .i64 k')).set 1 (.int .i64 n')
                have g5z53 := Lib.hid ((g5z52.out.other (Ne.symm nz50) 0 (.int .i64 k')).other (Ne.symm nz50) 1 (.int .i64 n'))
                go_simp
                refine hK.out _ _ (SOK.out _ hz53.out) (fun hHeld => ?_)
                clear hK K'
                try simp only [Act.put, List.setIfInBounds_toArray, List.set_cons_zero, List.set_cons_succ]
                clear hHeld
                clear z0 z1 y0 y1 hz52 g6z52 g5z52
                generalize (wz52.setCell ⟨Bz44, 0, none⟩ (.int .i64 k')).setCell ⟨Bz44, 1, none⟩ (.int .i64 n') = wz53 at *
                refine wpAnyH_done (by kernel_rfl) ?_ _
                refine NoPanic.normal ?_
                go_wp2_with fail
                go_meet
                exact ⟨_, _, rfl, rfl, hz53, g5z53, g6z53⟩
              exact AllReadyH.nil
            exact AllReadyH.nil
          exact AllReadyH.nil
        exact AllReadyH.nil
      refine AllReadyH.cons (o := { dst := some 5, op := Op.alloc 25, type := 0, pos := "outright.go:11", after := #[], guard := none }) rfl (fun K' hK => ?_) ?_
      ·
        have hz54 := Lib.hid (hz44.out.alloc hz44.out.size (.cells #[.int .i64 0, .int .i64 0] 25))
        have g5z54 := Lib.hid (Blk.new wz44 25 #[.int .i64 0, .int .i64 0])
        have lz54 : W0.heap.size ≤ wz44.heap.size := hz44.out.size
        have g6z54 := Lib.hid (g6z44.out.alloc (.cells #[.int .i64 0, .int .i64 0] 25))
        have nz54 : Bz44 ≠ wz44.heap.size := Nat.ne_of_lt g6z44.out.lt
        go_simp
        refine hK.out _ _ (SOK.out _ hz54.out) (fun hHeld => ?_)
        clear hK K'
        try simp only [Act.put, List.setIfInBounds_toArray, List.set_cons_zero, List.set_cons_succ]
        clear hHeld
        clear hz44 g6z44
        generalize wz44.alloc (.cells #[.int .i64 0, .int .i64 0] 25) = wz54 at *
        generalize wz44.heap.size = Bz54 at *
        refine wpAnyH_ready (rs := [1]) (by kernel_rfl) (by simp) ?_
        refine AllReadyH.cons (o := { dst := some 14, op := Op.call { callee := Callee.value (Operand.func 12), args := #[Operand.tmp 13], argTypes := #[23] }, type := 25, pos := "outright.go:11", after := #[{ on := 0, ground := Ground.data }], guard := none }) rfl (fun K' hK => ?_) ?_
        ·
          go_simp
          refine (of09_any _ _ _).mono ?_
          rintro e wz55 ⟨rfl, hbz⟩
          have hz55 := belB hz54 hbz
          have g5z55 := blkB g5z54 hbz
          have g6z55 := blkB g6z54 hbz
          refine hK.out _ _ (SOK.out _ hz55.out) (fun hHeld => ?_)
          clear hK K'
          try simp only [Act.put, List.setIfInBounds_toArray, List.set_cons_zero, List.set_cons_succ]
          clear hHeld
          clear hbz hz54 g5z54 g6z54
          refine wpAnyH_ready (rs := [3]) (by kernel_rfl) (by simp) ?_
          refine AllReadyH.cons (o := { dst := some 16, op := Op.call { callee := Callee.value (Operand.func 12), args := #[Operand.tmp 15], argTypes := #[23] }, type := 25, pos := "outright.go:11", after := #[{ on := 2, ground := Ground.data }, { on := 1, ground := Ground.chain }], guard := none }) rfl (fun K' hK => ?_) ?_
          ·
            go_simp
            refine (of09_any _ _ _).mono ?_
            rintro e wz56 ⟨rfl, hbz⟩
            have hz56 := belB hz55 hbz
            have g5z56 := blkB g5z55 hbz
            have g6z56 := blkB g6z55 hbz
            refine hK.out _ _ (SOK.out _ hz56.out) (fun hHeld => ?_)
            clear hK K'
            try simp only [Act.put, List.setIfInBounds_toArray, List.set_cons_zero, List.set_cons_succ]
            clear hHeld
            clear hbz hz55 g5z55 g6z55
            refine wpAnyH_ready (rs := [6]) (by kernel_rfl) (by simp) ?_
            refine AllReadyH.cons (o := { dst := none, op := Op.store 25 (Operand.tmp 5) (Operand.tmp 14), type := 0, pos := "outright.go:11", after := #[{ on := 4, ground := Ground.data }, { on := 1, ground := Ground.data }, { on := 3, ground := Ground.chain }, { on := 0, ground := Ground.phase }, { on := 1, ground := Ground.phase }, { on := 2, ground := Ground.textOnly Departure.lateStores }, { on := 3, ground := Ground.textOnly Departure.lateStoresUnsure }, { on := 4, ground := Ground.phase }, { on := 5, ground := Ground.phase }], guard := none }) rfl (fun K' hK => ?_) ?_
            ·
              have z0 := g5z56.out.frozen 0
              have z1 := g5z56.out.frozen 1
              have y0 : wz56.cell? ⟨Bz54, 0, none⟩ = some (.int .i64 0) := g5z56.out.cell 0
              have y1 : wz56.cell? ⟨Bz54, 1, none⟩ = some (.int .i64 0) := g5z56.out.cell 1
              have hz57 : Hid (Below W0.heap.size W0 ((wz56.setCell ⟨Bz54, 0, none⟩ (.int .i64 k)).setCell ⟨Bz54, 1, none⟩ (.int .i64 n))) := (hz56.out.setCell (p := ⟨Bz54, 0, none⟩) lz54 _).setCell (p := ⟨Bz54, 1, none⟩) lz54 _
              have g5z57 : Hid (Blk ((wz56.setCell ⟨Bz54, 0, none⟩ (.int .i64 k)).setCell ⟨Bz54, 1, none⟩ (.int .i64 n)) Bz54 25 #[.int .i64 k, .int .i64 n]) := (g5z56.out.set 0 (.int .i64 k)).set 1 (.int .i64 n)
              have g6z57 := Lib.hid ((g6z56.out.other nz54 0 (.int .i64 k)).other nz54 1 (.int .i64 n))
              go_simp
              refine hK.out _ _ (SOK.out _ hz57.out) (fun hHeld => ?_)
              clear hK K'
              try simp only [Act.put, List.setIfInBounds_toArray, List.set_cons_zero, List.set_cons_succ]
              clear hHeld
              clear z0 z1 y0 y1 hz56 g5z56 g6z56
              generalize (wz56.setCell ⟨Bz54, 0, none⟩ (.int .i64 k)).setCell ⟨Bz54, 1, none⟩ (.int .i64 n) = wz57 at *
              refine wpAnyH_ready (rs := [7]) (by kernel_rfl) (by simp) ?_
              refine AllReadyH.cons (o := { dst := none, op := Op.store 25 (Operand.tmp 6) (Operand.tmp 16), type := 0, pos := "outright.go:11", after := #[{ on := 5, ground := Ground.data }, { on := 3, ground := Ground.data }, { on := 6, ground := Ground.chain }, { on := 0, ground := Ground.phase }, { on := 1, ground := Ground.phase }, { on := 2, ground := Ground.phase }, { on := 3, ground := Ground.phase }, { on := 4, ground := Ground.phase }, { on := 5, ground := Ground.phase }, { on := 6, ground := Ground.phase }], guard := none }) rfl (fun K' hK => ?_) ?_
              ·
                have z0 := g6z57.out.frozen 0
                have z1 := g6z57.out.frozen 1
                have y0 : wz57.cell? ⟨Bz44, 0, none⟩ = some (.int .i64 0) := g6z57.out.cell 0
                have y1 : wz57.cell? ⟨Bz44, 1, none⟩ = some (.int .i64 0) := g6z57.out.cell 1
                have hz58 : Hid (Below W0.heap.size W0 ((wz57.setCell ⟨Bz44, 0, none⟩ (.int .i64 k')).setCell ⟨Bz44, 1, none⟩ (.int .i64 n'))) := (hz57.out.setCell (p := ⟨Bz44, 0, none⟩) lz44 _).setCell (p := ⟨Bz44, 1, none⟩) lz44 _
                have g6z58 : Hid (Blk ((wz57.setCell ⟨Bz44, 0, none⟩ (.int .i64 k')).setCell ⟨Bz44, 1, none⟩ (.int .i64 n')) Bz44 25 #[.int .i64 k', .int .i64 n']) := (g6z57.out.set 0 (.int .i64 k')).set 1 (.int .i64 n')
                have g5z58 := Lib.hid ((g5z57.out.other (Ne.symm nz54) 0 (.int .i64 k')).other (Ne.symm nz54) 1 (.int .i64 n'))
                go_simp
                refine hK.out _ _ (SOK.out _ hz58.out) (fun hHeld => ?_)
                clear hK K'
                try simp only [Act.put, List.setIfInBounds_toArray, List.set_cons_zero, List.set_cons_succ]
                clear hHeld
                clear z0 z1 y0 y1 hz57 g6z57 g5z57
                generalize (wz57.setCell ⟨Bz44, 0, none⟩ (.int .i64 k')).setCell ⟨Bz44, 1, none⟩ (.int .i64 n') = wz58 at *
                refine wpAnyH_done (by kernel_rfl) ?_ _
                refine NoPanic.normal ?_
                go_wp2_with fail
                go_meet
                exact ⟨_, _, rfl, rfl, hz58, g5z58, g6z58⟩
              exact AllReadyH.nil
            exact AllReadyH.nil
          exact AllReadyH.nil
        exact AllReadyH.nil
      exact AllReadyH.nil
    exact AllReadyH.nil
  case rest =>
    obtain ⟨B5, B6, rfl, rfl, HBc, H5, H6⟩ := hcut
    have HB1 : Hid (Below w.heap.size w wc) := HB.out.trans (HBc.out.mono HB.out.size)
    have HP1 := Lib.hid (HP.out.below HB1.out)
    clear HA HA2 SOK HB HBc HP
    have HrX := Lib.hid (fun W => right_any k n W)
    have HrY := Lib.hid (fun W => right_any k' n' W)
    have x0 := H5.out.cell 0
    have x1 := H5.out.cell 1
    simp only [List.getElem?_toArray, List.getElem?_cons_zero, List.getElem?_cons_succ] at x0 x1
    cases hr : actRight k n with
    | false =>
      rw [hr] at HrX
      clear hr HrY
      go_wp2_with fail
      refine (HrX.out _).mono ?_
      rintro e w2 ⟨rfl, hb2⟩
      have HB2 := belB HB1 hb2
      clear HB1 hb2 x0 x1
      go_wp2_with (go_at_call 19; refine (awake09_any _).mono ?_; rintro e wa ⟨rfl, hba⟩)
      go_ret
      exact ⟨rfl, HB2.out.trans (hba.mono HB2.out.size)⟩
    | true =>
      rw [hr] at HrX
      have Hr := Lib.hid hr
      clear hr
      cases hr' : actRight k' n' with
      | false =>
        rw [hr'] at HrY
        clear hr'
        go_wp2_with fail
        refine (HrX.out _).mono ?_
        rintro e w2 ⟨rfl, hb2⟩
        have HB2 := belB HB1 hb2
        have H62 := blkB H6 hb2
        have y0 := H62.out.cell 0
        have y1 := H62.out.cell 1
        simp only [List.getElem?_toArray, List.getElem?_cons_zero, List.getElem?_cons_succ] at y0 y1
        clear HB1 hb2 x0 x1 H5 H6
        go_wp2_with fail
        refine (HrY.out _).mono ?_
        rintro e w3 ⟨rfl, hb3⟩
        have HB3 := belB HB2 hb3
        clear HB2 hb3 y0 y1 H62
        go_wp2_with (go_at_call 19; refine (awake09_any _).mono ?_; rintro e wa ⟨rfl, hba⟩)
        go_ret
        exact ⟨rfl, HB3.out.trans (hba.mono HB3.out.size)⟩
      | true =>
        rw [hr'] at HrY
        have Hr' := Lib.hid hr'
        clear hr'
        go_wp2_with fail
        refine (HrX.out _).mono ?_
        rintro e w2 ⟨rfl, hb2⟩
        have HB2 := belB HB1 hb2
        have H52 := blkB H5 hb2
        have H62 := blkB H6 hb2
        have y0 := H62.out.cell 0
        have y1 := H62.out.cell 1
        simp only [List.getElem?_toArray, List.getElem?_cons_zero, List.getElem?_cons_succ] at y0 y1
        have HP2 := Lib.hid (HP1.out.below hb2)
        clear HB1 hb2 x0 x1 H5 H6 HP1
        go_wp2_with fail
        refine (HrY.out _).mono ?_
        rintro e w3 ⟨rfl, hb3⟩
        have HB3 := belB HB2 hb3
        have H53 := blkB H52 hb3
        have H63 := blkB H62 hb3
        have HP3 := Lib.hid (HP2.out.below hb3)
        have x0 := H53.out.cell 0
        have x1 := H53.out.cell 1
        simp only [List.getElem?_toArray, List.getElem?_cons_zero, List.getElem?_cons_succ] at x0 x1
        clear HB2 hb3 y0 y1 H52 H62 HP2
        have HcX := Lib.hid (fun W => code_right k n Hr.out W)
        have HcY := Lib.hid (fun W => code_right k' n' Hr'.out W)
        go_wp2_with fail
        refine (HcX.out _).mono ?_
        rintro e w4 ⟨rfl, hb4⟩
        have HB4 := belB HB3 hb4
        have H54 := blkB H53 hb4
        have H64 := blkB H63 hb4
        have HP4 := Lib.hid (HP3.out.below hb4)
        have y0 := H64.out.cell 0
        have y1 := H64.out.cell 1
        simp only [List.getElem?_toArray, List.getElem?_cons_zero, List.getElem?_cons_succ] at y0 y1
        clear HB3 hb4 x0 x1 H53 H63 HP3
        go_wp2_with fail
        refine (HcY.out _).mono ?_
        rintro e w5 ⟨rfl, hb5⟩
        have HB5 := belB HB4 hb5
        have H55 := blkB H54 hb5
        have H65 := blkB H64 hb5
        have HP5 := Lib.hid (HP4.out.below hb5)
        clear HB4 hb5 y0 y1 H54 H64 HP4
        obtain ⟨q0, q1, n0, n1, k1, k8, d0, d1⟩ := code_bounds k n Hr.out
        obtain ⟨q0', q1', n0', n1', k1', k8', d0', d1'⟩ := code_bounds k' n' Hr'.out
        have Hfr := Lib.hid (fun W => from_any (actCode k + n) q0 q1 W)
        unfold fromV at Hfr
        rw [(from_right Hr.out).1, (from_right Hr.out).2, if_neg (show ¬ k = 0 by omega)] at Hfr
        obtain ⟨m, rfl⟩ : ∃ m : Nat, n = (m : Int) := ⟨n.toNat, by omega⟩
        obtain ⟨m', rfl⟩ : ∃ m' : Nat, n' = (m' : Int) := ⟨n'.toNat, by omega⟩
        have HtX := Lib.hid (fun W hW => text_right k m Hr.out W hW)
        have HtY := Lib.hid (fun W hW => text_right k' m' Hr'.out W hW)
        have Hcc := Lib.hid (fun h => code_apart (k := k) (n := (m : Int)) (k' := k') (n' := (m' : Int)) Hr.out Hr'.out h)
        have Htt := Lib.hid (fun h => text_apart (k := k) (n := m) (k' := k') (n' := m') Hr.out Hr'.out h)
        go_wp2_with fail
        refine (Hfr.out _).mono ?_
        rintro e w6 ⟨rfl, hb6⟩
        have HB6 := Lib.hid ((belB HB5 hb6).out.alloc (belB HB5 hb6).out.size (.cells #[.int .i64 k, .int .i64 (m : Int)] 25))
        have H56 := Lib.hid ((blkB H55 hb6).out.alloc (.cells #[.int .i64 k, .int .i64 (m : Int)] 25))
        have H66 := Lib.hid ((blkB H65 hb6).out.alloc (.cells #[.int .i64 k, .int .i64 (m : Int)] 25))
        have HZ6 := Lib.hid (Blk.new w6 25 #[.int .i64 k, .int .i64 (m : Int)])
        have HP6 := Lib.hid ((HP5.out.below hb6).below ((Below.refl _ w6).alloc (Nat.le_refl _) (.cells #[.int .i64 k, .int .i64 (m : Int)] 25)))
        clear HB5 hb6 H55 H65 HP5 Hfr
        go_upto_region 7 with fail
        generalize w6.alloc (.cells #[.int .i64 k, .int .i64 (m : Int)] 25) = W7 at *
        generalize w6.heap.size = B11 at *
        have x0 := H56.out.cell 0
        have x1 := H56.out.cell 1
        have y0 := H66.out.cell 0
        have y1 := H66.out.cell 1
        have z0 := HZ6.out.cell 0
        have z1 := HZ6.out.cell 1
        simp only [List.getElem?_toArray, List.getElem?_cons_zero, List.getElem?_cons_succ] at x0 x1 y0 y1 z0 z1
        have MkP : Hid (∀ W, (W.cell? ⟨B5, 0, none⟩ = some (.int .i64 k) ∧ W.cell? ⟨B5, 1, none⟩ = some (.int .i64 (m : Int)) ∧ W.cell? ⟨B6, 0, none⟩ = some (.int .i64 k') ∧ W.cell? ⟨B6, 1, none⟩ = some (.int .i64 (m' : Int)) ∧ W.cell? ⟨B11, 0, none⟩ = some (.int .i64 k) ∧ W.cell? ⟨B11, 1, none⟩ = some (.int .i64 (m : Int)) ∧ Below W7.heap.size W7 W) → Pow10 W) := fun W h => HP6.out.below h.2.2.2.2.2.2
        clear H56 H66 HZ6 HP6 HtX HtY q0 q1 n0 n1 k1 k8 d0 d1 q0' q1' n0' n1' k1' k8' d0' d1' HrX HrY HcX HcY
        generalize hc : actCode k + (m : Int) = c at *
        generalize hc' : actCode k' + (m' : Int) = c' at *
        have HE : Hid ((actCode k + (m : Int) = c) ∧ (actCode k' + (m' : Int) = c')) := ⟨hc, hc'⟩
        clear hc hc'
        by_cases heq : k = k' ∧ (m : Int) = (m' : Int)
        case pos =>
          obtain ⟨rfl, hmm⟩ := heq
          obtain rfl : m = m' := by omega
          obtain rfl : c = c' := HE.out.1.symm.trans HE.out.2
          clear hmm
          go_region_held3 (fun w' => w'.cell? ⟨B5, 0, none⟩ = some (.int .i64 k) ∧ w'.cell? ⟨B5, 1, none⟩ = some (.int .i64 (m : Int)) ∧ w'.cell? ⟨B6, 0, none⟩ = some (.int .i64 k) ∧ w'.cell? ⟨B6, 1, none⟩ = some (.int .i64 (m : Int)) ∧ w'.cell? ⟨B11, 0, none⟩ = some (.int .i64 k) ∧ w'.cell? ⟨B11, 1, none⟩ = some (.int .i64 (m : Int)) ∧ Below W7.heap.size W7 w') (first | exact ⟨x0, x1, y0, y1, z0, z1, (Below.refl _ W7).drew⟩ | exact keep6 (by assumption) hbx | go_keep) (first | (go_at_call 18; refine (text_right _ _ (by first | exact Hr.out | exact Hr'.out) _ (MkP.out _ (by assumption))).mono ?_; rintro e wx ⟨rfl, hbx⟩) | (go_at_call 19; refine (awake09_any _).mono ?_; rintro e wx ⟨rfl, hbx⟩))
          all_goals
            have hfin : Below W7.heap.size W7 wx := (show wx.cell? ⟨B5, 0, none⟩ = some (.int .i64 k) ∧ wx.cell? ⟨B5, 1, none⟩ = some (.int .i64 (m : Int)) ∧ wx.cell? ⟨B6, 0, none⟩ = some (.int .i64 k) ∧ wx.cell? ⟨B6, 1, none⟩ = some (.int .i64 (m : Int)) ∧ wx.cell? ⟨B11, 0, none⟩ = some (.int .i64 k) ∧ wx.cell? ⟨B11, 1, none⟩ = some (.int .i64 (m : Int)) ∧ Below W7.heap.size W7 wx by assumption).2.2.2.2.2.2
            go_wp2
            go_ret
            exact ⟨rfl, HB6.out.trans (hfin.mono HB6.out.size)⟩
        case neg =>
          have hcn : (c == c') = false := by
            rw [beq_eq_false_iff_ne]
            intro e
            exact heq (Hcc.out e)
          have htn2 : ((actText k m).toList == (actText k' m').toList) = false := by
            rw [beq_eq_false_iff_ne]
            intro e
            have e2 : actText k m = actText k' m' := bytes_inj e
            exact heq ⟨(Htt.out e2).1, by rw [(Htt.out e2).2]⟩
          have hkm : (k == k' && (m : Int) == (m' : Int)) = false := by
            rw [Bool.eq_false_iff]
            intro h
            simp only [Bool.and_eq_true, beq_iff_eq] at h
            exact heq h
          by_cases hk : k = k'
          · subst hk
            have hm0 : ((m : Int) == (m' : Int)) = false := by
              rw [beq_eq_false_iff_ne]
              exact fun h => heq ⟨rfl, h⟩
            have hm1 : ¬ m = m' := fun h => heq ⟨rfl, by rw [h]⟩
            have hm2 : ¬ (m : Int) = (m' : Int) := fun h => heq ⟨rfl, h⟩
            have hc2 : ¬ c = c' := fun h => heq ⟨rfl, (Hcc.out h).2⟩
            clear heq hkm
            go_region_held3 (fun w' => w'.cell? ⟨B5, 0, none⟩ = some (.int .i64 k) ∧ w'.cell? ⟨B5, 1, none⟩ = some (.int .i64 (m : Int)) ∧ w'.cell? ⟨B6, 0, none⟩ = some (.int .i64 k) ∧ w'.cell? ⟨B6, 1, none⟩ = some (.int .i64 (m' : Int)) ∧ w'.cell? ⟨B11, 0, none⟩ = some (.int .i64 k) ∧ w'.cell? ⟨B11, 1, none⟩ = some (.int .i64 (m : Int)) ∧ Below W7.heap.size W7 w') (first | exact ⟨x0, x1, y0, y1, z0, z1, (Below.refl _ W7).drew⟩ | exact keep6 (by assumption) hbx | go_keep) (first | (go_at_call 18; refine (text_right _ _ (by first | exact Hr.out | exact Hr'.out) _ (MkP.out _ (by assumption))).mono ?_; rintro e wx ⟨rfl, hbx⟩) | (go_at_call 19; refine (awake09_any _).mono ?_; rintro e wx ⟨rfl, hbx⟩))
            all_goals
              have hfin : Below W7.heap.size W7 wx := (show wx.cell? ⟨B5, 0, none⟩ = some (.int .i64 k) ∧ wx.cell? ⟨B5, 1, none⟩ = some (.int .i64 (m : Int)) ∧ wx.cell? ⟨B6, 0, none⟩ = some (.int .i64 k) ∧ wx.cell? ⟨B6, 1, none⟩ = some (.int .i64 (m' : Int)) ∧ wx.cell? ⟨B11, 0, none⟩ = some (.int .i64 k) ∧ wx.cell? ⟨B11, 1, none⟩ = some (.int .i64 (m : Int)) ∧ Below W7.heap.size W7 wx by assumption).2.2.2.2.2.2
              go_wp2
              go_ret
              exact ⟨rfl, HB6.out.trans (hfin.mono HB6.out.size)⟩
          · have hk0 : (k == k') = false := by simpa using hk
            have hc2 : ¬ c = c' := fun h => hk (Hcc.out h).1
            clear heq hkm
            go_region_held3 (fun w' => w'.cell? ⟨B5, 0, none⟩ = some (.int .i64 k) ∧ w'.cell? ⟨B5, 1, none⟩ = some (.int .i64 (m : Int)) ∧ w'.cell? ⟨B6, 0, none⟩ = some (.int .i64 k') ∧ w'.cell? ⟨B6, 1, none⟩ = some (.int .i64 (m' : Int)) ∧ w'.cell? ⟨B11, 0, none⟩ = some (.int .i64 k) ∧ w'.cell? ⟨B11, 1, none⟩ = some (.int .i64 (m : Int)) ∧ Below W7.heap.size W7 w') (first | exact ⟨x0, x1, y0, y1, z0, z1, (Below.refl _ W7).drew⟩ | exact keep6 (by assumption) hbx | go_keep) (first | (go_at_call 18; refine (text_right _ _ (by first | exact Hr.out | exact Hr'.out) _ (MkP.out _ (by assumption))).mono ?_; rintro e wx ⟨rfl, hbx⟩) | (go_at_call 19; refine (awake09_any _).mono ?_; rintro e wx ⟨rfl, hbx⟩))
            all_goals
              have hfin : Below W7.heap.size W7 wx := (show wx.cell? ⟨B5, 0, none⟩ = some (.int .i64 k) ∧ wx.cell? ⟨B5, 1, none⟩ = some (.int .i64 (m : Int)) ∧ wx.cell? ⟨B6, 0, none⟩ = some (.int .i64 k') ∧ wx.cell? ⟨B6, 1, none⟩ = some (.int .i64 (m' : Int)) ∧ wx.cell? ⟨B11, 0, none⟩ = some (.int .i64 k) ∧ wx.cell? ⟨B11, 1, none⟩ = some (.int .i64 (m : Int)) ∧ Below W7.heap.size W7 wx by assumption).2.2.2.2.2.2
              go_wp2
              go_ret
              exact ⟨rfl, HB6.out.trans (hfin.mono HB6.out.size)⟩
end Go.Proofs.YtkgmbogmeppmcaaDoor
