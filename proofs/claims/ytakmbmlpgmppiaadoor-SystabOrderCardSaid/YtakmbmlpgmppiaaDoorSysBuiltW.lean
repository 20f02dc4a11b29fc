/- strainerlaw11.SystabBuiltin: the walk. -/
import Derived.Test.YtakmbmlpgmppiaaDoorSysOkB
import Derived.Test.YtakmbmlpgmppiaaDoorSysRights
import Derived.Deep.RegionHeld3
namespace Go.Proofs.YtakmbmlpgmppiaaDoor
open Go Go.Proofs Go.RowKit

/-- The built-in table lies in a block of its own. -/
def BuiltPost (w : World) (e : Ending) (w' : World) : Prop :=
  ∃ g cp cur, e = .returned (.slice (some ⟨g, 0, none⟩) 83 cp) ∧ w.heap.size ≤ g ∧ Blk w' g 36 cur ∧ RowsAt w' g 0 builtinL ∧ Below w.heap.size w w'
set_option maxRecDepth 100000 in
set_option maxHeartbeats 1000000 in
theorem builtin_own (w : World) :
    Calls Tryd.prog 14 #[] w (BuiltPost w) := by
  have b1 := Blk.new w 36 (flat earlyL).toArray
  generalize hA : (flat earlyL).toArray = A at b1
  have b1' := (b1.alloc (.cells (flat lateL).toArray 36)).alloc (.cells #[.slice (some ⟨w.heap.size, 0, none⟩) 30 30, .slice (some ⟨w.heap.size + 1, 0, none⟩) 53 53] 27)
  have b2 := (Blk.new (w.alloc (.cells A 36)) 36 (flat lateL).toArray).alloc (.cells #[.slice (some ⟨w.heap.size, 0, none⟩) 30 30, .slice (some ⟨w.heap.size + 1, 0, none⟩) 53 53] 27)
  generalize hC : (flat lateL).toArray = C at b1' b2
  have b3 := Blk.new ((w.alloc (.cells A 36)).alloc (.cells C 36)) 27 #[.slice (some ⟨w.heap.size, 0, none⟩) 30 30, .slice (some ⟨w.heap.size + 1, 0, none⟩) 53 53]
  have hB : Below w.heap.size w (((w.alloc (.cells A 36)).alloc (.cells C 36)).alloc (.cells #[.slice (some ⟨w.heap.size, 0, none⟩) 30 30, .slice (some ⟨w.heap.size + 1, 0, none⟩) 53 53] 27)) := (((Below.refl _ w).alloc (Nat.le_refl _) _).alloc (by simp) _).alloc (by simp; omega) _
  simp only [World.size_alloc] at b1' b2 b3
  have hcat := concat_any earlyL lateL w.heap.size (w.heap.size + 1) (w.heap.size + 1 + 1) _ rfl rfl (by rw [hA]; exact b1') (by rw [hC]; exact b2) b3
  have he := early_any w
  have hl := late_any (w.alloc (.cells A 36))
  rw [hA] at he
  rw [hC] at hl
  have Hcat := Lib.hid hcat
  have He := Lib.hid he
  have Hl := Lib.hid hl
  have HB := Lib.hid hB
  clear hcat he hl hB b1 b1' b2 b3 hA hC
  go_enter Tryd.func14, Tryd.ntmps14
  go_wp2_with fail
  refine He.out.mono ?_
  rintro e w1 ⟨rfl, rfl⟩
  go_wp2_with fail
  refine Hl.out.mono ?_
  rintro e w1 ⟨rfl, rfl⟩
  go_wp2_with fail
  refine Hcat.out.mono ?_
  rintro e w1 ⟨v, rfl, ho, hb⟩
  obtain ⟨ad, c, hv, hx⟩ := (rowsV_owned (l := earlyL ++ lateL) ho).1
  obtain ⟨g, cp, cur, rfl, hbg, hcur, _⟩ := ho.2.resolve_left (fun h => absurd h.2 (by decide))
  simp only [Value.slice.injEq] at hv
  obtain ⟨hv1, hv2, hv3⟩ := hv
  clear hv2 hv3
  have HR : Hid (RowsAt w1 g 0 builtinL) := by
    rcases hx with h | ⟨b, off, h1, _, h3⟩
    · cases h
    · rw [← hv1] at h1
      simp only [Option.some.injEq, Addr.mk.injEq, and_true] at h1
      obtain ⟨rfl, rfl⟩ := h1
      exact h3
  have HB2 := Lib.hid (HB.out.trans (hb.mono (by simp; omega)))
  have HG : Hid (w.heap.size ≤ g) := by simp at hbg; show w.heap.size ≤ g; omega
  have HC : Hid (Blk w1 g 36 cur) := hcur
  clear ho hb hx hv1 hbg hcur
  go_wp2
  go_ret
  exact ⟨g, cp, cur, rfl, HG.out, HC.out, HR.out, HB2.out⟩

theorem wpList_seg {P : Program} {ops : Array Oper} {Q : Exit → Act → World → Prop} : ∀ (l1 l2 : List Oper) (a : Act) (w : World) (a' : Act) (w' : World), runVals P l1 a w = some (a', w') → wpList P ops Q l2 a' w' → wpList P ops Q (l1 ++ l2) a w
  | [], l2, a, w, a', w', h, hq => by
    simp only [runVals, Option.some.injEq, Prod.mk.injEq] at h
    obtain ⟨rfl, rfl⟩ := h
    exact hq
  | o :: r, l2, a, w, a', w', h, hq => by
    unfold runVals at h
    split at h
    · cases h
    · rename_i hg
      split at h
      · rename_i v w1 hrun
        exact Great.wpList_runTo hg _ rfl v w1 hrun (wpList_seg r l2 _ _ _ _ h hq)
      · cases h
theorem wpList_upto {P : Program} {ops : Array Oper} {Q : Exit → Act → World → Prop} {l : List Oper} {a : Act} {w : World} (n : Nat) (a' : Act) (w' : World)
    (h : runVals P (l.take n) a w = some (a', w')) (hq : wpList P ops Q (l.drop n) a' w') : wpList P ops Q l a w := by
  have := wpList_seg (ops := ops) (Q := Q) (l.take n) (l.drop n) a w a' w' h hq
  rwa [List.take_append_drop] at this
theorem wpList_slot {P : Program} {ops : Array Oper} {Q : Exit → Act → World → Prop} {l : List Oper} {a : Act} {w : World} (r : Nat) (v : Value) (w' : World)
    (h : (runVals P l a w).map (fun x => (x.1.tmps.getD r undef, x.1.defers, x.2)) = some (v, [], w')) (hq : ∀ tmps : Array Value, tmps.getD r undef = v → Q .normal ⟨tmps, []⟩ w') : wpList P ops Q l a w := by
  cases hr : runVals P l a w with
  | none => rw [hr] at h; cases h
  | some x =>
    obtain ⟨⟨t, d⟩, w1⟩ := x
    rw [hr] at h
    simp only [Option.map_some, Option.some.injEq, Prod.mk.injEq] at h
    obtain ⟨h1, rfl, rfl⟩ := h
    exact wpList_runVals _ _ _ _ _ hr (hq t h1)
theorem infoRef : (Tryd.prog.info? 37).map (fun i => (i.zero, i.size, i.bytes)) = some (some (.agg #[.string ⟨#[]⟩, .int .i64 0, .int .i64 0, .int .i64 0, .int .i64 0, .int .i64 0, .int .i64 0, .int .i64 0]), 8, 72) := by kernel_rfl
/-- The slots behind k rows. -/
def bslots (k : Nat) : Array Value := (.slice none 0 0 :: ((builtinL.take k).flatMap (fun r => [.agg #[.int .i64 r.n0, .int .i64 r.n1, .int .i64 r.n2, .int .i64 r.n3, .int .i64 r.n4], r.val]) ++ List.replicate (167 - 2 * k) undef)).toArray
set_option maxRecDepth 100000 in
set_option maxHeartbeats 3000000 in
theorem refBuiltin_any (w : World) :
    Calls Tryd.prog 15 #[] w fun e w' => e = .returned (.slice (some ⟨w.heap.size, 0, none⟩) 83 83) ∧ w' = w.alloc (.cells (flat builtinL).toArray 37) := by
  go_enter Tryd.func15, Tryd.ntmps15
  refine wp_seq (wp_region_run _ _ rfl ?_)
  refine wp_seq (wp_region_list ?_)
  refine wpList_upto 42 ⟨bslots 21, []⟩ w (by kernel_rfl) ?_
  refine wpList_upto 42 ⟨bslots 42, []⟩ w (by kernel_rfl) ?_
  refine wpList_upto 42 ⟨bslots 63, []⟩ w (by kernel_rfl) ?_
  refine wpList_upto 40 ⟨bslots 83, []⟩ w (by kernel_rfl) ?_
  obtain ⟨i0, hi, hz0, hz1, hz2⟩ := info_parts infoRef
  have hbf := Great.fill_whole (s := 8) (by omega) (builtinL.map SRow.val) ((Array.range (83 * 8)).map ((SRow.zero.val).cells[· % (SRow.zero.val).cells.size]!)) (by
    intro v hv
    obtain ⟨r, _, rfl⟩ := List.mem_map.1 hv
    rfl) (by simp; rfl)
  refine wpList_buildSlice rfl 22 37 83 _ rfl (flat builtinL).toArray i0 SRow.zero.val Tryd.underlying22 hi hz0 (by rw [hz1]; decide) (by rw [hz1]; decide) ?_ ?_
  · rw [hz1]
    refine (congrArg (Instr.fill (fun i => some (i * 8, 8)) _) (show _ = ((builtinL.map SRow.val).zipIdx 0).map (fun x => (x.2, x.1)) by kernel_rfl)).trans (hbf.trans ?_)
    rw [List.flatMap_map]
    rfl
  refine wpList_slot 0 (.slice (some ⟨w.heap.size, 0, none⟩) 83 83) (w.alloc (.cells (flat builtinL).toArray 37)) (by kernel_rfl) ?_
  intro tmps ht
  refine wp_ret (bodyPost_ret (results_tmp rfl _ _ _) rfl ⟨?_, rfl⟩)
  rw [ht]
theorem wpAnyH_weaken {P : Program} {md : Region.Mode} {ops : Array Oper} {Q : Exit → Act → World → Prop} {S S' : World → Prop} (hs : ∀ w, S' w → S w) :
    ∀ (fuel : Nat) (listed : Array Bool) (a : Act) (w : World), wpAnyH P md ops Q S' fuel listed a w → wpAnyH P md ops Q S fuel listed a w
  | 0, _, _, _, h => h
  | fuel + 1, _, _, _, h => ⟨h.1, fun i hi => wpOp_mono (fun a' w' h' => ⟨hs w' h'.1, wpAnyH_weaken hs fuel _ a' w' h'.2⟩) (h.2 i hi)⟩
theorem built_short : ∀ r ∈ builtinL, r.name.size ≤ 60 := by decide +kernel
theorem rowsAt_blk {W : World} {b : Nat} {t : TypeId} {l : List SRow} (h : Blk W b t (flat l).toArray) : RowsAt W b 0 l := by
  intro j hj i v hv
  have hi : i < 8 := (List.getElem?_eq_some_iff.1 hv).1
  rw [h.cell, Nat.zero_add, List.getElem?_toArray, flat_get l j hj i hi, hv]

set_option maxRecDepth 100000 in
set_option maxHeartbeats 1000000 in
theorem built_any (a : Int) (ha0 : 0 ≤ a) (ha1 : a ≤ 255) (w : World) :
    Calls Tryd.prog 4 #[.int .u8 a] w fun e w' => e = .returned (.bool true) ∧ Below w.heap.size w w' := by
  have ho := builtin_own w
  have HO := Lib.hid ho
  clear ho
  go_enter Tryd.func4, Tryd.ntmps4
  go_wp2_with fail
  refine HO.out.mono ?_
  rintro e w1 ⟨g, cp, cur, rfl, hg, hbk, hra, hb1⟩
  clear HO
  have hglt := hbk.lt
  have HRA0 := Lib.hid hra
  have HBK0 := Lib.hid hbk
  have HB0 := Lib.hid hb1
  have Hrb := Lib.hid (refBuiltin_any w1)
  clear hra hbk hb1
  go_wp2_with fail
  refine Hrb.out.mono ?_
  rintro e w2 ⟨rfl, rfl⟩
  clear Hrb
  have HRB := Lib.hid (Blk.new w1 37 (flat builtinL).toArray)
  have HBK := Lib.hid (HBK0.out.alloc (.cells (flat builtinL).toArray 37))
  have HRA := Lib.hid (HRA0.out.below ((Below.refl w1.heap.size w1).alloc (Nat.le_refl _) (.cells (flat builtinL).toArray 37)) hglt)
  have HB := Lib.hid (HB0.out.alloc HB0.out.size (.cells (flat builtinL).toArray 37))
  have hglt2 : g < (w1.alloc (.cells (flat builtinL).toArray 37)).heap.size := HBK.out.lt
  have hgne : w1.heap.size ≠ g := by omega
  clear HRA0 HBK0 HB0 hglt
  generalize w1.alloc (.cells (flat builtinL).toArray 37) = W2 at *
  generalize w1.heap.size = B at *
  have hBlt : B < W2.heap.size := HRB.out.lt
  go_wp2_with fail
  go_loopg [5] 83 (fun gg s5 wr => ∃ kk : Nat, kk ≤ 83 ∧ 83 - kk ≤ gg ∧ s5 = .int .i64 kk ∧ Hid (Below W2.heap.size W2 wr))
  case atStart => exact ⟨0, by omega, by omega, rfl, Below.refl _ W2⟩
  case round =>
    obtain ⟨kk, hkk, hgg, rfl, BW⟩ := hrel
    by_cases hlt : kk < 83
    case pos =>
      have hltz : (kk : Int) < 83 := by omega
      have hltz0 : (0 : Int) ≤ (kk : Int) := by omega
      have hil : kk < builtinL.length := hlt
      have cA := (HRA.out.below BW.out hglt2) kk hil
      have cB := (rowsAt_blk (HRB.out.below BW.out hBlt)) kk hil
      generalize builtinL[kk]! = y at cA cB
      have a0 := cA 0 _ rfl
      have a1 := cA 1 _ rfl
      have a2 := cA 2 _ rfl
      have a3 := cA 3 _ rfl
      have a4 := cA 4 _ rfl
      have a5 := cA 5 _ rfl
      have a6 := cA 6 _ rfl
      have a7 := cA 7 _ rfl
      have b0 := cB 0 _ rfl
      have b1 := cB 1 _ rfl
      have b2 := cB 2 _ rfl
      have b3 := cB 3 _ rfl
      have b4 := cB 4 _ rfl
      have b5 := cB 5 _ rfl
      have b6 := cB 6 _ rfl
      have b7 := cB 7 _ rfl
      clear cA cB hil
      simp only [Nat.zero_add, Nat.add_zero] at a0 a1 a2 a3 a4 a5 a6 a7 b0 b1 b2 b3 b4 b5 b6 b7
      have hN := neqRow y
      go_upto_region 7 with fail
      go_quiet (fail)
      go_wp2
      go_roundg (83 - (kk + 1))
      case measure => omega
      case rel =>
        refine ⟨kk + 1, by omega, by omega, by go_num, ?_⟩
        exact (show Hid _ from bdnR BW.out _)
    case neg =>
      obtain rfl : kk = 83 := by omega
      have hRAw := Lib.hid (HRA.out.below BW.out hglt2)
      have hBKw := Lib.hid (HBK.out.below BW.out hglt2)
      have hRBw := Lib.hid (HRB.out.below BW.out hBlt)
      have hBW := Lib.hid (HB.out.trans (BW.out.mono HB.out.size))
      clear HRA HBK HRB BW HB hglt2 hBlt
      obtain ⟨k, hk⟩ : ∃ k : Nat, a % 83 = (k : Int) := ⟨(a % 83).toNat, by omega⟩
      have k83 : k < 83 := by omega
      have k83z : (k : Int) < 83 := by omega
      have hkt : a.tmod 83 = (k : Int) := by rw [Int.tmod_eq_emod_of_nonneg ha0, hk]
      have HK := Lib.hid hk
      clear hk
      have c0 := hRAw.out k k83 0 _ rfl
      simp only [Nat.zero_add, Nat.add_zero] at c0
      have f0 := hBKw.out.frozen (k * 8)
      go_upto_region 11 with fail
      have HB10 := Lib.hid (hBW.out.setCell (p := ⟨g, k * 8, none⟩) hg (.string ⟨#[120]⟩))
      have HR10 := Lib.hid (hRBw.out.other hgne (k * 8) (.string ⟨#[120]⟩))
      clear hRAw hBKw hRBw hBW c0 f0
      generalize wr.setCell ⟨g, k * 8, none⟩ (.string ⟨#[120]⟩) = W3 at *
      have Hb := Lib.hid (builtin_own W3)
      go_wp2_with fail
      refine Hb.out.mono ?_
      rintro e w4 ⟨g4, cp4, cur4, rfl, _, hbk4, hra4, hb4⟩
      clear Hb
      have hx : RowsV w4 (.slice (some ⟨g4, 0, none⟩) 83 cp4) builtinL := ⟨_, _, rfl, .inr ⟨g4, 0, rfl, hbk4.lt, hra4⟩⟩
      have Hri := Lib.hid (right_any _ builtinL w4 (by decide) hx (fun r hr => by have := built_short r hr; omega))
      have HB4 := Lib.hid (HB10.out.trans (hb4.mono HB10.out.size))
      have HR4 := Lib.hid (HR10.out.below hb4 HR10.out.lt)
      clear hx hra4 hbk4 hb4 HB10 HR10
      go_wp2_with fail
      refine Hri.out.mono ?_
      rintro e w5 ⟨x, v, rfl, hs, hb5⟩
      obtain ⟨rfl, rfl⟩ := RightSaid.one hs (.inr ⟨by decide, .inr ⟨rfl, rfl, builtin_ok⟩⟩)
      clear Hri hs
      have HB5 := Lib.hid (HB4.out.trans (hb5.mono HB4.out.size))
      have r0 := (rowsAt_blk (HR4.out.below hb5 HR4.out.lt)) k k83 0 _ rfl
      simp only [Nat.zero_add, Nat.add_zero] at r0
      have Hbo : Hid (∀ W, Calls Tryd.prog 14 #[] W fun e w' => ∃ g cp, e = .returned (.slice (some ⟨g, 0, none⟩) 83 cp) ∧ w'.cell? ⟨g, k * 8, none⟩ = some (.string (builtinL[k]!).name) ∧ Below W.heap.size W w') := fun W => (builtin_own W).mono fun e w' ⟨g, cp, cur, he, _, _, hra, hb⟩ => ⟨g, cp, he, (by have := hra k k83 0 _ rfl; simpa only [Nat.zero_add, Nat.add_zero] using this), hb⟩
      clear hb5 HB4 HR4
      generalize (builtinL[k]!).name = nm at *
      go_upto_region 12 with fail
      refine wp_region_noPanic ?_
      refine wp_region_held_drew (S := fun w' => w'.cell? ⟨B, k * 8, none⟩ = some (.string nm)) (by kernel_rfl) (by first | exact r0 | go_keep) (fun hHeld => ?_)
      refine wpAnyH_take (i := 0) (oi := { dst := some 62, op := Op.move (Operand.tmp 8), type := 24, pos := "law.go:101", after := #[], guard := none }) (v := .int .i64 0) rfl (by kernel_rfl) (by kernel_rfl) (by kernel_rfl) (fun _ _ _ h => h) (Or.inl ⟨by rfl, (by intro w hSw; (try dsimp only at hSw); (try obtain ⟨hSw, hSw2⟩ := hSw); go_simp)⟩) (by assumption) ?_
      try simp only [Act.put, List.setIfInBounds_toArray, List.set_cons_zero, List.set_cons_succ]
      refine wpAnyH_take (i := 1) (oi := { dst := some 63, op := Op.binOp BinOp.eql 24 (Operand.tmp 62) (Operand.const (Value.int IntKind.i64 0)) 24, type := 4, pos := "law.go:101", after := #[{ on := 0, ground := Ground.data }], guard := none }) (v := .bool true) rfl (by kernel_rfl) (by kernel_rfl) (by kernel_rfl) (fun _ _ _ h => h) (Or.inl ⟨by rfl, (by intro w hSw; (try dsimp only at hSw); (try obtain ⟨hSw, hSw2⟩ := hSw); go_simp)⟩) (by assumption) ?_
      try simp only [Act.put, List.setIfInBounds_toArray, List.set_cons_zero, List.set_cons_succ]
      refine wpAnyH_take (i := 2) (oi := { dst := some 64, op := Op.move (Operand.tmp 63), type := 4, pos := "law.go:101", after := #[{ on := 1, ground := Ground.data }], guard := none }) (v := .bool true) rfl (by kernel_rfl) (by kernel_rfl) (by kernel_rfl) (fun _ _ _ h => h) (Or.inl ⟨by rfl, (by intro w hSw; (try dsimp only at hSw); (try obtain ⟨hSw, hSw2⟩ := hSw); go_simp)⟩) (by assumption) ?_
      try simp only [Act.put, List.setIfInBounds_toArray, List.set_cons_zero, List.set_cons_succ]
      refine wpAnyH_take (i := 4) (oi := { dst := some 66, op := Op.move (Operand.tmp 6), type := 3, pos := "law.go:101", after := #[{ on := 2, ground := Ground.guard }], guard := some (2, true) }) (v := .int .i64 k) rfl (by kernel_rfl) (by kernel_rfl) (by kernel_rfl) (fun _ _ _ h => h) (Or.inl ⟨by rfl, (by intro w hSw; (try dsimp only at hSw); (try obtain ⟨hSw, hSw2⟩ := hSw); go_simp)⟩) (by assumption) ?_
      try simp only [Act.put, List.setIfInBounds_toArray, List.set_cons_zero, List.set_cons_succ]
      refine wpAnyH_take (i := 8) (oi := { dst := some 70, op := Op.move (Operand.tmp 4), type := 22, pos := "law.go:101", after := #[{ on := 2, ground := Ground.guard }], guard := some (2, true) }) (v := .slice (some ⟨B, 0, none⟩) 83 83) rfl (by kernel_rfl) (by kernel_rfl) (by kernel_rfl) (fun _ _ _ h => h) (Or.inl ⟨by rfl, (by intro w hSw; (try dsimp only at hSw); (try obtain ⟨hSw, hSw2⟩ := hSw); go_simp)⟩) (by assumption) ?_
      try simp only [Act.put, List.setIfInBounds_toArray, List.set_cons_zero, List.set_cons_succ]
      refine wpAnyH_take (i := 9) (oi := { dst := some 71, op := Op.move (Operand.tmp 6), type := 3, pos := "law.go:101", after := #[{ on := 2, ground := Ground.guard }], guard := some (2, true) }) (v := .int .i64 k) rfl (by kernel_rfl) (by kernel_rfl) (by kernel_rfl) (fun _ _ _ h => h) (Or.inl ⟨by rfl, (by intro w hSw; (try dsimp only at hSw); (try obtain ⟨hSw, hSw2⟩ := hSw); go_simp)⟩) (by assumption) ?_
      try simp only [Act.put, List.setIfInBounds_toArray, List.set_cons_zero, List.set_cons_succ]
      refine wpAnyH_take (i := 10) (oi := { dst := some 72, op := Op.indexAddr 22 (Operand.tmp 70) (Operand.tmp 71), type := 0, pos := "law.go:101", after := #[{ on := 8, ground := Ground.data }, { on := 9, ground := Ground.data }, { on := 2, ground := Ground.guard }], guard := some (2, true) }) (v := ?v10) rfl (by kernel_rfl) (by kernel_rfl) (by kernel_rfl) (fun _ _ _ h => h) (Or.inl ⟨by rfl, ?hy10⟩) (by assumption) ?rest10
      case hy10 =>
        intro w hSw
        try dsimp only at hSw
        try obtain ⟨hSw, hSw2⟩ := hSw
        go_simp
        try with_reducible rfl
      try simp only [Act.put, List.setIfInBounds_toArray, List.set_cons_zero, List.set_cons_succ]
      refine wpAnyH_take (i := 11) (oi := { dst := some 73, op := Op.fieldAddr 37 (Operand.tmp 72) 0, type := 0, pos := "law.go:101", after := #[{ on := 10, ground := Ground.data }, { on := 2, ground := Ground.guard }], guard := some (2, true) }) (v := ?v11) rfl (by kernel_rfl) (by kernel_rfl) (by kernel_rfl) (fun _ _ _ h => h) (Or.inl ⟨by rfl, ?hy11⟩) (by assumption) ?rest11
      case hy11 =>
        intro w hSw
        try dsimp only at hSw
        try obtain ⟨hSw, hSw2⟩ := hSw
        go_simp
        try with_reducible rfl
      try simp only [Act.put, List.setIfInBounds_toArray, List.set_cons_zero, List.set_cons_succ]
      refine wpAnyH_take (i := 12) (oi := { dst := some 74, op := Op.load 9 (Operand.tmp 73), type := 9, pos := "law.go:101", after := #[{ on := 11, ground := Ground.data }, { on := 2, ground := Ground.guard }], guard := some (2, true) }) (v := ?v12) rfl (by kernel_rfl) (by kernel_rfl) (by kernel_rfl) (fun _ _ _ h => h) (Or.inl ⟨by rfl, ?hy12⟩) (by assumption) ?rest12
      case hy12 =>
        intro w hSw
        try dsimp only at hSw
        try obtain ⟨hSw, hSw2⟩ := hSw
        go_simp
        try with_reducible rfl
      try simp only [Act.put, List.setIfInBounds_toArray, List.set_cons_zero, List.set_cons_succ]
      refine wpAnyH_ready (rs := [3]) (by kernel_rfl) (by simp) ?_
      refine AllReadyH.cons (o := { dst := some 65, op := Op.call { callee := Callee.value (Operand.func 14), args := #[], argTypes := #[] }, type := 27, pos := "law.go:101", after := #[{ on := 2, ground := Ground.chain }, { on := 2, ground := Ground.guard }], guard := some (2, true) }) rfl (fun K hK => ?_) AllReadyH.nil
      go_simp
      refine (Hbo.out _).mono ?_
      rintro e wb ⟨gq, cpq, rfl, nq0, hbq⟩
      refine hK.out _ _ ((hbq.cell (World.block_lt_of_cell? _ _ hHeld)).trans hHeld) (fun hHeld => ?_)
      clear hK K
      try simp only [Act.put, List.setIfInBounds_toArray, List.set_cons_zero, List.set_cons_succ]
      refine wpAnyH_weaken (S' := fun w' => w'.cell? ⟨B, k * 8, none⟩ = some (.string nm) ∧ w'.cell? ⟨gq, k * 8, none⟩ = some (.string nm)) (fun _ h => h.1) _ _ _ _ ?_
      have hHeld2 : (fun w' : World => w'.cell? ⟨B, k * 8, none⟩ = some (.string nm) ∧ w'.cell? ⟨gq, k * 8, none⟩ = some (.string nm)) wb := ⟨hHeld, nq0⟩
      refine wpAnyH_take (i := 5) (oi := { dst := some 67, op := Op.indexAddr 27 (Operand.tmp 65) (Operand.tmp 66), type := 0, pos := "law.go:101", after := #[{ on := 3, ground := Ground.data }, { on := 4, ground := Ground.data }, { on := 2, ground := Ground.guard }], guard := some (2, true) }) (v := ?v5) rfl (by kernel_rfl) (by kernel_rfl) (by kernel_rfl) (fun _ _ _ h => h) (Or.inl ⟨by rfl, ?hy5⟩) (by assumption) ?rest5
      case hy5 =>
        intro w hSw
        try dsimp only at hSw
        try obtain ⟨hSw, hSw2⟩ := hSw
        go_simp
        try with_reducible rfl
      try simp only [Act.put, List.setIfInBounds_toArray, List.set_cons_zero, List.set_cons_succ]
      refine wpAnyH_take (i := 6) (oi := { dst := some 68, op := Op.fieldAddr 36 (Operand.tmp 67) 0, type := 0, pos := "law.go:101", after := #[{ on := 5, ground := Ground.data }, { on := 2, ground := Ground.guard }], guard := some (2, true) }) (v := ?v6) rfl (by kernel_rfl) (by kernel_rfl) (by kernel_rfl) (fun _ _ _ h => h) (Or.inl ⟨by rfl, ?hy6⟩) (by assumption) ?rest6
      case hy6 =>
        intro w hSw
        try dsimp only at hSw
        try obtain ⟨hSw, hSw2⟩ := hSw
        go_simp
        try with_reducible rfl
      try simp only [Act.put, List.setIfInBounds_toArray, List.set_cons_zero, List.set_cons_succ]
      refine wpAnyH_take (i := 7) (oi := { dst := some 69, op := Op.load 9 (Operand.tmp 68), type := 9, pos := "law.go:101", after := #[{ on := 6, ground := Ground.data }, { on := 2, ground := Ground.guard }], guard := some (2, true) }) (v := ?v7) rfl (by kernel_rfl) (by kernel_rfl) (by kernel_rfl) (fun _ _ _ h => h) (Or.inl ⟨by rfl, ?hy7⟩) (by assumption) ?rest7
      case hy7 =>
        intro w hSw
        try dsimp only at hSw
        try obtain ⟨hSw, hSw2⟩ := hSw
        go_simp
        try with_reducible rfl
      try simp only [Act.put, List.setIfInBounds_toArray, List.set_cons_zero, List.set_cons_succ]
      refine wpAnyH_take (i := 13) (oi := { dst := some 75, op := Op.binOp BinOp.eql 9 (Operand.tmp 69) (Operand.tmp 74) 9, type := 4, pos := "law.go:101", after := #[{ on := 7, ground := Ground.data }, { on := 12, ground := Ground.data }, { on := 2, ground := Ground.guard }], guard := some (2, true) }) (v := .bool true) rfl (by kernel_rfl) (by kernel_rfl) (by kernel_rfl) (fun _ _ _ h => h) (Or.inl ⟨by rfl, (by intro w hSw; (try dsimp only at hSw); (try obtain ⟨hSw, hSw2⟩ := hSw); go_simp)⟩) (by assumption) ?_
      try simp only [Act.put, List.setIfInBounds_toArray, List.set_cons_zero, List.set_cons_succ]
      refine wpAnyH_take (i := 14) (oi := { dst := some 76, op := Op.pick (Operand.tmp 64) (Operand.tmp 75) (Operand.const (Value.bool false)), type := 4, pos := "law.go:101", after := #[{ on := 2, ground := Ground.data }, { on := 13, ground := Ground.data }], guard := none }) (v := .bool true) rfl (by kernel_rfl) (by kernel_rfl) (by kernel_rfl) (fun _ _ _ h => h) (Or.inl ⟨by rfl, (by intro w hSw; (try dsimp only at hSw); (try obtain ⟨hSw, hSw2⟩ := hSw); go_simp)⟩) (by assumption) ?_
      try simp only [Act.put, List.setIfInBounds_toArray, List.set_cons_zero, List.set_cons_succ]
      refine wpAnyH_take (i := 15) (oi := { dst := some 77, op := Op.move (Operand.tmp 76), type := 4, pos := "law.go:101", after := #[{ on := 14, ground := Ground.data }, { on := 3, ground := Ground.chain }], guard := none }) (v := .bool true) rfl (by kernel_rfl) (by kernel_rfl) (by kernel_rfl) (fun _ _ _ h => h) (Or.inl ⟨by rfl, (by intro w hSw; (try dsimp only at hSw); (try obtain ⟨hSw, hSw2⟩ := hSw); go_simp)⟩) (by assumption) ?_
      try simp only [Act.put, List.setIfInBounds_toArray, List.set_cons_zero, List.set_cons_succ]
      refine wpAnyH_ready (rs := [16]) (by kernel_rfl) (by simp) ?_
      refine AllReadyH.cons (o := { dst := some 78, op := Op.call { callee := Callee.value (Operand.func 13), args := #[], argTypes := #[] }, type := 4, pos := "law.go:101", after := #[{ on := 15, ground := Ground.chain }, { on := 15, ground := Ground.guard }], guard := some (15, true) }) rfl (fun K hK => ?_) AllReadyH.nil
      go_simp
      refine (awake_any _).mono ?_
      rintro e wa ⟨rfl, hba⟩
      refine hK.out _ _ ⟨(hba.cell (World.block_lt_of_cell? _ _ hHeld2.1)).trans hHeld2.1, (hba.cell (World.block_lt_of_cell? _ _ hHeld2.2)).trans hHeld2.2⟩ (fun hHeld => ?_)
      clear hK K
      try simp only [Act.put, List.setIfInBounds_toArray, List.set_cons_zero, List.set_cons_succ]
      refine wpAnyH_take (i := 17) (oi := { dst := some 79, op := Op.pick (Operand.tmp 77) (Operand.tmp 78) (Operand.const (Value.bool false)), type := 4, pos := "law.go:101", after := #[{ on := 15, ground := Ground.data }, { on := 16, ground := Ground.data }], guard := none }) (v := .bool true) rfl (by kernel_rfl) (by kernel_rfl) (by kernel_rfl) (fun _ _ _ h => h) (Or.inl ⟨by rfl, (by intro w hSw; (try dsimp only at hSw); (try obtain ⟨hSw, hSw2⟩ := hSw); go_simp)⟩) (by assumption) ?_
      try simp only [Act.put, List.setIfInBounds_toArray, List.set_cons_zero, List.set_cons_succ]
      refine wpAnyH_take (i := 18) (oi := { dst := some 2, op := Op.assign (Operand.tmp 79), type := 4, pos := "law.go:101", after := #[{ on := 17, ground := Ground.data }, { on := 16, ground := Ground.chain }, { on := 0, ground := Ground.phase }, { on := 1, ground := Ground.phase }, { on := 2, ground := Ground.phase }, { on := 3, ground := Ground.phase }, { on := 4, ground := Ground.phase }, { on := 5, ground := Ground.phase }, { on := 6, ground := Ground.phase }, { on := 7, ground := Ground.phase }, { on := 8, ground := Ground.phase }, { on := 9, ground := Ground.phase }, { on := 10, ground := Ground.phase }, { on := 11, ground := Ground.phase }, { on := 12, ground := Ground.phase }, { on := 13, ground := Ground.phase }, { on := 14, ground := Ground.phase }, { on := 15, ground := Ground.phase }, { on := 16, ground := Ground.phase }, { on := 17, ground := Ground.phase }], guard := none }) (v := .bool true) rfl (by kernel_rfl) (by kernel_rfl) (by kernel_rfl) (fun _ _ _ h => h) (Or.inl ⟨by rfl, (by intro w hSw; (try dsimp only at hSw); (try obtain ⟨hSw, hSw2⟩ := hSw); go_simp)⟩) (by assumption) ?_
      try simp only [Act.put, List.setIfInBounds_toArray, List.set_cons_zero, List.set_cons_succ]
      refine wpAnyH_done (by kernel_rfl) ?_ _
      refine NoPanic.normal ?_
      go_wp2
      go_ret
      exact ⟨rfl, (HB5.out.drew.trans (hbq.mono HB5.out.size)).trans (hba.mono (Nat.le_trans HB5.out.size hbq.size))⟩
end Go.Proofs.YtakmbmlpgmppiaaDoor
