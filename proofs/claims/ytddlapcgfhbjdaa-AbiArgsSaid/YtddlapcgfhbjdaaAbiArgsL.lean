/- The law AbiArgs is true of every ABI, arguments and number: abi.Args answers as the reference does. No condition. -/
import Derived.Test.YtddlapcgfhbjdaaAbiArgs
import Derived.Test.YtddlapcgfhbjdaaOpen
namespace Go.Proofs.Ytddlapcgfhbjdaa.lawAbiArgs
open Go Go.Proofs Go.RowKit Go.ChangeShapes Go.WideShapes Go.ChangeAt

theorem blk_drewN {W : World} {B : Nat} {t : TypeId} {cs : Array Value} (h : Blk W B t cs) (n : Nat) : Blk (W.drewN n) B t cs := h

theorem ref_call (a x : Int) (h0 : 0 ≤ x) (h1 : x < 18446744073709551616) (w : World) : Calls Try.prog 22 #[.int .i64 a, .int .u64 x] w fun e w' => e = .returned (.int .u64 (argN a x)) ∧ w' = w :=
  (refArg_any a x h0 h1 w).mono fun e w' ⟨he, hw⟩ => ⟨he, hw.symm⟩

set_option maxRecDepth 100000 in
set_option maxHeartbeats 2000000 in
theorem walk (a nu x0 x1 x2 x3 x4 x5 : Int) (h0a : 0 ≤ x0) (h0b : x0 < 18446744073709551616) (h1a : 0 ≤ x1) (h1b : x1 < 18446744073709551616) (h2a : 0 ≤ x2) (h2b : x2 < 18446744073709551616) (h3a : 0 ≤ x3) (h3b : x3 < 18446744073709551616) (h4a : 0 ≤ x4) (h4b : x4 < 18446744073709551616) (h5a : 0 ≤ x5) (h5b : x5 < 18446744073709551616) (w : World) :
    Calls Try.prog 8 #[.int .i64 a, .agg #[.int .u64 x0, .int .u64 x1, .int .u64 x2, .int .u64 x3, .int .u64 x4, .int .u64 x5], .int .u32 nu] w fun e w' => e = .returned (.bool true) ∧ Below w.heap.size w w' := by
  have ha := args_any a nu 0 0 x0 x1 x2 x3 x4 x5 h0a h0b h1a h1b h2a h2b h3a h3b h4a h4b h5a h5b
  have Ha := Lib.hid ha
  clear ha
  go_enter Try.func8, Try.ntmps8
  go_wp2_with (go_at_call 21; refine (Ha.out _).mono ?_; rintro e w1 ⟨rfl, hb1⟩)
  have bT := ((Blk.new w 50 #[.int .u64 x0, .int .u64 x1, .int .u64 x2, .int .u64 x3, .int .u64 x4, .int .u64 x5]).below hb1 (by simp)).alloc (.cells #[.int .u64 (argN a x0), .int .u64 (argN a x1), .int .u64 (argN a x2), .int .u64 (argN a x3), .int .u64 (argN a x4), .int .u64 (argN a x5)] 50)
  have bX := Blk.new w1 50 #[.int .u64 (argN a x0), .int .u64 (argN a x1), .int .u64 (argN a x2), .int .u64 (argN a x3), .int .u64 (argN a x4), .int .u64 (argN a x5)]
  have s1 := hb1.size
  simp only [World.size_alloc] at s1
  have hB : Below w.heap.size w (w1.alloc (.cells #[.int .u64 (argN a x0), .int .u64 (argN a x1), .int .u64 (argN a x2), .int .u64 (argN a x3), .int .u64 (argN a x4), .int .u64 (argN a x5)] 50)) := (((Below.refl _ w).alloc (Nat.le_refl _) _).trans (hb1.mono (by simp))).alloc (by omega) _
  go_loopw [8] (fun i wr => (i = .int .i64 0 ∨ i = .int .i64 1 ∨ i = .int .i64 2 ∨ i = .int .i64 3 ∨ i = .int .i64 4 ∨ i = .int .i64 5 ∨ i = .int .i64 6) ∧ (Blk wr w.heap.size 50 #[.int .u64 x0, .int .u64 x1, .int .u64 x2, .int .u64 x3, .int .u64 x4, .int .u64 x5] ∧ Blk wr w1.heap.size 50 #[.int .u64 (argN a x0), .int .u64 (argN a x1), .int .u64 (argN a x2), .int .u64 (argN a x3), .int .u64 (argN a x4), .int .u64 (argN a x5)]) ∧ Below w.heap.size w wr) (fun i _ => 6 - (intOf i).toNat)
  case atStart => exact ⟨.inl rfl, ⟨bT, bX⟩, hB⟩
  case round =>
    clear bT bX hB
    obtain ⟨hrel, ⟨bT, bX⟩, hB⟩ := hrel
    rcases hrel with rfl | rfl | rfl | rfl | rfl | rfl | rfl
    · have tt := bT.cell 0
      have xx := bX.cell 0
      simp only [List.getElem?_toArray, List.getElem?_cons_zero, List.getElem?_cons_succ] at tt xx
      go_wp2_with fail
      go_quiet ((go_at_call 22; exact Calls.quiet_of_same (ref_call a x0 h0a h0b _)))
      go_wp2
      go_roundw
      case rel => exact ⟨.inr (.inl rfl), ⟨blk_drewN bT _, blk_drewN bX _⟩, below_drewN hB _⟩
      case measure => simp [intOf]
    · have tt := bT.cell 1
      have xx := bX.cell 1
      simp only [List.getElem?_toArray, List.getElem?_cons_zero, List.getElem?_cons_succ] at tt xx
      go_wp2_with fail
      go_quiet ((go_at_call 22; exact Calls.quiet_of_same (ref_call a x1 h1a h1b _)))
      go_wp2
      go_roundw
      case rel => exact ⟨.inr (.inr (.inl rfl)), ⟨blk_drewN bT _, blk_drewN bX _⟩, below_drewN hB _⟩
      case measure => simp [intOf]
    · have tt := bT.cell 2
      have xx := bX.cell 2
      simp only [List.getElem?_toArray, List.getElem?_cons_zero, List.getElem?_cons_succ] at tt xx
      go_wp2_with fail
      go_quiet ((go_at_call 22; exact Calls.quiet_of_same (ref_call a x2 h2a h2b _)))
      go_wp2
      go_roundw
      case rel => exact ⟨.inr (.inr (.inr (.inl rfl))), ⟨blk_drewN bT _, blk_drewN bX _⟩, below_drewN hB _⟩
      case measure => simp [intOf]
    · have tt := bT.cell 3
      have xx := bX.cell 3
      simp only [List.getElem?_toArray, List.getElem?_cons_zero, List.getElem?_cons_succ] at tt xx
      go_wp2_with fail
      go_quiet ((go_at_call 22; exact Calls.quiet_of_same (ref_call a x3 h3a h3b _)))
      go_wp2
      go_roundw
      case rel => exact ⟨.inr (.inr (.inr (.inr (.inl rfl)))), ⟨blk_drewN bT _, blk_drewN bX _⟩, below_drewN hB _⟩
      case measure => simp [intOf]
    · have tt := bT.cell 4
      have xx := bX.cell 4
      simp only [List.getElem?_toArray, List.getElem?_cons_zero, List.getElem?_cons_succ] at tt xx
      go_wp2_with fail
      go_quiet ((go_at_call 22; exact Calls.quiet_of_same (ref_call a x4 h4a h4b _)))
      go_wp2
      go_roundw
      case rel => exact ⟨.inr (.inr (.inr (.inr (.inr (.inl rfl))))), ⟨blk_drewN bT _, blk_drewN bX _⟩, below_drewN hB _⟩
      case measure => simp [intOf]
    · have tt := bT.cell 5
      have xx := bX.cell 5
      simp only [List.getElem?_toArray, List.getElem?_cons_zero, List.getElem?_cons_succ] at tt xx
      go_wp2_with fail
      go_quiet ((go_at_call 22; exact Calls.quiet_of_same (ref_call a x5 h5a h5b _)))
      go_wp2
      go_roundw
      case rel => exact ⟨.inr (.inr (.inr (.inr (.inr (.inr (rfl)))))), ⟨blk_drewN bT _, blk_drewN bX _⟩, below_drewN hB _⟩
      case measure => simp [intOf]
    · go_wp2_with (go_at_call 13; refine (awake08_any _).mono ?_; rintro e w5 ⟨rfl, hb5⟩)
      go_ret
      exact ⟨rfl, hB.trans (hb5.mono hB.size)⟩

theorem own : ownKnob Try.prog.godebug = none := by kernel_rfl

set_option maxRecDepth 100000 in
theorem lifted (os : Os) (started : os.Started) (H : Type) (enc : TypeId × Value → H) :
    ReturnsInHanded {} Try.checked os 8 .any (Rows.abiArgsSpec.pre6 enc Try.prog Try.f8 Rows.abiArgsRow.domain false) (Rows.abiArgsSpec.post enc Try.prog Try.f8 false true false false) := by
  refine lift_law (C := Try.checked) (tb := 4) own started (by kernel_rfl) Try.func8
    (ChangeSpec.witness6 (enc := enc) (C := Try.checked) false ⟨#[], #[.int .i64 0, .agg #[.int .u64 0, .int .u64 0, .int .u64 0, .int .u64 0, .int .u64 0, .int .u64 0], .int .u32 0], []⟩ 8 (by kernel_rfl) (by kernel_rfl) (by kernel_rfl) (by kernel_rfl))
    rfl (by kernel_rfl) (by kernel_rfl) (of_decide_eq_true (by kernel_rfl)) ?_ rfl Try.underlying4 ?_
  · intro ds hds
    match ds, hds with
    | [d1, d2, d3], _ => rfl
  · intro W base args ds p hval hA hlt hsz
    rw [Try.params8] at hA hval hsz
    obtain ⟨v0, vs0, d0, ds0, p0, q0, hargs, rfl, rfl, h0, r0⟩ := trodAll_cons hA
    obtain ⟨v1, vs1, d1, ds1, p1, q1, rfl, rfl, rfl, h1, r1⟩ := trodAll_cons r0
    obtain ⟨v2, vs2, d2, ds2, p2, q2, rfl, rfl, rfl, h2, r2⟩ := trodAll_cons r1
    obtain ⟨rfl, rfl, rfl⟩ := trodAll_nil r2
    obtain rfl : args = #[v0, v1, v2] := by cases args; simp_all
    obtain ⟨a0, rfl, rfl, rfl, w0⟩ := open_int Try.underlying3 (hval 0 3 v0 rfl rfl) h0
    obtain ⟨a2, rfl, rfl, rfl, w2⟩ := open_int Try.underlying22 (hval 2 22 v2 rfl rfl) h2
    obtain ⟨zs, hzl, rfl, hzw⟩ := open_int_array Try.underlying50 Try.underlying49 (by kernel_rfl : Try.prog.cellsOf 49 = 1) (by kernel_rfl : Try.prog.cellsOf 50 = 6) (hval 1 50 _ rfl rfl) h1
    match zs, hzl, hzw with
    | [x0, x1, x2, x3, x4, x5], _, hzw =>
    have g0 := bounds_u64 (hzw x0 (by simp))
    have g1 := bounds_u64 (hzw x1 (by simp))
    have g2 := bounds_u64 (hzw x2 (by simp))
    have g3 := bounds_u64 (hzw x3 (by simp))
    have g4 := bounds_u64 (hzw x4 (by simp))
    have g5 := bounds_u64 (hzw x5 (by simp))
    exact walk a0 a2 x0 x1 x2 x3 x4 x5 (by omega) (by omega) (by omega) (by omega) (by omega) (by omega) (by omega) (by omega) (by omega) (by omega) (by omega) (by omega) W

/-- The statement. -/
theorem proved : Rows.AbiArgsSaid :=
  OpenClaim.holds_of_wide 8 Try.f8 rfl rfl rfl rfl rfl rfl rfl ⟨rfl, rfl, rfl, rfl, rfl⟩ rfl rfl rfl rfl rfl (by kernel_rfl) Try.func8 (by kernel_rfl)
    (of_decide_eq_true (by kernel_rfl)) (by unfold Func.isWrapper; first | (rw [if_pos (by decide +kernel)]; kernel_rfl) | (rw [if_neg (by decide +kernel)]; exact ⟨rfl, rfl⟩))
    (fun os started H enc _ => lifted os started H enc)
#print axioms proved
end Go.Proofs.Ytddlapcgfhbjdaa.lawAbiArgs
