/- policy.named: may a rule's name be? -/
import Derived.Deep.QuietTactic
import Derived.BigQuiet
import Derived.Test.YtmjipkdejggbfaaGreatDoorQPolN
namespace Go.Proofs.YtmjipkdejggbfaaGreatDoor
open Go Go.Proofs Go.RowKit

theorem rngOk_none (s : ByteArray) : SysP.rngOk ⟨s, -1, -1, -1, -1, -1, 0, 0⟩ := by
  refine ⟨fun a ha => ?_, ?_⟩
  · have : a = 0 ∨ a = 1 ∨ a = 2 ∨ a = 3 ∨ a = 4 := by omega
    rcases this with rfl | rfl | rfl | rfl | rfl <;> exact (by decide : (-1 : Int) ≤ -1 ∧ (-1 : Int) ≤ 1073741823)
  · unfold SysP.muxOk; simp
theorem named_iff {s : ByteArray} {v : Bool} (h : v = true ↔ SysP.refNameP s) : v = nameB s := by
  rw [← nameB_iff] at h
  rw [Bool.eq_iff_iff]
  exact h
theorem snamed_any (s : ByteArray) (w : World) (hs : s.size ≤ 1000000) : Calls Tryz.prog 96 #[.string s] w fun e w' => e = .returned (.bool (nameB s)) ∧ Below w.heap.size w w' :=
  (SysP.named_any s w (by omega)).mono (by rintro e w' ⟨v, rfl, hv, hb⟩; exact ⟨by rw [named_iff hv], hb⟩)
theorem sranged_any (s : ByteArray) (w : World) : Calls Tryz.prog 97 #[.agg #[.string s, .int .i64 (-1), .int .i64 (-1), .int .i64 (-1), .int .i64 (-1), .int .i64 (-1), .int .i64 0, .int .i64 0]] w fun e w' => e = .returned (.bool true) ∧ Below w.heap.size w w' :=
  (SysP.ranged_any ⟨s, -1, -1, -1, -1, -1, 0, 0⟩ w).mono (by rintro e w' ⟨v, rfl, hv, hb⟩; exact ⟨by rw [hv.2 (rngOk_none s)], hb⟩)
theorem lcellP {w wx : World} {a : Addr} {v : Value} (hb : Below w.heap.size w wx) (h : w.cell? a = some v) : wx.cell? a = some v := (hb.cell (World.block_lt_of_cell? _ _ h)).trans h
theorem blkHP {W W' : World} {B : Nat} {t : TypeId} {cs : Array Value} (h : Hid (Blk W B t cs)) (hb : Below W.heap.size W W') : Hid (Blk W' B t cs) := h.out.below hb h.out.lt
set_option maxRecDepth 100000 in
set_option maxHeartbeats 4000000 in
theorem right1_any (s : ByteArray) (hs : s.size ≤ 1000000) (B : Nat) (w : World) (hB : Blk w B 149 #[.string s, .int .i64 (-1), .int .i64 (-1), .int .i64 (-1), .int .i64 (-1), .int .i64 (-1), .int .i64 0, .int .i64 0]) :
    Calls Tryz.prog 77 #[.slice (some ⟨B, 0, none⟩) 1 1] w fun e w' => (∃ i : Int, e = .returned (.tuple #[.int .i64 i, .int .i64 (if nameB s = true then 0 else 13)])) ∧ Below w.heap.size w w' := by
  have c0 := hB.cell 0
  have c1 := hB.cell 1
  have c2 := hB.cell 2
  have c3 := hB.cell 3
  have c4 := hB.cell 4
  have c5 := hB.cell 5
  have c6 := hB.cell 6
  have c7 := hB.cell 7
  have hBl := hB.lt
  simp only [List.getElem?_toArray, List.getElem?_cons_zero, List.getElem?_cons_succ] at c0 c1 c2 c3 c4 c5 c6 c7
  have hmm := @run_makeMap Tryz.prog
  have HSN := Lib.hid (fun W => snamed_any s W hs)
  have HSR := Lib.hid (fun W => sranged_any s W)
  have i0 : ∀ w, (Instr.index 147 (.agg #[.int .i64 (-1), .int .i64 (-1), .int .i64 (-1), .int .i64 (-1), .int .i64 (-1)]) (.int .i64 0)).run Tryz.prog w = .ok (.int .i64 (-1)) w := fun _ => by kernel_rfl
  have i1 : ∀ w, (Instr.index 147 (.agg #[.int .i64 (-1), .int .i64 (-1), .int .i64 (-1), .int .i64 (-1), .int .i64 (-1)]) (.int .i64 1)).run Tryz.prog w = .ok (.int .i64 (-1)) w := fun _ => by kernel_rfl
  have i2 : ∀ w, (Instr.index 147 (.agg #[.int .i64 (-1), .int .i64 (-1), .int .i64 (-1), .int .i64 (-1), .int .i64 (-1)]) (.int .i64 2)).run Tryz.prog w = .ok (.int .i64 (-1)) w := fun _ => by kernel_rfl
  have i3 : ∀ w, (Instr.index 147 (.agg #[.int .i64 (-1), .int .i64 (-1), .int .i64 (-1), .int .i64 (-1), .int .i64 (-1)]) (.int .i64 3)).run Tryz.prog w = .ok (.int .i64 (-1)) w := fun _ => by kernel_rfl
  have i4 : ∀ w, (Instr.index 147 (.agg #[.int .i64 (-1), .int .i64 (-1), .int .i64 (-1), .int .i64 (-1), .int .i64 (-1)]) (.int .i64 4)).run Tryz.prog w = .ok (.int .i64 (-1)) w := fun _ => by kernel_rfl
  clear hB
  generalize nameB s = nb at *
  go_enter Tryz.func77, Tryz.ntmps77
  go_upto_region 5 with fail
  have HB1 := Lib.hid ((Below.refl w.heap.size w).alloc (Nat.le_refl _) (.map #[] 0))
  have hbm : Below w.heap.size w (w.alloc (.map #[] 0)) := HB1.out
  have q0 := lcellP hbm c0
  have q1 := lcellP hbm c1
  have q2 := lcellP hbm c2
  have q3 := lcellP hbm c3
  have q4 := lcellP hbm c4
  have q5 := lcellP hbm c5
  have q6 := lcellP hbm c6
  have q7 := lcellP hbm c7
  clear c0 c1 c2 c3 c4 c5 c6 c7 hbm hmm
  generalize w.alloc (.map #[] 0) = W1 at *
  go_loopw [16] (fun s16 wr => (s16 = .int .i64 0 ∧ W1 = wr) ∨ (s16 = .int .i64 1 ∧ nb = true ∧ Hid (Below w.heap.size w wr))) (fun s16 _ => 1 - (intOf s16).toNat)
  case atStart => exact .inl ⟨rfl, rfl⟩
  case round =>
    rcases hrel with ⟨rfl, rfl⟩ | ⟨rfl, hnm, HB⟩
    · have HI := Lib.hid (Blk.new W1 149 #[.string s, .int .i64 (-1), .int .i64 (-1), .int .i64 (-1), .int .i64 (-1), .int .i64 (-1), .int .i64 0, .int .i64 0])
      have HB2 := Lib.hid (HB1.out.alloc HB1.out.size (.cells #[.string s, .int .i64 (-1), .int .i64 (-1), .int .i64 (-1), .int .i64 (-1), .int .i64 (-1), .int .i64 0, .int .i64 0] 149))
      go_upto_region 8 with fail
      clear q0 q1 q2 q3 q4 q5 q6 q7
      generalize W1.alloc (.cells #[.string s, .int .i64 (-1), .int .i64 (-1), .int .i64 (-1), .int .i64 (-1), .int .i64 (-1), .int .i64 0, .int .i64 0] 149) = W2 at *
      generalize W1.heap.size = IB at *
      have d0 := HI.out.cell 0
      simp only [List.getElem?_toArray, List.getElem?_cons_zero, List.getElem?_cons_succ] at d0
      go_wp2_with fail
      refine (HSN.out _).mono ?_
      rintro e w3 ⟨rfl, hb3⟩
      have HI3 := blkHP HI hb3
      have HB3 := Lib.hid (HB2.out.trans (hb3.mono HB2.out.size))
      clear hb3 HI HB2 HB1 d0 HSN
      cases nb with
      | false =>
        go_wp2
        go_ret2
        exact ⟨⟨0, rfl⟩, HB3.out⟩
      | true =>
        go_upto_region 10 with fail
        go_quiet (fail)
        have HI4 : Hid (Blk (w3.drewN nq) IB 149 #[.string s, .int .i64 (-1), .int .i64 (-1), .int .i64 (-1), .int .i64 (-1), .int .i64 (-1), .int .i64 0, .int .i64 0]) := HI3.out
        have HB4 : Hid (Below w.heap.size w (w3.drewN nq)) := ⟨HB3.out.os, HB3.out.tape, HB3.out.output, HB3.out.size, HB3.out.block⟩
        clear HI3 HB3
        generalize w3.drewN nq = w4 at *
        have d0 := HI4.out.cell 0
        have d1 := HI4.out.cell 1
        have d2 := HI4.out.cell 2
        have d3 := HI4.out.cell 3
        have d4 := HI4.out.cell 4
        have d5 := HI4.out.cell 5
        have d6 := HI4.out.cell 6
        have d7 := HI4.out.cell 7
        simp only [List.getElem?_toArray, List.getElem?_cons_zero, List.getElem?_cons_succ] at d0 d1 d2 d3 d4 d5 d6 d7
        go_wp2_with fail
        refine (HSR.out _).mono ?_
        rintro e w5 ⟨rfl, hb5⟩
        have HI5 := blkHP HI4 hb5
        have HB5 := Lib.hid (HB4.out.trans (hb5.mono HB4.out.size))
        clear hb5 HI4 HB4 d0 d1 d2 d3 d4 d5 d6 d7 HSR
        have d1 := HI5.out.cell 1
        have d2 := HI5.out.cell 2
        have d3 := HI5.out.cell 3
        have d4 := HI5.out.cell 4
        have d5 := HI5.out.cell 5
        have d6 := HI5.out.cell 6
        simp only [List.getElem?_toArray, List.getElem?_cons_zero, List.getElem?_cons_succ] at d1 d2 d3 d4 d5 d6
        go_upto_region 17 with fail
        go_loopg [60] 6 (fun gg s60 wx => w5 = wx ∧ ∃ a : Nat, a ≤ 5 ∧ 5 - a < gg ∧ s60 = .int .i64 a)
        case atStart => exact ⟨rfl, 0, by omega, by omega, rfl⟩
        case round =>
          obtain ⟨rfl, a, ha, hg, rfl⟩ := hrel
          have : a = 0 ∨ a = 1 ∨ a = 2 ∨ a = 3 ∨ a = 4 ∨ a = 5 := by omega
          rcases this with rfl | rfl | rfl | rfl | rfl | rfl
          · go_wp2
            go_roundg 5
            case measure => omega
            case rel => exact ⟨rfl, 1, by omega, by omega, rfl⟩
          · go_wp2
            go_roundg 4
            case measure => omega
            case rel => exact ⟨rfl, 2, by omega, by omega, rfl⟩
          · go_wp2
            go_roundg 3
            case measure => omega
            case rel => exact ⟨rfl, 3, by omega, by omega, rfl⟩
          · go_wp2
            go_roundg 2
            case measure => omega
            case rel => exact ⟨rfl, 4, by omega, by omega, rfl⟩
          · go_wp2
            go_roundg 1
            case measure => omega
            case rel => exact ⟨rfl, 5, by omega, by omega, rfl⟩
          · go_wp2
            go_roundw
            case rel => first | exact .inr ⟨trivial, rfl, HB5⟩ | exact .inr ⟨rfl, trivial, HB5⟩ | exact .inr ⟨trivial, HB5⟩
            case measure => simp [intOf]
    · subst hnm
      go_wp2
      go_ret2
      exact ⟨⟨0, rfl⟩, HB.out⟩
set_option maxRecDepth 100000 in
set_option maxHeartbeats 1000000 in
theorem pnamed_any (s : ByteArray) (hs : s.size ≤ 1000000) (w : World) : Calls Tryz.prog 58 #[.string s] w fun e w' => e = .returned (.bool (nameB s)) ∧ Below w.heap.size w w' := by
  have hr := right1_any s hs w.heap.size (w.alloc (.cells #[.string s, .int .i64 (-1), .int .i64 (-1), .int .i64 (-1), .int .i64 (-1), .int .i64 (-1), .int .i64 0, .int .i64 0] 149)) (Blk.new w _ _)
  have HR := Lib.hid hr
  have HB := Lib.hid ((Below.refl w.heap.size w).alloc (Nat.le_refl _) (.cells #[.string s, .int .i64 (-1), .int .i64 (-1), .int .i64 (-1), .int .i64 (-1), .int .i64 (-1), .int .i64 0, .int .i64 0] 149))
  clear hr
  generalize nameB s = nb at *
  go_enter Tryz.func58, Tryz.ntmps58
  go_wp2_with fail
  refine HR.out.mono ?_
  rintro e w1 ⟨⟨i, rfl⟩, hb1⟩
  have HB1 := Lib.hid (HB.out.trans (hb1.mono HB.out.size))
  clear hb1 HB HR
  cases nb with
  | false =>
    rw [if_neg (by decide)]
    go_wp2
    go_ret
    exact ⟨rfl, HB1.out⟩
  | true =>
    rw [if_pos rfl]
    go_wp2
    go_ret
    exact ⟨rfl, HB1.out⟩
end Go.Proofs.YtmjipkdejggbfaaGreatDoor
