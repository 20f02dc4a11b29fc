/- CondOpposite: the law's walk. -/
import Derived.Test.YtlmobmbglninkaaDoorCondAwake
import Derived.Deep.LoopGhost
namespace Go.Proofs.YtlmobmbglninkaaDoor
open Go Go.Proofs Go.RowKit

def isCells (v xv : Int) : Nat → Array Value
  | 0 => #[.bool false, .bool false, .bool false, .bool false, .bool false, .bool false, .bool false, .bool false]
  | 1 => #[.bool false, .bool false, .bool false, .bool false, .bool false, .bool false, .bool false, .bool false]
  | 2 => #[.bool false, .bool (opHolds 1 0 v xv), .bool false, .bool false, .bool false, .bool false, .bool false, .bool false]
  | 3 => #[.bool false, .bool (opHolds 1 0 v xv), .bool (opHolds 2 0 v xv), .bool false, .bool false, .bool false, .bool false, .bool false]
  | 4 => #[.bool false, .bool (opHolds 1 0 v xv), .bool (opHolds 2 0 v xv), .bool (opHolds 3 0 v xv), .bool false, .bool false, .bool false, .bool false]
  | 5 => #[.bool false, .bool (opHolds 1 0 v xv), .bool (opHolds 2 0 v xv), .bool (opHolds 3 0 v xv), .bool (opHolds 4 0 v xv), .bool false, .bool false, .bool false]
  | 6 => #[.bool false, .bool (opHolds 1 0 v xv), .bool (opHolds 2 0 v xv), .bool (opHolds 3 0 v xv), .bool (opHolds 4 0 v xv), .bool (opHolds 5 0 v xv), .bool false, .bool false]
  | _ => #[.bool false, .bool (opHolds 1 0 v xv), .bool (opHolds 2 0 v xv), .bool (opHolds 3 0 v xv), .bool (opHolds 4 0 v xv), .bool (opHolds 5 0 v xv), .bool (opHolds 6 0 v xv), .bool false]

set_option maxRecDepth 100000 in
set_option maxHeartbeats 4000000 in
theorem opp_any (ar v x0 x1 x2 x3 x4 x5 : Int) (har : 0 ≤ ar ∧ ar < 256) (w : World) (hE : ErrV w) :
    Calls Tryd.prog 4 #[.int .u8 ar, .int .u64 v, .agg #[.int .u64 x0, .int .u64 x1, .int .u64 x2, .int .u64 x3, .int .u64 x4, .int .u64 x5]] w fun e w' => e = .returned (.bool true) ∧ Below w.heap.size w w' := by
  obtain ⟨j, hj, hj6⟩ : ∃ j : Nat, (j : Int) = ar % 6 ∧ j ≤ 5 := ⟨(ar % 6).toNat, by omega, by omega⟩
  obtain ⟨xv, hx⟩ : ∃ xv, [x0, x1, x2, x3, x4, x5][j]? = some xv := ⟨_, List.getElem?_eq_getElem (show j < 6 by omega)⟩
  have HH := Lib.hid (fun (k : Int) (hk : 1 ≤ k ∧ k ≤ 7) W => holds_any j hj6 k 0 v x0 x1 x2 x3 x4 x5 xv hk hx (.inr rfl) W)
  have HE := Lib.hid hE
  have hrem : ar.tmod 6 = (j : Int) := by rw [hj, Int.tmod_eq_emod_of_nonneg har.1]
  have hA := (Blk.new w 37 #[.int .u64 x0, .int .u64 x1, .int .u64 x2, .int .u64 x3, .int .u64 x4, .int .u64 x5]).alloc (.cells #[.bool false, .bool false, .bool false, .bool false, .bool false, .bool false, .bool false, .bool false] 38)
  have hI := Blk.new (w.alloc (.cells #[.int .u64 x0, .int .u64 x1, .int .u64 x2, .int .u64 x3, .int .u64 x4, .int .u64 x5] 37)) 38 #[.bool false, .bool false, .bool false, .bool false, .bool false, .bool false, .bool false, .bool false]
  have hB := ((Below.refl w.heap.size w).alloc (Nat.le_refl _) (.cells #[.int .u64 x0, .int .u64 x1, .int .u64 x2, .int .u64 x3, .int .u64 x4, .int .u64 x5] 37)).alloc (by simp) (.cells #[.bool false, .bool false, .bool false, .bool false, .bool false, .bool false, .bool false, .bool false] 38)
  simp only [World.size_alloc] at hI
  have HA0 := Lib.hid hA
  have HI0 := Lib.hid hI
  have HB0 := Lib.hid hB
  clear hA hI hB hE hx hj
  go_enter Tryd.func4, Tryd.ntmps4
  go_wp2
  go_loopg [9] 7 (fun gg s9 wr => ∃ kk : Nat, 1 ≤ kk ∧ kk ≤ 7 ∧ 7 - kk ≤ gg ∧ s9 = .int .i64 kk ∧ Hid (Blk wr w.heap.size 37 #[.int .u64 x0, .int .u64 x1, .int .u64 x2, .int .u64 x3, .int .u64 x4, .int .u64 x5]) ∧ Hid (Blk wr (w.heap.size + 1) 38 (isCells v xv kk)) ∧ Hid (Below w.heap.size w wr))
  case atStart => exact ⟨1, by omega, by omega, by omega, rfl, HA0, HI0, HB0⟩
  case round =>
    obtain ⟨kk, hk1, hk7, hg, rfl, HA, HI, HB⟩ := hrel
    by_cases hlt : kk < 7
    · have : kk = 1 ∨ kk = 2 ∨ kk = 3 ∨ kk = 4 ∨ kk = 5 ∨ kk = 6 := by omega
      have c0 := HA.out.cell 0
      have c1 := HA.out.cell 1
      have c2 := HA.out.cell 2
      have c3 := HA.out.cell 3
      have c4 := HA.out.cell 4
      have c5 := HA.out.cell 5
      simp only [List.getElem?_toArray, List.getElem?_cons_zero, List.getElem?_cons_succ] at c0 c1 c2 c3 c4 c5
      rcases this with rfl | rfl | rfl | rfl | rfl | rfl
      · go_wp2_with fail
        refine (HH.out 1 (by decide) _).mono ?_
        rintro e w2 ⟨rfl, hb2⟩
        have HA2 := blkB HA hb2
        have HI2 : Hid (Blk w2 (w.heap.size + 1) 38 #[.bool false, .bool false, .bool false, .bool false, .bool false, .bool false, .bool false, .bool false]) := blkB HI hb2
        have HB2 := belB HB hb2
        have fz := HI2.out.frozen 1
        have cz := HI2.out.cell 1
        simp at cz
        clear hb2 HA HI HB c0 c1 c2 c3 c4 c5
        go_wp2
        go_roundg (7 - 2)
        case measure => omega
        case rel => exact ⟨2, by omega, by omega, by omega, rfl, HA2.out.other (by omega) _ _, HI2.out.set 1 _, HB2.out.setCell (p := ⟨w.heap.size + 1, 1, none⟩) (by simp) _⟩
      · go_wp2_with fail
        refine (HH.out 2 (by decide) _).mono ?_
        rintro e w2 ⟨rfl, hb2⟩
        have HA2 := blkB HA hb2
        have HI2 : Hid (Blk w2 (w.heap.size + 1) 38 #[.bool false, .bool (opHolds 1 0 v xv), .bool false, .bool false, .bool false, .bool false, .bool false, .bool false]) := blkB HI hb2
        have HB2 := belB HB hb2
        have fz := HI2.out.frozen 2
        have cz := HI2.out.cell 2
        simp at cz
        clear hb2 HA HI HB c0 c1 c2 c3 c4 c5
        go_wp2
        go_roundg (7 - 3)
        case measure => omega
        case rel => exact ⟨3, by omega, by omega, by omega, rfl, HA2.out.other (by omega) _ _, HI2.out.set 2 _, HB2.out.setCell (p := ⟨w.heap.size + 1, 2, none⟩) (by simp) _⟩
      · go_wp2_with fail
        refine (HH.out 3 (by decide) _).mono ?_
        rintro e w2 ⟨rfl, hb2⟩
        have HA2 := blkB HA hb2
        have HI2 : Hid (Blk w2 (w.heap.size + 1) 38 #[.bool false, .bool (opHolds 1 0 v xv), .bool (opHolds 2 0 v xv), .bool false, .bool false, .bool false, .bool false, .bool false]) := blkB HI hb2
        have HB2 := belB HB hb2
        have fz := HI2.out.frozen 3
        have cz := HI2.out.cell 3
        simp at cz
        clear hb2 HA HI HB c0 c1 c2 c3 c4 c5
        go_wp2
        go_roundg (7 - 4)
        case measure => omega
        case rel => exact ⟨4, by omega, by omega, by omega, rfl, HA2.out.other (by omega) _ _, HI2.out.set 3 _, HB2.out.setCell (p := ⟨w.heap.size + 1, 3, none⟩) (by simp) _⟩
      · go_wp2_with fail
        refine (HH.out 4 (by decide) _).mono ?_
        rintro e w2 ⟨rfl, hb2⟩
        have HA2 := blkB HA hb2
        have HI2 : Hid (Blk w2 (w.heap.size + 1) 38 #[.bool false, .bool (opHolds 1 0 v xv), .bool (opHolds 2 0 v xv), .bool (opHolds 3 0 v xv), .bool false, .bool false, .bool false, .bool false]) := blkB HI hb2
        have HB2 := belB HB hb2
        have fz := HI2.out.frozen 4
        have cz := HI2.out.cell 4
        simp at cz
        clear hb2 HA HI HB c0 c1 c2 c3 c4 c5
        go_wp2
        go_roundg (7 - 5)
        case measure => omega
        case rel => exact ⟨5, by omega, by omega, by omega, rfl, HA2.out.other (by omega) _ _, HI2.out.set 4 _, HB2.out.setCell (p := ⟨w.heap.size + 1, 4, none⟩) (by simp) _⟩
      · go_wp2_with fail
        refine (HH.out 5 (by decide) _).mono ?_
        rintro e w2 ⟨rfl, hb2⟩
        have HA2 := blkB HA hb2
        have HI2 : Hid (Blk w2 (w.heap.size + 1) 38 #[.bool false, .bool (opHolds 1 0 v xv), .bool (opHolds 2 0 v xv), .bool (opHolds 3 0 v xv), .bool (opHolds 4 0 v xv), .bool false, .bool false, .bool false]) := blkB HI hb2
        have HB2 := belB HB hb2
        have fz := HI2.out.frozen 5
        have cz := HI2.out.cell 5
        simp at cz
        clear hb2 HA HI HB c0 c1 c2 c3 c4 c5
        go_wp2
        go_roundg (7 - 6)
        case measure => omega
        case rel => exact ⟨6, by omega, by omega, by omega, rfl, HA2.out.other (by omega) _ _, HI2.out.set 5 _, HB2.out.setCell (p := ⟨w.heap.size + 1, 5, none⟩) (by simp) _⟩
      · go_wp2_with fail
        refine (HH.out 6 (by decide) _).mono ?_
        rintro e w2 ⟨rfl, hb2⟩
        have HA2 := blkB HA hb2
        have HI2 : Hid (Blk w2 (w.heap.size + 1) 38 #[.bool false, .bool (opHolds 1 0 v xv), .bool (opHolds 2 0 v xv), .bool (opHolds 3 0 v xv), .bool (opHolds 4 0 v xv), .bool (opHolds 5 0 v xv), .bool false, .bool false]) := blkB HI hb2
        have HB2 := belB HB hb2
        have fz := HI2.out.frozen 6
        have cz := HI2.out.cell 6
        simp at cz
        clear hb2 HA HI HB c0 c1 c2 c3 c4 c5
        go_wp2
        go_roundg (7 - 7)
        case measure => omega
        case rel => exact ⟨7, by omega, by omega, by omega, rfl, HA2.out.other (by omega) _ _, HI2.out.set 6 _, HB2.out.setCell (p := ⟨w.heap.size + 1, 6, none⟩) (by simp) _⟩
    · obtain rfl : kk = 7 := by omega
      have HI7 : Hid (Blk wr (w.heap.size + 1) 38 #[.bool false, .bool (opHolds 1 0 v xv), .bool (opHolds 2 0 v xv), .bool (opHolds 3 0 v xv), .bool (opHolds 4 0 v xv), .bool (opHolds 5 0 v xv), .bool (opHolds 6 0 v xv), .bool false]) := HI
      have hc : xv < v ∨ xv = v ∨ v < xv := by omega
      have HAW := Lib.hid (fun W (hW : ErrV W) => awake10_any W hW)
      rcases hc with hc | hc | hc
      · have HI8 : Hid (Blk wr (w.heap.size + 1) 38 #[.bool false, .bool false, .bool true, .bool true, .bool true, .bool false, .bool false, .bool false]) := by
          have h := HI7.out
          rw [show opHolds 1 0 v xv = false by simp [opHolds]; omega, show opHolds 2 0 v xv = true by simp [opHolds]; omega, show opHolds 3 0 v xv = true by simp [opHolds]; omega, show opHolds 4 0 v xv = true by simp [opHolds]; omega, show opHolds 5 0 v xv = false by simp [opHolds]; omega, show opHolds 6 0 v xv = false by simp [opHolds]; omega] at h
          exact h
        have b1 := HI8.out.cell 1
        have b2 := HI8.out.cell 2
        have b3 := HI8.out.cell 3
        have b4 := HI8.out.cell 4
        have b5 := HI8.out.cell 5
        have b6 := HI8.out.cell 6
        simp only [List.getElem?_toArray, List.getElem?_cons_zero, List.getElem?_cons_succ] at b1 b2 b3 b4 b5 b6
        have HEr := Lib.hid (HE.out.below HB.out)
        clear HI7 HI8 HI hc HH
        go_wp2_with fail
        refine (HAW.out _ HEr.out).mono ?_
        rintro e w2 ⟨rfl, hb2⟩
        go_wp2
        go_ret
        exact ⟨rfl, HB.out.trans (hb2.mono HB.out.size)⟩
      · have HI8 : Hid (Blk wr (w.heap.size + 1) 38 #[.bool false, .bool true, .bool false, .bool false, .bool true, .bool false, .bool true, .bool false]) := by
          have h := HI7.out
          rw [show opHolds 1 0 v xv = true by simp [opHolds, hc], show opHolds 2 0 v xv = false by simp [opHolds, hc], show opHolds 3 0 v xv = false by simp [opHolds, hc], show opHolds 4 0 v xv = true by simp [opHolds, hc], show opHolds 5 0 v xv = false by simp [opHolds, hc], show opHolds 6 0 v xv = true by simp [opHolds, hc]] at h
          exact h
        have b1 := HI8.out.cell 1
        have b2 := HI8.out.cell 2
        have b3 := HI8.out.cell 3
        have b4 := HI8.out.cell 4
        have b5 := HI8.out.cell 5
        have b6 := HI8.out.cell 6
        simp only [List.getElem?_toArray, List.getElem?_cons_zero, List.getElem?_cons_succ] at b1 b2 b3 b4 b5 b6
        have HEr := Lib.hid (HE.out.below HB.out)
        clear HI7 HI8 HI hc HH
        go_wp2_with fail
        refine (HAW.out _ HEr.out).mono ?_
        rintro e w2 ⟨rfl, hb2⟩
        go_wp2
        go_ret
        exact ⟨rfl, HB.out.trans (hb2.mono HB.out.size)⟩
      · have HI8 : Hid (Blk wr (w.heap.size + 1) 38 #[.bool false, .bool false, .bool true, .bool false, .bool false, .bool true, .bool true, .bool false]) := by
          have h := HI7.out
          rw [show opHolds 1 0 v xv = false by simp [opHolds]; omega, show opHolds 2 0 v xv = true by simp [opHolds]; omega, show opHolds 3 0 v xv = false by simp [opHolds]; omega, show opHolds 4 0 v xv = false by simp [opHolds]; omega, show opHolds 5 0 v xv = true by simp [opHolds]; omega, show opHolds 6 0 v xv = true by simp [opHolds]; omega] at h
          exact h
        have b1 := HI8.out.cell 1
        have b2 := HI8.out.cell 2
        have b3 := HI8.out.cell 3
        have b4 := HI8.out.cell 4
        have b5 := HI8.out.cell 5
        have b6 := HI8.out.cell 6
        simp only [List.getElem?_toArray, List.getElem?_cons_zero, List.getElem?_cons_succ] at b1 b2 b3 b4 b5 b6
        have HEr := Lib.hid (HE.out.below HB.out)
        clear HI7 HI8 HI hc HH
        go_wp2_with fail
        refine (HAW.out _ HEr.out).mono ?_
        rintro e w2 ⟨rfl, hb2⟩
        go_wp2
        go_ret
        exact ⟨rfl, HB.out.trans (hb2.mono HB.out.size)⟩
end Go.Proofs.YtlmobmbglninkaaDoor
