/- CondMasks: the law's walk. -/
import Derived.Test.YtlmobmbglninkaaDoorCondAwake
import Derived.Test.YtlmobmbglninkaaDoorCondMaskP
import Derived.BigRegion
namespace Go.Proofs.YtlmobmbglninkaaDoor
open Go Go.Proofs Go.RowKit

theorem arrCell {W : World} {B : Nat} {x0 x1 x2 x3 x4 x5 xv : Int} (h : Blk W B 37 #[.int .u64 x0, .int .u64 x1, .int .u64 x2, .int .u64 x3, .int .u64 x4, .int .u64 x5]) (j : Nat) (hj : j ≤ 5) (hx : [x0, x1, x2, x3, x4, x5][j]? = some xv) : W.cell? ⟨B, j, none⟩ = some (.int .u64 xv) := by
  rw [h.cell j]
  match j, hj, hx with
  | 0, _, hx => simp at hx; subst hx; rfl
  | 1, _, hx => simp at hx; subst hx; rfl
  | 2, _, hx => simp at hx; subst hx; rfl
  | 3, _, hx => simp at hx; subst hx; rfl
  | 4, _, hx => simp at hx; subst hx; rfl
  | 5, _, hx => simp at hx; subst hx; rfl

set_option maxRecDepth 100000 in
set_option maxHeartbeats 4000000 in
theorem mask_any (ar m v x0 x1 x2 x3 x4 x5 : Int) (har : 0 ≤ ar ∧ ar < 256) (hb : ∀ x ∈ [x0, x1, x2, x3, x4, x5], 0 ≤ x ∧ x < 18446744073709551616) (w : World) (hE : ErrV w) :
    Calls Tryd.prog 5 #[.agg #[.int .u8 ar, .int .u64 m, .int .u64 v, .int .u64 x0, .int .u64 x1, .int .u64 x2, .int .u64 x3, .int .u64 x4, .int .u64 x5]] w fun e w' => e = .returned (.bool true) ∧ Below w.heap.size w w' := by
  obtain ⟨j, hj, hj6⟩ : ∃ j : Nat, (j : Int) = ar % 6 ∧ j ≤ 5 := ⟨(ar % 6).toNat, by omega, by omega⟩
  obtain ⟨xv, hx⟩ : ∃ xv, [x0, x1, x2, x3, x4, x5][j]? = some xv := ⟨_, List.getElem?_eq_getElem (show j < 6 by omega)⟩
  obtain ⟨hx0, hx1⟩ := hb xv (List.mem_of_getElem? hx)
  have HH := Lib.hid (fun (k : Int) W => holds_any j hj6 7 k v x0 x1 x2 x3 x4 x5 xv (by decide) hx (.inl rfl) W)
  have HX := Lib.hid hx
  have HE := Lib.hid hE
  have hrem : ar.tmod 6 = (j : Int) := by rw [hj, Int.tmod_eq_emod_of_nonneg har.1]
  have HM := Lib.hid (Blk.new w 42 #[.int .u8 ar, .int .u64 m, .int .u64 v, .int .u64 x0, .int .u64 x1, .int .u64 x2, .int .u64 x3, .int .u64 x4, .int .u64 x5])
  have HB0 := Lib.hid (((Below.refl w.heap.size w).alloc (Nat.le_refl _) (.cells #[.int .u8 ar, .int .u64 m, .int .u64 v, .int .u64 x0, .int .u64 x1, .int .u64 x2, .int .u64 x3, .int .u64 x4, .int .u64 x5] 42)).alloc (by simp) (.cells #[.int .u64 x0, .int .u64 x1, .int .u64 x2, .int .u64 x3, .int .u64 x4, .int .u64 x5] 37))
  have HA0 : Hid (Blk ((w.alloc (.cells #[.int .u8 ar, .int .u64 m, .int .u64 v, .int .u64 x0, .int .u64 x1, .int .u64 x2, .int .u64 x3, .int .u64 x4, .int .u64 x5] 42)).alloc (.cells #[.int .u64 x0, .int .u64 x1, .int .u64 x2, .int .u64 x3, .int .u64 x4, .int .u64 x5] 37)) (w.heap.size + 1) 37 #[.int .u64 x0, .int .u64 x1, .int .u64 x2, .int .u64 x3, .int .u64 x4, .int .u64 x5]) := by
    have h := Blk.new (w.alloc (.cells #[.int .u8 ar, .int .u64 m, .int .u64 v, .int .u64 x0, .int .u64 x1, .int .u64 x2, .int .u64 x3, .int .u64 x4, .int .u64 x5] 42)) 37 #[.int .u64 x0, .int .u64 x1, .int .u64 x2, .int .u64 x3, .int .u64 x4, .int .u64 x5]
    simp only [World.size_alloc] at h
    exact h
  have z0 := HM.out.cell 0
  have z1 := HM.out.cell 1
  have z2 := HM.out.cell 2
  have z3 := HM.out.cell 3
  have z4 := HM.out.cell 4
  have z5 := HM.out.cell 5
  have z6 := HM.out.cell 6
  have z7 := HM.out.cell 7
  have z8 := HM.out.cell 8
  simp only [List.getElem?_toArray, List.getElem?_cons_zero, List.getElem?_cons_succ] at z0 z1 z2 z3 z4 z5 z6 z7 z8
  clear hE hx hb hj
  go_enter Tryd.func5, Tryd.ntmps5
  go_wp2
  go_region
  have HA : Hid (Blk (((w.alloc (.cells #[.int .u8 ar, .int .u64 m, .int .u64 v, .int .u64 x0, .int .u64 x1, .int .u64 x2, .int .u64 x3, .int .u64 x4, .int .u64 x5] 42)).alloc (.cells #[.int .u64 x0, .int .u64 x1, .int .u64 x2, .int .u64 x3, .int .u64 x4, .int .u64 x5] 37)).drew) (w.heap.size + 1) 37 #[.int .u64 x0, .int .u64 x1, .int .u64 x2, .int .u64 x3, .int .u64 x4, .int .u64 x5]) := Lib.hid HA0.out
  have HB : Hid (Below w.heap.size w (((w.alloc (.cells #[.int .u8 ar, .int .u64 m, .int .u64 v, .int .u64 x0, .int .u64 x1, .int .u64 x2, .int .u64 x3, .int .u64 x4, .int .u64 x5] 42)).alloc (.cells #[.int .u64 x0, .int .u64 x1, .int .u64 x2, .int .u64 x3, .int .u64 x4, .int .u64 x5] 37)).drew)) := Lib.hid ⟨HB0.out.os, HB0.out.tape, HB0.out.output, HB0.out.size, HB0.out.block⟩
  clear HA0 HB0 HM z0 z1 z2 z3 z4 z5 z6 z7 z8
  generalize ((w.alloc (.cells #[.int .u8 ar, .int .u64 m, .int .u64 v, .int .u64 x0, .int .u64 x1, .int .u64 x2, .int .u64 x3, .int .u64 x4, .int .u64 x5] 42)).alloc (.cells #[.int .u64 x0, .int .u64 x1, .int .u64 x2, .int .u64 x3, .int .u64 x4, .int .u64 x5] 37)).drew = W1 at *
  have c0 := HA.out.cell 0
  have c1 := HA.out.cell 1
  have c2 := HA.out.cell 2
  have c3 := HA.out.cell 3
  have c4 := HA.out.cell 4
  have c5 := HA.out.cell 5
  simp only [List.getElem?_toArray, List.getElem?_cons_zero, List.getElem?_cons_succ] at c0 c1 c2 c3 c4 c5
  go_wp2_with fail
  refine (HH.out 18446744073709551615 _).mono ?_
  rintro e w2 ⟨rfl, hb2⟩
  have HA2 := blkB HA hb2
  have HB2 := belB HB hb2
  clear hb2 c0 c1 c2 c3 c4 c5 HA HB
  have c0 := HA2.out.cell 0
  have c1 := HA2.out.cell 1
  have c2 := HA2.out.cell 2
  have c3 := HA2.out.cell 3
  have c4 := HA2.out.cell 4
  have c5 := HA2.out.cell 5
  simp only [List.getElem?_toArray, List.getElem?_cons_zero, List.getElem?_cons_succ] at c0 c1 c2 c3 c4 c5
  go_wp2_with fail
  refine (HH.out 0 _).mono ?_
  rintro e w3 ⟨rfl, hb3⟩
  have HA3 := blkB HA2 hb3
  have HB3 := belB HB2 hb3
  clear hb3 c0 c1 c2 c3 c4 c5 HA2 HB2
  have c0 := HA3.out.cell 0
  have c1 := HA3.out.cell 1
  have c2 := HA3.out.cell 2
  have c3 := HA3.out.cell 3
  have c4 := HA3.out.cell 4
  have c5 := HA3.out.cell 5
  simp only [List.getElem?_toArray, List.getElem?_cons_zero, List.getElem?_cons_succ] at c0 c1 c2 c3 c4 c5
  go_wp2_with fail
  refine (HH.out m _).mono ?_
  rintro e w4 ⟨rfl, hb4⟩
  have HA4 := blkB HA3 hb4
  have HB4 := belB HB3 hb4
  have cj := arrCell HA4.out j hj6 HX.out
  have j0 : (0 : Int) ≤ (j : Int) := by omega
  have j6 : (j : Int) < 6 := by omega
  have HAW := Lib.hid (fun W (hW : ErrV W) => awake10_any W hW)
  have HEr := Lib.hid (HE.out.below HB4.out)
  clear hb4 c0 c1 c2 c3 c4 c5 HA3 HB3 HA4
  have e1 : opHolds 7 18446744073709551615 v xv = (xv == v) := by
    show (bits .and .u64 xv 18446744073709551615 == v) = _
    rw [and_all xv hx0 hx1]
  have e2 : opHolds 7 0 v xv = (v == 0) := by
    show (bits .and .u64 xv 0 == v) = _
    rw [and_none xv hx0 hx1]
    by_cases h : v = 0
    · subst h; rfl
    · rw [show (0 == v) = false by simpa using fun e => h e.symm, show (v == 0) = false by simpa using h]
  have e3 : bits .andNot .u64 v m = 0 ∨ (¬ bits .andNot .u64 v m = 0 ∧ opHolds 7 m v xv = false) := by
    by_cases h : bits .andNot .u64 v m = 0
    · exact .inl h
    · refine .inr ⟨h, ?_⟩
      show (bits .and .u64 xv m == v) = false
      have h2 : ¬ bits .and .u64 xv m = v := fun e => h (beside xv m v e)
      simpa using h2
  rw [e1, e2]
  clear e1 e2 HH
  go_upto_region 6 with fail
  generalize opHolds 7 m v xv = q at *
  generalize hbn : bits .andNot .u64 v m = bn at *
  by_cases h0 : v = 0
  · subst h0
    by_cases hxv : xv = 0
    · subst hxv
      rcases e3 with rfl | ⟨hb, rfl⟩
      · skip
        go_wp2_with fail
        refine (HAW.out _ HEr.out).mono ?_
        rintro e w5 ⟨rfl, hb5⟩
        go_wp2
        go_ret
        exact ⟨rfl, HB4.out.trans (hb5.mono HB4.out.size)⟩
      · have hbb : (bn == 0) = false := by simpa using hb
        go_wp2_with fail
        refine (HAW.out _ HEr.out).mono ?_
        rintro e w5 ⟨rfl, hb5⟩
        go_wp2
        go_ret
        exact ⟨rfl, HB4.out.trans (hb5.mono HB4.out.size)⟩
    · have hxb : (xv == 0) = false := by simpa using hxv
      rcases e3 with rfl | ⟨hb, rfl⟩
      · skip
        go_wp2_with fail
        refine (HAW.out _ HEr.out).mono ?_
        rintro e w5 ⟨rfl, hb5⟩
        go_wp2
        go_ret
        exact ⟨rfl, HB4.out.trans (hb5.mono HB4.out.size)⟩
      · have hbb : (bn == 0) = false := by simpa using hb
        go_wp2_with fail
        refine (HAW.out _ HEr.out).mono ?_
        rintro e w5 ⟨rfl, hb5⟩
        go_wp2
        go_ret
        exact ⟨rfl, HB4.out.trans (hb5.mono HB4.out.size)⟩
  · have h0b : (v == 0) = false := by simpa using h0
    by_cases hxv : xv = v
    · subst hxv
      rcases e3 with rfl | ⟨hb, rfl⟩
      · skip
        go_wp2_with fail
        refine (HAW.out _ HEr.out).mono ?_
        rintro e w5 ⟨rfl, hb5⟩
        go_wp2
        go_ret
        exact ⟨rfl, HB4.out.trans (hb5.mono HB4.out.size)⟩
      · have hbb : (bn == 0) = false := by simpa using hb
        go_wp2_with fail
        refine (HAW.out _ HEr.out).mono ?_
        rintro e w5 ⟨rfl, hb5⟩
        go_wp2
        go_ret
        exact ⟨rfl, HB4.out.trans (hb5.mono HB4.out.size)⟩
    · have hxb : (xv == v) = false := by simpa using hxv
      rcases e3 with rfl | ⟨hb, rfl⟩
      · skip
        go_wp2_with fail
        refine (HAW.out _ HEr.out).mono ?_
        rintro e w5 ⟨rfl, hb5⟩
        go_wp2
        go_ret
        exact ⟨rfl, HB4.out.trans (hb5.mono HB4.out.size)⟩
      · have hbb : (bn == 0) = false := by simpa using hb
        go_wp2_with fail
        refine (HAW.out _ HEr.out).mono ?_
        rintro e w5 ⟨rfl, hb5⟩
        go_wp2
        go_ret
        exact ⟨rfl, HB4.out.trans (hb5.mono HB4.out.size)⟩
end Go.Proofs.YtlmobmbglninkaaDoor
