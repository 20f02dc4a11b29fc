/- CondGrows: the law's walk. -/
import Derived.Test.YtlmobmbglninkaaDoorCondAwake
import Derived.Deep.LoopGhost
namespace Go.Proofs.YtlmobmbglninkaaDoor
open Go Go.Proofs Go.RowKit

theorem grows_up {k v w x : Int} (hk : k = 3 ∨ k = 4) (h : v ≤ w) (hb : opHolds k 0 v x = true) : opHolds k 0 w x = true := by
  rcases hk with rfl | rfl
  · simp [opHolds] at hb ⊢; omega
  · simp [opHolds] at hb ⊢; omega
theorem grows_down {k v w x : Int} (hk : k = 5 ∨ k = 6) (h : v ≤ w) (hb : opHolds k 0 w x = true) : opHolds k 0 v x = true := by
  rcases hk with rfl | rfl
  · simp [opHolds] at hb ⊢; omega
  · simp [opHolds] at hb ⊢; omega

set_option maxRecDepth 100000 in
set_option maxHeartbeats 4000000 in
theorem grow_any (v u x0 x1 x2 x3 x4 x5 : Int) (w : World) (hE : ErrV w) :
    Calls Tryd.prog 7 #[.int .u64 v, .int .u64 u, .agg #[.int .u64 x0, .int .u64 x1, .int .u64 x2, .int .u64 x3, .int .u64 x4, .int .u64 x5]] w fun e w' => e = .returned (.bool true) ∧ Below w.heap.size w w' := by
  have HH := Lib.hid (fun (k : Int) (hk : 1 ≤ k ∧ k ≤ 7) (y : Int) W => holds_any 0 (by decide) k 0 y x0 x1 x2 x3 x4 x5 x0 hk rfl (.inr rfl) W)
  have HE := Lib.hid hE
  have HA0 := Lib.hid (Blk.new w 37 #[.int .u64 x0, .int .u64 x1, .int .u64 x2, .int .u64 x3, .int .u64 x4, .int .u64 x5])
  have HB0 := Lib.hid ((Below.refl w.heap.size w).alloc (Nat.le_refl _) (.cells #[.int .u64 x0, .int .u64 x1, .int .u64 x2, .int .u64 x3, .int .u64 x4, .int .u64 x5] 37))
  clear hE
  by_cases hvw : u < v
  · have hle := Lib.hid (show u ≤ v by omega)
    go_enter Tryd.func7, Tryd.ntmps7
    go_wp2
    go_loopg [7] 2 (fun gg s7 wr => ∃ kk : Nat, 3 ≤ kk ∧ kk ≤ 5 ∧ 5 - kk ≤ gg ∧ s7 = .int .i64 kk ∧ Hid (Blk wr w.heap.size 37 #[.int .u64 x0, .int .u64 x1, .int .u64 x2, .int .u64 x3, .int .u64 x4, .int .u64 x5]) ∧ Hid (Below w.heap.size w wr))
    case atStart => exact ⟨3, by omega, by omega, by omega, rfl, HA0, HB0⟩
    case round =>
      obtain ⟨kk, hk1, hk7, hg, rfl, HA, HB⟩ := hrel
      have : kk = 3 ∨ kk = 4 ∨ kk = 5 := by omega
      rcases this with rfl | rfl | rfl
      · cases hb : opHolds 3 0 u x0
        · cases hc : opHolds 5 0 v x0
          · skip
            have h1 := fun Wd => HH.out 3 (by decide) u Wd
            rw [hb] at h1
            have H1 := Lib.hid h1
            clear h1
            have h3 := fun Wd => HH.out 5 (by decide) v Wd
            rw [hc] at h3
            have H3 := Lib.hid h3
            clear h3
            clear hb hc
            have c0 := HA.out.cell 0
            have c1 := HA.out.cell 1
            have c2 := HA.out.cell 2
            have c3 := HA.out.cell 3
            have c4 := HA.out.cell 4
            have c5 := HA.out.cell 5
            simp only [List.getElem?_toArray, List.getElem?_cons_zero, List.getElem?_cons_succ] at c0 c1 c2 c3 c4 c5
            go_wp2_with fail
            refine (H1.out _).mono ?_
            rintro e w2 ⟨rfl, hb2⟩
            have HA2 := blkB HA hb2
            have HB2 := belB HB hb2
            clear hb2 c0 c1 c2 c3 c4 c5
            have c0 := HA2.out.cell 0
            have c1 := HA2.out.cell 1
            have c2 := HA2.out.cell 2
            have c3 := HA2.out.cell 3
            have c4 := HA2.out.cell 4
            have c5 := HA2.out.cell 5
            simp only [List.getElem?_toArray, List.getElem?_cons_zero, List.getElem?_cons_succ] at c0 c1 c2 c3 c4 c5
            go_wp2_with fail
            refine (H3.out _).mono ?_
            rintro e w3 ⟨rfl, hb3⟩
            have HA3 := blkB HA2 hb3
            have HB3 := belB HB2 hb3
            clear hb3 c0 c1 c2 c3 c4 c5
            go_wp2
            go_roundg (5 - 4)
            case measure => omega
            case rel => exact ⟨4, by omega, by omega, by omega, by first | rfl | go_num, HA3, HB3⟩
          · skip
            have h1 := fun Wd => HH.out 3 (by decide) u Wd
            rw [hb] at h1
            have H1 := Lib.hid h1
            clear h1
            have h3 := fun Wd => HH.out 5 (by decide) v Wd
            rw [hc] at h3
            have H3 := Lib.hid h3
            clear h3
            have h4 := fun Wd => HH.out 5 (by decide) u Wd
            rw [show opHolds 5 0 u x0 = true from grows_down (by decide) hle.out hc] at h4
            have H4 := Lib.hid h4
            clear h4
            clear hb hc
            have c0 := HA.out.cell 0
            have c1 := HA.out.cell 1
            have c2 := HA.out.cell 2
            have c3 := HA.out.cell 3
            have c4 := HA.out.cell 4
            have c5 := HA.out.cell 5
            simp only [List.getElem?_toArray, List.getElem?_cons_zero, List.getElem?_cons_succ] at c0 c1 c2 c3 c4 c5
            go_wp2_with fail
            refine (H1.out _).mono ?_
            rintro e w2 ⟨rfl, hb2⟩
            have HA2 := blkB HA hb2
            have HB2 := belB HB hb2
            clear hb2 c0 c1 c2 c3 c4 c5
            have c0 := HA2.out.cell 0
            have c1 := HA2.out.cell 1
            have c2 := HA2.out.cell 2
            have c3 := HA2.out.cell 3
            have c4 := HA2.out.cell 4
            have c5 := HA2.out.cell 5
            simp only [List.getElem?_toArray, List.getElem?_cons_zero, List.getElem?_cons_succ] at c0 c1 c2 c3 c4 c5
            go_wp2_with fail
            refine (H3.out _).mono ?_
            rintro e w3 ⟨rfl, hb3⟩
            have HA3 := blkB HA2 hb3
            have HB3 := belB HB2 hb3
            clear hb3 c0 c1 c2 c3 c4 c5
            have c0 := HA3.out.cell 0
            have c1 := HA3.out.cell 1
            have c2 := HA3.out.cell 2
            have c3 := HA3.out.cell 3
            have c4 := HA3.out.cell 4
            have c5 := HA3.out.cell 5
            simp only [List.getElem?_toArray, List.getElem?_cons_zero, List.getElem?_cons_succ] at c0 c1 c2 c3 c4 c5
            go_wp2_with fail
            refine (H4.out _).mono ?_
            rintro e w4 ⟨rfl, hb4⟩
            have HA4 := blkB HA3 hb4
            have HB4 := belB HB3 hb4
            clear hb4 c0 c1 c2 c3 c4 c5
            go_wp2
            go_roundg (5 - 4)
            case measure => omega
            case rel => exact ⟨4, by omega, by omega, by omega, by first | rfl | go_num, HA4, HB4⟩
        · cases hc : opHolds 5 0 v x0
          · skip
            have h1 := fun Wd => HH.out 3 (by decide) u Wd
            rw [hb] at h1
            have H1 := Lib.hid h1
            clear h1
            have h3 := fun Wd => HH.out 5 (by decide) v Wd
            rw [hc] at h3
            have H3 := Lib.hid h3
            clear h3
            have h2 := fun Wd => HH.out 3 (by decide) v Wd
            rw [show opHolds 3 0 v x0 = true from grows_up (by decide) hle.out hb] at h2
            have H2 := Lib.hid h2
            clear h2
            clear hb hc
            have c0 := HA.out.cell 0
            have c1 := HA.out.cell 1
            have c2 := HA.out.cell 2
            have c3 := HA.out.cell 3
            have c4 := HA.out.cell 4
            have c5 := HA.out.cell 5
            simp only [List.getElem?_toArray, List.getElem?_cons_zero, List.getElem?_cons_succ] at c0 c1 c2 c3 c4 c5
            go_wp2_with fail
            refine (H1.out _).mono ?_
            rintro e w2 ⟨rfl, hb2⟩
            have HA2 := blkB HA hb2
            have HB2 := belB HB hb2
            clear hb2 c0 c1 c2 c3 c4 c5
            have c0 := HA2.out.cell 0
            have c1 := HA2.out.cell 1
            have c2 := HA2.out.cell 2
            have c3 := HA2.out.cell 3
            have c4 := HA2.out.cell 4
            have c5 := HA2.out.cell 5
            simp only [List.getElem?_toArray, List.getElem?_cons_zero, List.getElem?_cons_succ] at c0 c1 c2 c3 c4 c5
            go_wp2_with fail
            refine (H2.out _).mono ?_
            rintro e w3 ⟨rfl, hb3⟩
            have HA3 := blkB HA2 hb3
            have HB3 := belB HB2 hb3
            clear hb3 c0 c1 c2 c3 c4 c5
            have c0 := HA3.out.cell 0
            have c1 := HA3.out.cell 1
            have c2 := HA3.out.cell 2
            have c3 := HA3.out.cell 3
            have c4 := HA3.out.cell 4
            have c5 := HA3.out.cell 5
            simp only [List.getElem?_toArray, List.getElem?_cons_zero, List.getElem?_cons_succ] at c0 c1 c2 c3 c4 c5
            go_wp2_with fail
            refine (H3.out _).mono ?_
            rintro e w4 ⟨rfl, hb4⟩
            have HA4 := blkB HA3 hb4
            have HB4 := belB HB3 hb4
            clear hb4 c0 c1 c2 c3 c4 c5
            go_wp2
            go_roundg (5 - 4)
            case measure => omega
            case rel => exact ⟨4, by omega, by omega, by omega, by first | rfl | go_num, HA4, HB4⟩
          · skip
            have h1 := fun Wd => HH.out 3 (by decide) u Wd
            rw [hb] at h1
            have H1 := Lib.hid h1
            clear h1
            have h3 := fun Wd => HH.out 5 (by decide) v Wd
            rw [hc] at h3
            have H3 := Lib.hid h3
            clear h3
            have h2 := fun Wd => HH.out 3 (by decide) v Wd
            rw [show opHolds 3 0 v x0 = true from grows_up (by decide) hle.out hb] at h2
            have H2 := Lib.hid h2
            clear h2
            have h4 := fun Wd => HH.out 5 (by decide) u Wd
            rw [show opHolds 5 0 u x0 = true from grows_down (by decide) hle.out hc] at h4
            have H4 := Lib.hid h4
            clear h4
            clear hb hc
            have c0 := HA.out.cell 0
            have c1 := HA.out.cell 1
            have c2 := HA.out.cell 2
            have c3 := HA.out.cell 3
            have c4 := HA.out.cell 4
            have c5 := HA.out.cell 5
            simp only [List.getElem?_toArray, List.getElem?_cons_zero, List.getElem?_cons_succ] at c0 c1 c2 c3 c4 c5
            go_wp2_with fail
            refine (H1.out _).mono ?_
            rintro e w2 ⟨rfl, hb2⟩
            have HA2 := blkB HA hb2
            have HB2 := belB HB hb2
            clear hb2 c0 c1 c2 c3 c4 c5
            have c0 := HA2.out.cell 0
            have c1 := HA2.out.cell 1
            have c2 := HA2.out.cell 2
            have c3 := HA2.out.cell 3
            have c4 := HA2.out.cell 4
            have c5 := HA2.out.cell 5
            simp only [List.getElem?_toArray, List.getElem?_cons_zero, List.getElem?_cons_succ] at c0 c1 c2 c3 c4 c5
            go_wp2_with fail
            refine (H2.out _).mono ?_
            rintro e w3 ⟨rfl, hb3⟩
            have HA3 := blkB HA2 hb3
            have HB3 := belB HB2 hb3
            clear hb3 c0 c1 c2 c3 c4 c5
            have c0 := HA3.out.cell 0
            have c1 := HA3.out.cell 1
            have c2 := HA3.out.cell 2
            have c3 := HA3.out.cell 3
            have c4 := HA3.out.cell 4
            have c5 := HA3.out.cell 5
            simp only [List.getElem?_toArray, List.getElem?_cons_zero, List.getElem?_cons_succ] at c0 c1 c2 c3 c4 c5
            go_wp2_with fail
            refine (H3.out _).mono ?_
            rintro e w4 ⟨rfl, hb4⟩
            have HA4 := blkB HA3 hb4
            have HB4 := belB HB3 hb4
            clear hb4 c0 c1 c2 c3 c4 c5
            have c0 := HA4.out.cell 0
            have c1 := HA4.out.cell 1
            have c2 := HA4.out.cell 2
            have c3 := HA4.out.cell 3
            have c4 := HA4.out.cell 4
            have c5 := HA4.out.cell 5
            simp only [List.getElem?_toArray, List.getElem?_cons_zero, List.getElem?_cons_succ] at c0 c1 c2 c3 c4 c5
            go_wp2_with fail
            refine (H4.out _).mono ?_
            rintro e w5 ⟨rfl, hb5⟩
            have HA5 := blkB HA4 hb5
            have HB5 := belB HB4 hb5
            clear hb5 c0 c1 c2 c3 c4 c5
            go_wp2
            go_roundg (5 - 4)
            case measure => omega
            case rel => exact ⟨4, by omega, by omega, by omega, by first | rfl | go_num, HA5, HB5⟩
      · cases hb : opHolds 4 0 u x0
        · cases hc : opHolds 6 0 v x0
          · skip
            have h1 := fun Wd => HH.out 4 (by decide) u Wd
            rw [hb] at h1
            have H1 := Lib.hid h1
            clear h1
            have h3 := fun Wd => HH.out 6 (by decide) v Wd
            rw [hc] at h3
            have H3 := Lib.hid h3
            clear h3
            clear hb hc
            have c0 := HA.out.cell 0
            have c1 := HA.out.cell 1
            have c2 := HA.out.cell 2
            have c3 := HA.out.cell 3
            have c4 := HA.out.cell 4
            have c5 := HA.out.cell 5
            simp only [List.getElem?_toArray, List.getElem?_cons_zero, List.getElem?_cons_succ] at c0 c1 c2 c3 c4 c5
            go_wp2_with fail
            refine (H1.out _).mono ?_
            rintro e w2 ⟨rfl, hb2⟩
            have HA2 := blkB HA hb2
            have HB2 := belB HB hb2
            clear hb2 c0 c1 c2 c3 c4 c5
            have c0 := HA2.out.cell 0
            have c1 := HA2.out.cell 1
            have c2 := HA2.out.cell 2
            have c3 := HA2.out.cell 3
            have c4 := HA2.out.cell 4
            have c5 := HA2.out.cell 5
            simp only [List.getElem?_toArray, List.getElem?_cons_zero, List.getElem?_cons_succ] at c0 c1 c2 c3 c4 c5
            go_wp2_with fail
            refine (H3.out _).mono ?_
            rintro e w3 ⟨rfl, hb3⟩
            have HA3 := blkB HA2 hb3
            have HB3 := belB HB2 hb3
            clear hb3 c0 c1 c2 c3 c4 c5
            go_wp2
            go_roundg (5 - 5)
            case measure => omega
            case rel => exact ⟨5, by omega, by omega, by omega, by first | rfl | go_num, HA3, HB3⟩
          · skip
            have h1 := fun Wd => HH.out 4 (by decide) u Wd
            rw [hb] at h1
            have H1 := Lib.hid h1
            clear h1
            have h3 := fun Wd => HH.out 6 (by decide) v Wd
            rw [hc] at h3
            have H3 := Lib.hid h3
            clear h3
            have h4 := fun Wd => HH.out 6 (by decide) u Wd
            rw [show opHolds 6 0 u x0 = true from grows_down (by decide) hle.out hc] at h4
            have H4 := Lib.hid h4
            clear h4
            clear hb hc
            have c0 := HA.out.cell 0
            have c1 := HA.out.cell 1
            have c2 := HA.out.cell 2
            have c3 := HA.out.cell 3
            have c4 := HA.out.cell 4
            have c5 := HA.out.cell 5
            simp only [List.getElem?_toArray, List.getElem?_cons_zero, List.getElem?_cons_succ] at c0 c1 c2 c3 c4 c5
            go_wp2_with fail
            refine (H1.out _).mono ?_
            rintro e w2 ⟨rfl, hb2⟩
            have HA2 := blkB HA hb2
            have HB2 := belB HB hb2
            clear hb2 c0 c1 c2 c3 c4 c5
            have c0 := HA2.out.cell 0
            have c1 := HA2.out.cell 1
            have c2 := HA2.out.cell 2
            have c3 := HA2.out.cell 3
            have c4 := HA2.out.cell 4
            have c5 := HA2.out.cell 5
            simp only [List.getElem?_toArray, List.getElem?_cons_zero, List.getElem?_cons_succ] at c0 c1 c2 c3 c4 c5
            go_wp2_with fail
            refine (H3.out _).mono ?_
            rintro e w3 ⟨rfl, hb3⟩
            have HA3 := blkB HA2 hb3
            have HB3 := belB HB2 hb3
            clear hb3 c0 c1 c2 c3 c4 c5
            have c0 := HA3.out.cell 0
            have c1 := HA3.out.cell 1
            have c2 := HA3.out.cell 2
            have c3 := HA3.out.cell 3
            have c4 := HA3.out.cell 4
            have c5 := HA3.out.cell 5
            simp only [List.getElem?_toArray, List.getElem?_cons_zero, List.getElem?_cons_succ] at c0 c1 c2 c3 c4 c5
            go_wp2_with fail
            refine (H4.out _).mono ?_
            rintro e w4 ⟨rfl, hb4⟩
            have HA4 := blkB HA3 hb4
            have HB4 := belB HB3 hb4
            clear hb4 c0 c1 c2 c3 c4 c5
            go_wp2
            go_roundg (5 - 5)
            case measure => omega
            case rel => exact ⟨5, by omega, by omega, by omega, by first | rfl | go_num, HA4, HB4⟩
        · cases hc : opHolds 6 0 v x0
          · skip
            have h1 := fun Wd => HH.out 4 (by decide) u Wd
            rw [hb] at h1
            have H1 := Lib.hid h1
            clear h1
            have h3 := fun Wd => HH.out 6 (by decide) v Wd
            rw [hc] at h3
            have H3 := Lib.hid h3
            clear h3
            have h2 := fun Wd => HH.out 4 (by decide) v Wd
            rw [show opHolds 4 0 v x0 = true from grows_up (by decide) hle.out hb] at h2
            have H2 := Lib.hid h2
            clear h2
            clear hb hc
            have c0 := HA.out.cell 0
            have c1 := HA.out.cell 1
            have c2 := HA.out.cell 2
            have c3 := HA.out.cell 3
            have c4 := HA.out.cell 4
            have c5 := HA.out.cell 5
            simp only [List.getElem?_toArray, List.getElem?_cons_zero, List.getElem?_cons_succ] at c0 c1 c2 c3 c4 c5
            go_wp2_with fail
            refine (H1.out _).mono ?_
            rintro e w2 ⟨rfl, hb2⟩
            have HA2 := blkB HA hb2
            have HB2 := belB HB hb2
            clear hb2 c0 c1 c2 c3 c4 c5
            have c0 := HA2.out.cell 0
            have c1 := HA2.out.cell 1
            have c2 := HA2.out.cell 2
            have c3 := HA2.out.cell 3
            have c4 := HA2.out.cell 4
            have c5 := HA2.out.cell 5
            simp only [List.getElem?_toArray, List.getElem?_cons_zero, List.getElem?_cons_succ] at c0 c1 c2 c3 c4 c5
            go_wp2_with fail
            refine (H2.out _).mono ?_
            rintro e w3 ⟨rfl, hb3⟩
            have HA3 := blkB HA2 hb3
            have HB3 := belB HB2 hb3
            clear hb3 c0 c1 c2 c3 c4 c5
            have c0 := HA3.out.cell 0
            have c1 := HA3.out.cell 1
            have c2 := HA3.out.cell 2
            have c3 := HA3.out.cell 3
            have c4 := HA3.out.cell 4
            have c5 := HA3.out.cell 5
            simp only [List.getElem?_toArray, List.getElem?_cons_zero, List.getElem?_cons_succ] at c0 c1 c2 c3 c4 c5
            go_wp2_with fail
            refine (H3.out _).mono ?_
            rintro e w4 ⟨rfl, hb4⟩
            have HA4 := blkB HA3 hb4
            have HB4 := belB HB3 hb4
            clear hb4 c0 c1 c2 c3 c4 c5
            go_wp2
            go_roundg (5 - 5)
            case measure => omega
            case rel => exact ⟨5, by omega, by omega, by omega, by first | rfl | go_num, HA4, HB4⟩
          · skip
            have h1 := fun Wd => HH.out 4 (by decide) u Wd
            rw [hb] at h1
            have H1 := Lib.hid h1
            clear h1
            have h3 := fun Wd => HH.out 6 (by decide) v Wd
            rw [hc] at h3
            have H3 := Lib.hid h3
            clear h3
            have h2 := fun Wd => HH.out 4 (by decide) v Wd
            rw [show opHolds 4 0 v x0 = true from grows_up (by decide) hle.out hb] at h2
            have H2 := Lib.hid h2
            clear h2
            have h4 := fun Wd => HH.out 6 (by decide) u Wd
            rw [show opHolds 6 0 u x0 = true from grows_down (by decide) hle.out hc] at h4
            have H4 := Lib.hid h4
            clear h4
            clear hb hc
            have c0 := HA.out.cell 0
            have c1 := HA.out.cell 1
            have c2 := HA.out.cell 2
            have c3 := HA.out.cell 3
            have c4 := HA.out.cell 4
            have c5 := HA.out.cell 5
            simp only [List.getElem?_toArray, List.getElem?_cons_zero, List.getElem?_cons_succ] at c0 c1 c2 c3 c4 c5
            go_wp2_with fail
            refine (H1.out _).mono ?_
            rintro e w2 ⟨rfl, hb2⟩
            have HA2 := blkB HA hb2
            have HB2 := belB HB hb2
            clear hb2 c0 c1 c2 c3 c4 c5
            have c0 := HA2.out.cell 0
            have c1 := HA2.out.cell 1
            have c2 := HA2.out.cell 2
            have c3 := HA2.out.cell 3
            have c4 := HA2.out.cell 4
            have c5 := HA2.out.cell 5
            simp only [List.getElem?_toArray, List.getElem?_cons_zero, List.getElem?_cons_succ] at c0 c1 c2 c3 c4 c5
            go_wp2_with fail
            refine (H2.out _).mono ?_
            rintro e w3 ⟨rfl, hb3⟩
            have HA3 := blkB HA2 hb3
            have HB3 := belB HB2 hb3
            clear hb3 c0 c1 c2 c3 c4 c5
            have c0 := HA3.out.cell 0
            have c1 := HA3.out.cell 1
            have c2 := HA3.out.cell 2
            have c3 := HA3.out.cell 3
            have c4 := HA3.out.cell 4
            have c5 := HA3.out.cell 5
            simp only [List.getElem?_toArray, List.getElem?_cons_zero, List.getElem?_cons_succ] at c0 c1 c2 c3 c4 c5
            go_wp2_with fail
            refine (H3.out _).mono ?_
            rintro e w4 ⟨rfl, hb4⟩
            have HA4 := blkB HA3 hb4
            have HB4 := belB HB3 hb4
            clear hb4 c0 c1 c2 c3 c4 c5
            have c0 := HA4.out.cell 0
            have c1 := HA4.out.cell 1
            have c2 := HA4.out.cell 2
            have c3 := HA4.out.cell 3
            have c4 := HA4.out.cell 4
            have c5 := HA4.out.cell 5
            simp only [List.getElem?_toArray, List.getElem?_cons_zero, List.getElem?_cons_succ] at c0 c1 c2 c3 c4 c5
            go_wp2_with fail
            refine (H4.out _).mono ?_
            rintro e w5 ⟨rfl, hb5⟩
            have HA5 := blkB HA4 hb5
            have HB5 := belB HB4 hb5
            clear hb5 c0 c1 c2 c3 c4 c5
            go_wp2
            go_roundg (5 - 5)
            case measure => omega
            case rel => exact ⟨5, by omega, by omega, by omega, by first | rfl | go_num, HA5, HB5⟩
      · have HEr := Lib.hid (HE.out.below HB.out)
        have HAW := Lib.hid (fun W (hW : ErrV W) => awake10_any W hW)
        go_wp2_with fail
        refine (HAW.out _ HEr.out).mono ?_
        rintro e w2 ⟨rfl, hb2⟩
        go_wp2
        go_ret
        exact ⟨rfl, HB.out.trans (hb2.mono HB.out.size)⟩
  · have hle := Lib.hid (show v ≤ u by omega)
    go_enter Tryd.func7, Tryd.ntmps7
    go_wp2
    go_loopg [7] 2 (fun gg s7 wr => ∃ kk : Nat, 3 ≤ kk ∧ kk ≤ 5 ∧ 5 - kk ≤ gg ∧ s7 = .int .i64 kk ∧ Hid (Blk wr w.heap.size 37 #[.int .u64 x0, .int .u64 x1, .int .u64 x2, .int .u64 x3, .int .u64 x4, .int .u64 x5]) ∧ Hid (Below w.heap.size w wr))
    case atStart => exact ⟨3, by omega, by omega, by omega, rfl, HA0, HB0⟩
    case round =>
      obtain ⟨kk, hk1, hk7, hg, rfl, HA, HB⟩ := hrel
      have : kk = 3 ∨ kk = 4 ∨ kk = 5 := by omega
      rcases this with rfl | rfl | rfl
      · cases hb : opHolds 3 0 v x0
        · cases hc : opHolds 5 0 u x0
          · skip
            have h1 := fun Wd => HH.out 3 (by decide) v Wd
            rw [hb] at h1
            have H1 := Lib.hid h1
            clear h1
            have h3 := fun Wd => HH.out 5 (by decide) u Wd
            rw [hc] at h3
            have H3 := Lib.hid h3
            clear h3
            clear hb hc
            have c0 := HA.out.cell 0
            have c1 := HA.out.cell 1
            have c2 := HA.out.cell 2
            have c3 := HA.out.cell 3
            have c4 := HA.out.cell 4
            have c5 := HA.out.cell 5
            simp only [List.getElem?_toArray, List.getElem?_cons_zero, List.getElem?_cons_succ] at c0 c1 c2 c3 c4 c5
            go_wp2_with fail
            refine (H1.out _).mono ?_
            rintro e w2 ⟨rfl, hb2⟩
            have HA2 := blkB HA hb2
            have HB2 := belB HB hb2
            clear hb2 c0 c1 c2 c3 c4 c5
            have c0 := HA2.out.cell 0
            have c1 := HA2.out.cell 1
            have c2 := HA2.out.cell 2
            have c3 := HA2.out.cell 3
            have c4 := HA2.out.cell 4
            have c5 := HA2.out.cell 5
            simp only [List.getElem?_toArray, List.getElem?_cons_zero, List.getElem?_cons_succ] at c0 c1 c2 c3 c4 c5
            go_wp2_with fail
            refine (H3.out _).mono ?_
            rintro e w3 ⟨rfl, hb3⟩
            have HA3 := blkB HA2 hb3
            have HB3 := belB HB2 hb3
            clear hb3 c0 c1 c2 c3 c4 c5
            go_wp2
            go_roundg (5 - 4)
            case measure => omega
            case rel => exact ⟨4, by omega, by omega, by omega, by first | rfl | go_num, HA3, HB3⟩
          · skip
            have h1 := fun Wd => HH.out 3 (by decide) v Wd
            rw [hb] at h1
            have H1 := Lib.hid h1
            clear h1
            have h3 := fun Wd => HH.out 5 (by decide) u Wd
            rw [hc] at h3
            have H3 := Lib.hid h3
            clear h3
            have h4 := fun Wd => HH.out 5 (by decide) v Wd
            rw [show opHolds 5 0 v x0 = true from grows_down (by decide) hle.out hc] at h4
            have H4 := Lib.hid h4
            clear h4
            clear hb hc
            have c0 := HA.out.cell 0
            have c1 := HA.out.cell 1
            have c2 := HA.out.cell 2
            have c3 := HA.out.cell 3
            have c4 := HA.out.cell 4
            have c5 := HA.out.cell 5
            simp only [List.getElem?_toArray, List.getElem?_cons_zero, List.getElem?_cons_succ] at c0 c1 c2 c3 c4 c5
            go_wp2_with fail
            refine (H1.out _).mono ?_
            rintro e w2 ⟨rfl, hb2⟩
            have HA2 := blkB HA hb2
            have HB2 := belB HB hb2
            clear hb2 c0 c1 c2 c3 c4 c5
            have c0 := HA2.out.cell 0
            have c1 := HA2.out.cell 1
            have c2 := HA2.out.cell 2
            have c3 := HA2.out.cell 3
            have c4 := HA2.out.cell 4
            have c5 := HA2.out.cell 5
            simp only [List.getElem?_toArray, List.getElem?_cons_zero, List.getElem?_cons_succ] at c0 c1 c2 c3 c4 c5
            go_wp2_with fail
            refine (H3.out _).mono ?_
            rintro e w3 ⟨rfl, hb3⟩
            have HA3 := blkB HA2 hb3
            have HB3 := belB HB2 hb3
            clear hb3 c0 c1 c2 c3 c4 c5
            have c0 := HA3.out.cell 0
            have c1 := HA3.out.cell 1
            have c2 := HA3.out.cell 2
            have c3 := HA3.out.cell 3
            have c4 := HA3.out.cell 4
            have c5 := HA3.out.cell 5
            simp only [List.getElem?_toArray, List.getElem?_cons_zero, List.getElem?_cons_succ] at c0 c1 c2 c3 c4 c5
            go_wp2_with fail
            refine (H4.out _).mono ?_
            rintro e w4 ⟨rfl, hb4⟩
            have HA4 := blkB HA3 hb4
            have HB4 := belB HB3 hb4
            clear hb4 c0 c1 c2 c3 c4 c5
            go_wp2
            go_roundg (5 - 4)
            case measure => omega
            case rel => exact ⟨4, by omega, by omega, by omega, by first | rfl | go_num, HA4, HB4⟩
        · cases hc : opHolds 5 0 u x0
          · skip
            have h1 := fun Wd => HH.out 3 (by decide) v Wd
            rw [hb] at h1
            have H1 := Lib.hid h1
            clear h1
            have h3 := fun Wd => HH.out 5 (by decide) u Wd
            rw [hc] at h3
            have H3 := Lib.hid h3
            clear h3
            have h2 := fun Wd => HH.out 3 (by decide) u Wd
            rw [show opHolds 3 0 u x0 = true from grows_up (by decide) hle.out hb] at h2
            have H2 := Lib.hid h2
            clear h2
            clear hb hc
            have c0 := HA.out.cell 0
            have c1 := HA.out.cell 1
            have c2 := HA.out.cell 2
            have c3 := HA.out.cell 3
            have c4 := HA.out.cell 4
            have c5 := HA.out.cell 5
            simp only [List.getElem?_toArray, List.getElem?_cons_zero, List.getElem?_cons_succ] at c0 c1 c2 c3 c4 c5
            go_wp2_with fail
            refine (H1.out _).mono ?_
            rintro e w2 ⟨rfl, hb2⟩
            have HA2 := blkB HA hb2
            have HB2 := belB HB hb2
            clear hb2 c0 c1 c2 c3 c4 c5
            have c0 := HA2.out.cell 0
            have c1 := HA2.out.cell 1
            have c2 := HA2.out.cell 2
            have c3 := HA2.out.cell 3
            have c4 := HA2.out.cell 4
            have c5 := HA2.out.cell 5
            simp only [List.getElem?_toArray, List.getElem?_cons_zero, List.getElem?_cons_succ] at c0 c1 c2 c3 c4 c5
            go_wp2_with fail
            refine (H2.out _).mono ?_
            rintro e w3 ⟨rfl, hb3⟩
            have HA3 := blkB HA2 hb3
            have HB3 := belB HB2 hb3
            clear hb3 c0 c1 c2 c3 c4 c5
            have c0 := HA3.out.cell 0
            have c1 := HA3.out.cell 1
            have c2 := HA3.out.cell 2
            have c3 := HA3.out.cell 3
            have c4 := HA3.out.cell 4
            have c5 := HA3.out.cell 5
            simp only [List.getElem?_toArray, List.getElem?_cons_zero, List.getElem?_cons_succ] at c0 c1 c2 c3 c4 c5
            go_wp2_with fail
            refine (H3.out _).mono ?_
            rintro e w4 ⟨rfl, hb4⟩
            have HA4 := blkB HA3 hb4
            have HB4 := belB HB3 hb4
            clear hb4 c0 c1 c2 c3 c4 c5
            go_wp2
            go_roundg (5 - 4)
            case measure => omega
            case rel => exact ⟨4, by omega, by omega, by omega, by first | rfl | go_num, HA4, HB4⟩
          · skip
            have h1 := fun Wd => HH.out 3 (by decide) v Wd
            rw [hb] at h1
            have H1 := Lib.hid h1
            clear h1
            have h3 := fun Wd => HH.out 5 (by decide) u Wd
            rw [hc] at h3
            have H3 := Lib.hid h3
            clear h3
            have h2 := fun Wd => HH.out 3 (by decide) u Wd
            rw [show opHolds 3 0 u x0 = true from grows_up (by decide) hle.out hb] at h2
            have H2 := Lib.hid h2
            clear h2
            have h4 := fun Wd => HH.out 5 (by decide) v Wd
            rw [show opHolds 5 0 v x0 = true from grows_down (by decide) hle.out hc] at h4
            have H4 := Lib.hid h4
            clear h4
            clear hb hc
            have c0 := HA.out.cell 0
            have c1 := HA.out.cell 1
            have c2 := HA.out.cell 2
            have c3 := HA.out.cell 3
            have c4 := HA.out.cell 4
            have c5 := HA.out.cell 5
            simp only [List.getElem?_toArray, List.getElem?_cons_zero, List.getElem?_cons_succ] at c0 c1 c2 c3 c4 c5
            go_wp2_with fail
            refine (H1.out _).mono ?_
            rintro e w2 ⟨rfl, hb2⟩
            have HA2 := blkB HA hb2
            have HB2 := belB HB hb2
            clear hb2 c0 c1 c2 c3 c4 c5
            have c0 := HA2.out.cell 0
            have c1 := HA2.out.cell 1
            have c2 := HA2.out.cell 2
            have c3 := HA2.out.cell 3
            have c4 := HA2.out.cell 4
            have c5 := HA2.out.cell 5
            simp only [List.getElem?_toArray, List.getElem?_cons_zero, List.getElem?_cons_succ] at c0 c1 c2 c3 c4 c5
            go_wp2_with fail
            refine (H2.out _).mono ?_
            rintro e w3 ⟨rfl, hb3⟩
            have HA3 := blkB HA2 hb3
            have HB3 := belB HB2 hb3
            clear hb3 c0 c1 c2 c3 c4 c5
            have c0 := HA3.out.cell 0
            have c1 := HA3.out.cell 1
            have c2 := HA3.out.cell 2
            have c3 := HA3.out.cell 3
            have c4 := HA3.out.cell 4
            have c5 := HA3.out.cell 5
            simp only [List.getElem?_toArray, List.getElem?_cons_zero, List.getElem?_cons_succ] at c0 c1 c2 c3 c4 c5
            go_wp2_with fail
            refine (H3.out _).mono ?_
            rintro e w4 ⟨rfl, hb4⟩
            have HA4 := blkB HA3 hb4
            have HB4 := belB HB3 hb4
            clear hb4 c0 c1 c2 c3 c4 c5
            have c0 := HA4.out.cell 0
            have c1 := HA4.out.cell 1
            have c2 := HA4.out.cell 2
            have c3 := HA4.out.cell 3
            have c4 := HA4.out.cell 4
            have c5 := HA4.out.cell 5
            simp only [List.getElem?_toArray, List.getElem?_cons_zero, List.getElem?_cons_succ] at c0 c1 c2 c3 c4 c5
            go_wp2_with fail
            refine (H4.out _).mono ?_
            rintro e w5 ⟨rfl, hb5⟩
            have HA5 := blkB HA4 hb5
            have HB5 := belB HB4 hb5
            clear hb5 c0 c1 c2 c3 c4 c5
            go_wp2
            go_roundg (5 - 4)
            case measure => omega
            case rel => exact ⟨4, by omega, by omega, by omega, by first | rfl | go_num, HA5, HB5⟩
      · cases hb : opHolds 4 0 v x0
        · cases hc : opHolds 6 0 u x0
          · skip
            have h1 := fun Wd => HH.out 4 (by decide) v Wd
            rw [hb] at h1
            have H1 := Lib.hid h1
            clear h1
            have h3 := fun Wd => HH.out 6 (by decide) u Wd
            rw [hc] at h3
            have H3 := Lib.hid h3
            clear h3
            clear hb hc
            have c0 := HA.out.cell 0
            have c1 := HA.out.cell 1
            have c2 := HA.out.cell 2
            have c3 := HA.out.cell 3
            have c4 := HA.out.cell 4
            have c5 := HA.out.cell 5
            simp only [List.getElem?_toArray, List.getElem?_cons_zero, List.getElem?_cons_succ] at c0 c1 c2 c3 c4 c5
            go_wp2_with fail
            refine (H1.out _).mono ?_
            rintro e w2 ⟨rfl, hb2⟩
            have HA2 := blkB HA hb2
            have HB2 := belB HB hb2
            clear hb2 c0 c1 c2 c3 c4 c5
            have c0 := HA2.out.cell 0
            have c1 := HA2.out.cell 1
            have c2 := HA2.out.cell 2
            have c3 := HA2.out.cell 3
            have c4 := HA2.out.cell 4
            have c5 := HA2.out.cell 5
            simp only [List.getElem?_toArray, List.getElem?_cons_zero, List.getElem?_cons_succ] at c0 c1 c2 c3 c4 c5
            go_wp2_with fail
            refine (H3.out _).mono ?_
            rintro e w3 ⟨rfl, hb3⟩
            have HA3 := blkB HA2 hb3
            have HB3 := belB HB2 hb3
            clear hb3 c0 c1 c2 c3 c4 c5
            go_wp2
            go_roundg (5 - 5)
            case measure => omega
            case rel => exact ⟨5, by omega, by omega, by omega, by first | rfl | go_num, HA3, HB3⟩
          · skip
            have h1 := fun Wd => HH.out 4 (by decide) v Wd
            rw [hb] at h1
            have H1 := Lib.hid h1
            clear h1
            have h3 := fun Wd => HH.out 6 (by decide) u Wd
            rw [hc] at h3
            have H3 := Lib.hid h3
            clear h3
            have h4 := fun Wd => HH.out 6 (by decide) v Wd
            rw [show opHolds 6 0 v x0 = true from grows_down (by decide) hle.out hc] at h4
            have H4 := Lib.hid h4
            clear h4
            clear hb hc
            have c0 := HA.out.cell 0
            have c1 := HA.out.cell 1
            have c2 := HA.out.cell 2
            have c3 := HA.out.cell 3
            have c4 := HA.out.cell 4
            have c5 := HA.out.cell 5
            simp only [List.getElem?_toArray, List.getElem?_cons_zero, List.getElem?_cons_succ] at c0 c1 c2 c3 c4 c5
            go_wp2_with fail
            refine (H1.out _).mono ?_
            rintro e w2 ⟨rfl, hb2⟩
            have HA2 := blkB HA hb2
            have HB2 := belB HB hb2
            clear hb2 c0 c1 c2 c3 c4 c5
            have c0 := HA2.out.cell 0
            have c1 := HA2.out.cell 1
            have c2 := HA2.out.cell 2
            have c3 := HA2.out.cell 3
            have c4 := HA2.out.cell 4
            have c5 := HA2.out.cell 5
            simp only [List.getElem?_toArray, List.getElem?_cons_zero, List.getElem?_cons_succ] at c0 c1 c2 c3 c4 c5
            go_wp2_with fail
            refine (H3.out _).mono ?_
            rintro e w3 ⟨rfl, hb3⟩
            have HA3 := blkB HA2 hb3
            have HB3 := belB HB2 hb3
            clear hb3 c0 c1 c2 c3 c4 c5
            have c0 := HA3.out.cell 0
            have c1 := HA3.out.cell 1
            have c2 := HA3.out.cell 2
            have c3 := HA3.out.cell 3
            have c4 := HA3.out.cell 4
            have c5 := HA3.out.cell 5
            simp only [List.getElem?_toArray, List.getElem?_cons_zero, List.getElem?_cons_succ] at c0 c1 c2 c3 c4 c5
            go_wp2_with fail
            refine (H4.out _).mono ?_
            rintro e w4 ⟨rfl, hb4⟩
            have HA4 := blkB HA3 hb4
            have HB4 := belB HB3 hb4
            clear hb4 c0 c1 c2 c3 c4 c5
            go_wp2
            go_roundg (5 - 5)
            case measure => omega
            case rel => exact ⟨5, by omega, by omega, by omega, by first | rfl | go_num, HA4, HB4⟩
        · cases hc : opHolds 6 0 u x0
          · skip
            have h1 := fun Wd => HH.out 4 (by decide) v Wd
            rw [hb] at h1
            have H1 := Lib.hid h1
            clear h1
            have h3 := fun Wd => HH.out 6 (by decide) u Wd
            rw [hc] at h3
            have H3 := Lib.hid h3
            clear h3
            have h2 := fun Wd => HH.out 4 (by decide) u Wd
            rw [show opHolds 4 0 u x0 = true from grows_up (by decide) hle.out hb] at h2
            have H2 := Lib.hid h2
            clear h2
            clear hb hc
            have c0 := HA.out.cell 0
            have c1 := HA.out.cell 1
            have c2 := HA.out.cell 2
            have c3 := HA.out.cell 3
            have c4 := HA.out.cell 4
            have c5 := HA.out.cell 5
            simp only [List.getElem?_toArray, List.getElem?_cons_zero, List.getElem?_cons_succ] at c0 c1 c2 c3 c4 c5
            go_wp2_with fail
            refine (H1.out _).mono ?_
            rintro e w2 ⟨rfl, hb2⟩
            have HA2 := blkB HA hb2
            have HB2 := belB HB hb2
            clear hb2 c0 c1 c2 c3 c4 c5
            have c0 := HA2.out.cell 0
            have c1 := HA2.out.cell 1
            have c2 := HA2.out.cell 2
            have c3 := HA2.out.cell 3
            have c4 := HA2.out.cell 4
            have c5 := HA2.out.cell 5
            simp only [List.getElem?_toArray, List.getElem?_cons_zero, List.getElem?_cons_succ] at c0 c1 c2 c3 c4 c5
            go_wp2_with fail
            refine (H2.out _).mono ?_
            rintro e w3 ⟨rfl, hb3⟩
            have HA3 := blkB HA2 hb3
            have HB3 := belB HB2 hb3
            clear hb3 c0 c1 c2 c3 c4 c5
            have c0 := HA3.out.cell 0
            have c1 := HA3.out.cell 1
            have c2 := HA3.out.cell 2
            have c3 := HA3.out.cell 3
            have c4 := HA3.out.cell 4
            have c5 := HA3.out.cell 5
            simp only [List.getElem?_toArray, List.getElem?_cons_zero, List.getElem?_cons_succ] at c0 c1 c2 c3 c4 c5
            go_wp2_with fail
            refine (H3.out _).mono ?_
            rintro e w4 ⟨rfl, hb4⟩
            have HA4 := blkB HA3 hb4
            have HB4 := belB HB3 hb4
            clear hb4 c0 c1 c2 c3 c4 c5
            go_wp2
            go_roundg (5 - 5)
            case measure => omega
            case rel => exact ⟨5, by omega, by omega, by omega, by first | rfl | go_num, HA4, HB4⟩
          · skip
            have h1 := fun Wd => HH.out 4 (by decide) v Wd
            rw [hb] at h1
            have H1 := Lib.hid h1
            clear h1
            have h3 := fun Wd => HH.out 6 (by decide) u Wd
            rw [hc] at h3
            have H3 := Lib.hid h3
            clear h3
            have h2 := fun Wd => HH.out 4 (by decide) u Wd
            rw [show opHolds 4 0 u x0 = true from grows_up (by decide) hle.out hb] at h2
            have H2 := Lib.hid h2
            clear h2
            have h4 := fun Wd => HH.out 6 (by decide) v Wd
            rw [show opHolds 6 0 v x0 = true from grows_down (by decide) hle.out hc] at h4
            have H4 := Lib.hid h4
            clear h4
            clear hb hc
            have c0 := HA.out.cell 0
            have c1 := HA.out.cell 1
            have c2 := HA.out.cell 2
            have c3 := HA.out.cell 3
            have c4 := HA.out.cell 4
            have c5 := HA.out.cell 5
            simp only [List.getElem?_toArray, List.getElem?_cons_zero, List.getElem?_cons_succ] at c0 c1 c2 c3 c4 c5
            go_wp2_with fail
            refine (H1.out _).mono ?_
            rintro e w2 ⟨rfl, hb2⟩
            have HA2 := blkB HA hb2
            have HB2 := belB HB hb2
            clear hb2 c0 c1 c2 c3 c4 c5
            have c0 := HA2.out.cell 0
            have c1 := HA2.out.cell 1
            have c2 := HA2.out.cell 2
            have c3 := HA2.out.cell 3
            have c4 := HA2.out.cell 4
            have c5 := HA2.out.cell 5
            simp only [List.getElem?_toArray, List.getElem?_cons_zero, List.getElem?_cons_succ] at c0 c1 c2 c3 c4 c5
            go_wp2_with fail
            refine (H2.out _).mono ?_
            rintro e w3 ⟨rfl, hb3⟩
            have HA3 := blkB HA2 hb3
            have HB3 := belB HB2 hb3
            clear hb3 c0 c1 c2 c3 c4 c5
            have c0 := HA3.out.cell 0
            have c1 := HA3.out.cell 1
            have c2 := HA3.out.cell 2
            have c3 := HA3.out.cell 3
            have c4 := HA3.out.cell 4
            have c5 := HA3.out.cell 5
            simp only [List.getElem?_toArray, List.getElem?_cons_zero, List.getElem?_cons_succ] at c0 c1 c2 c3 c4 c5
            go_wp2_with fail
            refine (H3.out _).mono ?_
            rintro e w4 ⟨rfl, hb4⟩
            have HA4 := blkB HA3 hb4
            have HB4 := belB HB3 hb4
            clear hb4 c0 c1 c2 c3 c4 c5
            have c0 := HA4.out.cell 0
            have c1 := HA4.out.cell 1
            have c2 := HA4.out.cell 2
            have c3 := HA4.out.cell 3
            have c4 := HA4.out.cell 4
            have c5 := HA4.out.cell 5
            simp only [List.getElem?_toArray, List.getElem?_cons_zero, List.getElem?_cons_succ] at c0 c1 c2 c3 c4 c5
            go_wp2_with fail
            refine (H4.out _).mono ?_
            rintro e w5 ⟨rfl, hb5⟩
            have HA5 := blkB HA4 hb5
            have HB5 := belB HB4 hb5
            clear hb5 c0 c1 c2 c3 c4 c5
            go_wp2
            go_roundg (5 - 5)
            case measure => omega
            case rel => exact ⟨5, by omega, by omega, by omega, by first | rfl | go_num, HA5, HB5⟩
      · have HEr := Lib.hid (HE.out.below HB.out)
        have HAW := Lib.hid (fun W (hW : ErrV W) => awake10_any W hW)
        go_wp2_with fail
        refine (HAW.out _ HEr.out).mono ?_
        rintro e w2 ⟨rfl, hb2⟩
        go_wp2
        go_ret
        exact ⟨rfl, HB.out.trans (hb2.mono HB.out.size)⟩
end Go.Proofs.YtlmobmbglninkaaDoor
