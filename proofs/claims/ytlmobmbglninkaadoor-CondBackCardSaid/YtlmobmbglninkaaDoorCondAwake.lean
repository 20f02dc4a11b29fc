/- cond.Holds once for all; strainerlaw10.awake. -/
import Derived.Test.YtlmobmbglninkaaDoorCondRead
namespace Go.Proofs.YtlmobmbglninkaaDoor
open Go Go.Proofs Go.RowKit

theorem holds_any (j : Nat) (hj : j ≤ 5) (o m v x0 x1 x2 x3 x4 x5 xv : Int) (ho : 1 ≤ o ∧ o ≤ 7) (hx : [x0, x1, x2, x3, x4, x5][j]? = some xv) (hr : o = 7 ∨ m = 0) (w : World) :
    Calls Tryd.prog 15 #[.agg #[.int .i64 (j : Int), .int .i64 o, .int .u64 m, .int .u64 v], .agg #[.int .u64 x0, .int .u64 x1, .int .u64 x2, .int .u64 x3, .int .u64 x4, .int .u64 x5]] w fun e w' => e = .returned (.bool (opHolds o m v xv)) ∧ Below w.heap.size w w' := by
  have hR : condRight j o m = true := decide_eq_true ⟨by omega, by omega, by omega, by omega, hr⟩
  have : o = 1 ∨ o = 2 ∨ o = 3 ∨ o = 4 ∨ o = 5 ∨ o = 6 ∨ o = 7 := by omega
  rcases this with rfl | rfl | rfl | rfl | rfl | rfl | rfl
  · exact holds_1 j hj m v x0 x1 x2 x3 x4 x5 xv hx hR w
  · exact holds_2 j hj m v x0 x1 x2 x3 x4 x5 xv hx hR w
  · exact holds_3 j hj m v x0 x1 x2 x3 x4 x5 xv hx hR w
  · exact holds_4 j hj m v x0 x1 x2 x3 x4 x5 xv hx hR w
  · exact holds_5 j hj m v x0 x1 x2 x3 x4 x5 xv hx hR w
  · exact holds_6 j hj m v x0 x1 x2 x3 x4 x5 xv hx hR w
  · exact holds_7 j hj m v x0 x1 x2 x3 x4 x5 xv hx hR w

def exWords : List ByteArray := [⟨#[97, 49]⟩, ⟨#[38]⟩, ⟨#[51]⟩, ⟨#[61, 61]⟩, ⟨#[50]⟩]
theorem readAns_ex : readAns exWords = ⟨1, 7, 3, 2, 5, 0⟩ := by kernel_rfl
theorem wordsV_ex (w : World) : WordsV (w.alloc (.cells #[.string ⟨#[97, 49]⟩, .string ⟨#[38]⟩, .string ⟨#[51]⟩, .string ⟨#[61, 61]⟩, .string ⟨#[50]⟩] 9)) (.slice (some ⟨w.heap.size, 0, none⟩) 5 5) exWords := by
  have hb := Blk.new w 9 #[.string ⟨#[97, 49]⟩, .string ⟨#[38]⟩, .string ⟨#[51]⟩, .string ⟨#[61, 61]⟩, .string ⟨#[50]⟩]
  refine ⟨_, 5, rfl, .inr ⟨_, 0, rfl, by simp, ?_⟩⟩
  intro j s hs
  rw [Nat.zero_add, hb.cell j]
  match j, hs with
  | 0, hs => cases hs; rfl
  | 1, hs => cases hs; rfl
  | 2, hs => cases hs; rfl
  | 3, hs => cases hs; rfl
  | 4, hs => cases hs; rfl
  | (j + 5), hs => cases hs

set_option maxRecDepth 100000 in
set_option maxHeartbeats 1000000 in
theorem awake10_any (w : World) (hE : ErrV w) : Calls Tryd.prog 14 #[] w fun e w' => e = .returned (.bool true) ∧ Below w.heap.size w w' := by
  have hb0 := (Below.refl w.heap.size w).alloc (Nat.le_refl _) (.cells #[.string ⟨#[97, 49]⟩, .string ⟨#[38]⟩, .string ⟨#[51]⟩, .string ⟨#[61, 61]⟩, .string ⟨#[50]⟩] 9)
  have hrd := read_any _ exWords (by decide) (by decide) _ (hE.below hb0) (wordsV_ex w)
  rw [readAns_ex] at hrd
  have HB0 := Lib.hid hb0
  have Hrd := Lib.hid hrd
  clear hb0 hrd hE
  go_enter Tryd.func14, Tryd.ntmps14
  go_wp2_with fail
  refine Hrd.out.mono ?_
  rintro e w1 ⟨rfl, hb1⟩
  have HB1 := Lib.hid (HB0.out.trans (hb1.mono HB0.out.size))
  have HD := Lib.hid (Blk.new w1 25 #[.int .i64 1, .int .i64 7, .int .u64 3, .int .u64 2])
  have HB2 := Lib.hid (HB1.out.alloc HB1.out.size (.cells #[.int .i64 1, .int .i64 7, .int .u64 3, .int .u64 2] 25))
  have HT := Lib.hid (fun W => holds_any 1 (by decide) 7 3 2 0 6 0 0 0 0 6 (by decide) rfl (.inl rfl) W)
  have HF := Lib.hid (fun W => holds_any 1 (by decide) 7 3 2 0 7 0 0 0 0 7 (by decide) rfl (.inl rfl) W)
  rw [show opHolds 7 3 2 6 = true by rfl] at HT
  rw [show opHolds 7 3 2 7 = false by rfl] at HF
  clear hb1 HB0 HB1 Hrd
  unfold readV
  go_upto_region 2 with fail
  generalize w1.alloc (.cells #[.int .i64 1, .int .i64 7, .int .u64 3, .int .u64 2] 25) = w2 at *
  generalize w1.heap.size = D at *
  have c0 := HD.out.cell 0
  have c1 := HD.out.cell 1
  have c2 := HD.out.cell 2
  have c3 := HD.out.cell 3
  simp only [List.getElem?_toArray, List.getElem?_cons_zero, List.getElem?_cons_succ] at c0 c1 c2 c3
  go_wp2_with fail
  refine (HT.out _).mono ?_
  rintro e w3 ⟨rfl, hb3⟩
  have HD3 := blkB HD hb3
  have HB3 := belB HB2 hb3
  clear c0 c1 c2 c3 hb3 HT HD HB2
  have c0 := HD3.out.cell 0
  have c1 := HD3.out.cell 1
  have c2 := HD3.out.cell 2
  have c3 := HD3.out.cell 3
  simp only [List.getElem?_toArray, List.getElem?_cons_zero, List.getElem?_cons_succ] at c0 c1 c2 c3
  go_wp2_with fail
  refine (HF.out _).mono ?_
  rintro e w4 ⟨rfl, hb4⟩
  have HB4 := belB HB3 hb4
  clear c0 c1 c2 c3 hb4
  go_wp2
  go_ret
  exact ⟨rfl, HB4.out⟩
end Go.Proofs.YtlmobmbglninkaaDoor
