/- strainerlaw09.ActReads: the walk. -/
import Derived.Test.YtkgmbogmeppmcaaDoorActRRead
import Derived.Test.YtkgmbogmeppmcaaDoorActLaw
namespace Go.Proofs.YtkgmbogmeppmcaaDoor
open Go Go.Proofs Go.RowKit

theorem WordsV.below {W W' : World} {sv : Value} {ws : List ByteArray} (h : WordsV W sv ws) (hb : Below W.heap.size W W') : WordsV W' sv ws := by
  obtain ⟨a, c, rfl, h⟩ := h
  refine ⟨a, c, rfl, h.imp id ?_⟩
  rintro ⟨b, off, rfl, hlt, hc⟩
  exact ⟨b, off, rfl, Nat.lt_of_lt_of_le hlt hb.size, fun j s hs => cellLater hb (hc j s hs)⟩

set_option maxRecDepth 100000 in
set_option maxHeartbeats 1000000 in
theorem reads_any (sv : Value) (ws : List ByteArray) (w : World) (hW : WordsV w sv ws) :
    Calls Tryd.prog 10 #[sv] w fun e w' => e = .returned (.bool true) ∧ Below w.heap.size w w' := by
  obtain ⟨ad, c, rfl, hx⟩ := id hW
  obtain ⟨n, hn⟩ : ∃ n, ws.length = n := ⟨_, rfl⟩
  rw [hn] at hW ⊢
  have HW := Lib.hid hW
  have HX := Lib.hid hx
  have HN := Lib.hid hn
  clear hW hx hn
  by_cases h5 : 5 < n
  · have h5z : (5 : Int) < (n : Int) := by omega
    go_enter Tryd.func10, Tryd.ntmps10
    go_wp2
    go_ret
    exact ⟨rfl, Below.refl _ w⟩
  have h5z : ¬ (5 : Int) < (n : Int) := by omega
  go_enter Tryd.func10, Tryd.ntmps10
  go_upto_region 4 with fail
  go_loopg [3] n (fun gg s3 wr => w = wr ∧ ∃ kk : Nat, kk ≤ n ∧ n - kk ≤ gg ∧ s3 = .int .i64 kk ∧ Hid (∀ j s, j < kk → ws[j]? = some s → s.size ≤ 30))
  case atStart => exact ⟨rfl, 0, Nat.zero_le _, by omega, rfl, fun j s hj => absurd hj (Nat.not_lt_zero _)⟩
  case round =>
    obtain ⟨rfl, kk, hkk, hg, rfl, A⟩ := hrel
    by_cases hlt : kk < n
    · have hltz : (kk : Int) < (n : Int) := by omega
      have hltz0 : (0 : Int) ≤ (kk : Int) := by omega
      obtain ⟨b, off, rfl, _, hcells⟩ := HX.out.resolve_left (fun h => by have := HN.out; rw [h] at this; simp at this; omega)
      have hget : ws[kk]? = some ws[kk]! := by
        have : kk < ws.length := by rw [HN.out]; exact hlt
        rw [List.getElem?_eq_getElem this, getElem!_pos ws kk this]
      have d0 := hcells kk _ hget
      have HG := Lib.hid hget
      clear hcells hget
      generalize ws[kk]! = s at *
      by_cases h30 : 30 < s.size
      · have h30z : (30 : Int) < (s.size : Int) := by omega
        go_wp2
        go_ret
        exact ⟨rfl, Below.refl _ w⟩
      · have h30z : ¬ (30 : Int) < (s.size : Int) := by omega
        go_wp2
        go_roundg (n - (kk + 1))
        case measure => omega
        case rel =>
          refine ⟨rfl, kk + 1, by omega, by omega, by go_num, (show Hid _ from fun j t hj ht => ?_)⟩
          by_cases e : j = kk
          · subst e
            rw [HG.out] at ht
            cases ht
            omega
          · exact A.out j t (by omega) ht
    · obtain rfl : kk = n := by omega
      have hltz : ¬ (kk : Int) < (kk : Int) := by omega
      have hsz : ∀ s ∈ ws, s.size ≤ 1000000 := by
        intro s hs
        obtain ⟨j, hj, rfl⟩ := List.mem_iff_getElem.1 hs
        have := A.out j ws[j] (by rw [← HN.out]; exact hj) (List.getElem?_eq_getElem hj)
        omega
      have hrd := fun W (hW : WordsV W (.slice ad kk c) ws) => read_any (.slice ad kk c) ws (by rw [HN.out]; omega) hsz W hW
      have hrr := fun W (hW : WordsV W (.slice ad kk c) ws) => refRead_any (.slice ad kk c) ws (by rw [HN.out]; omega) W hW
      obtain ⟨K, N, C, E, hE⟩ : ∃ K N C E : Int, readV (readAns ws) = .tuple #[.agg #[.int .i64 K, .int .i64 N], .int .i64 C, .int .i64 E] := ⟨_, _, _, _, rfl⟩
      rw [hE] at hrd hrr
      have Hrd := Lib.hid (hrd w HW.out)
      have Hrr := Lib.hid hrr
      clear hrd hrr hsz hE A
      go_wp2_with fail
      refine Hrd.out.mono ?_
      rintro e w2 ⟨rfl, hb2⟩
      have HB3 := Lib.hid (hb2.alloc hb2.size (.cells #[.int .i64 K, .int .i64 N] 25))
      have H43 := Lib.hid (Blk.new w2 25 #[.int .i64 K, .int .i64 N])
      have HW3 := Lib.hid (HW.out.below HB3.out)
      clear hb2 Hrd
      go_upto_region 9 with fail
      generalize w2.alloc (.cells #[.int .i64 K, .int .i64 N] 25) = W3 at *
      generalize w2.heap.size = B4 at *
      go_wp2_with fail
      refine (Hrr.out _ HW3.out).mono ?_
      rintro e w4 ⟨rfl, hb4⟩
      have HB5 := Lib.hid ((belB HB3 hb4).out.alloc (belB HB3 hb4).out.size (.cells #[.int .i64 K, .int .i64 N] 23))
      have H45 := Lib.hid ((blkB H43 hb4).out.alloc (.cells #[.int .i64 K, .int .i64 N] 23))
      have H75 := Lib.hid (Blk.new w4 23 #[.int .i64 K, .int .i64 N])
      clear hb4 HB3 H43 HW3 Hrr HW HX
      go_upto_region 10 with fail
      generalize w4.alloc (.cells #[.int .i64 K, .int .i64 N] 23) = W5 at *
      generalize w4.heap.size = B7 at *
      have x0 := H45.out.cell 0
      have x1 := H45.out.cell 1
      have y0 := H75.out.cell 0
      have y1 := H75.out.cell 1
      simp only [List.getElem?_toArray, List.getElem?_cons_zero, List.getElem?_cons_succ] at x0 x1 y0 y1
      go_region_held3 (fun w' => w'.cell? ⟨B4, 0, none⟩ = some (.int .i64 K) ∧ w'.cell? ⟨B4, 1, none⟩ = some (.int .i64 N) ∧ w'.cell? ⟨B7, 0, none⟩ = some (.int .i64 K) ∧ w'.cell? ⟨B7, 1, none⟩ = some (.int .i64 N) ∧ Below W5.heap.size W5 w') (first | exact ⟨x0, x1, y0, y1, (Below.refl _ W5).drew⟩ | exact keep4 (by assumption) hbx | go_keep) (first | (go_at_call 12; refine (of09_any _ _ _).mono ?_; rintro e wx ⟨rfl, hbx⟩) | (go_at_call 19; refine (awake09_any _).mono ?_; rintro e wx ⟨rfl, hbx⟩))
      have hfin : Below W5.heap.size W5 wx := (show wx.cell? ⟨B4, 0, none⟩ = some (.int .i64 K) ∧ wx.cell? ⟨B4, 1, none⟩ = some (.int .i64 N) ∧ wx.cell? ⟨B7, 0, none⟩ = some (.int .i64 K) ∧ wx.cell? ⟨B7, 1, none⟩ = some (.int .i64 N) ∧ Below W5.heap.size W5 wx by assumption).2.2.2.2
      go_wp2
      go_ret
      exact ⟨rfl, HB5.out.trans (hfin.mono HB5.out.size)⟩
end Go.Proofs.YtkgmbogmeppmcaaDoor
