/- strainerlaw10.CondReads: the walk. -/
import Derived.Test.YtlmobmbglninkaaDoorCondRRead
import Derived.Test.YtlmobmbglninkaaDoorCondOf
import Derived.Test.YtlmobmbglninkaaDoorCondAwake
namespace Go.Proofs.YtlmobmbglninkaaDoor
open Go Go.Proofs Go.RowKit

theorem WordsV.below {W W' : World} {sv : Value} {ws : List ByteArray} (h : WordsV W sv ws) (hb : Below W.heap.size W W') : WordsV W' sv ws := by
  obtain ⟨a, c, rfl, h⟩ := h
  refine ⟨a, c, rfl, h.imp id ?_⟩
  rintro ⟨b, off, rfl, hlt, hc⟩
  exact ⟨b, off, rfl, Nat.lt_of_lt_of_le hlt hb.size, fun j s hs => cellLater hb (hc j s hs)⟩
theorem rkeep8 {a W wx : World} {p0 p1 p2 p3 q0 q1 q2 q3 : Addr} {u0 u1 u2 u3 v0 v1 v2 v3 : Value}
    (h : W.cell? p0 = some u0 ∧ W.cell? p1 = some u1 ∧ W.cell? p2 = some u2 ∧ W.cell? p3 = some u3 ∧ W.cell? q0 = some v0 ∧ W.cell? q1 = some v1 ∧ W.cell? q2 = some v2 ∧ W.cell? q3 = some v3 ∧ Below a.heap.size a W) (hb : Below W.heap.size W wx) :
    wx.cell? p0 = some u0 ∧ wx.cell? p1 = some u1 ∧ wx.cell? p2 = some u2 ∧ wx.cell? p3 = some u3 ∧ wx.cell? q0 = some v0 ∧ wx.cell? q1 = some v1 ∧ wx.cell? q2 = some v2 ∧ wx.cell? q3 = some v3 ∧ Below a.heap.size a wx :=
  ⟨cellLater hb h.1, cellLater hb h.2.1, cellLater hb h.2.2.1, cellLater hb h.2.2.2.1, cellLater hb h.2.2.2.2.1, cellLater hb h.2.2.2.2.2.1, cellLater hb h.2.2.2.2.2.2.1, cellLater hb h.2.2.2.2.2.2.2.1, h.2.2.2.2.2.2.2.2.trans (hb.mono h.2.2.2.2.2.2.2.2.size)⟩

set_option maxRecDepth 100000 in
set_option maxHeartbeats 2000000 in
theorem creads_any (sv : Value) (ws : List ByteArray) (t : ByteArray) (w : World) (hE : ErrV w) (hW : WordsV w sv ws) :
    Calls Tryd.prog 3 #[sv, .string t] w fun e w' => e = .returned (.bool true) ∧ Below w.heap.size w w' := by
  obtain ⟨ad, c, rfl, hx⟩ := id hW
  obtain ⟨n, hn⟩ : ∃ n, ws.length = n := ⟨_, rfl⟩
  rw [hn] at hW ⊢
  have HW := Lib.hid hW
  have HX := Lib.hid hx
  have HN := Lib.hid hn
  have HE := Lib.hid hE
  clear hW hx hn hE
  by_cases h5 : 7 < n
  · have h5z : (7 : Int) < (n : Int) := by omega
    go_enter Tryd.func3, Tryd.ntmps3
    go_wp2
    go_ret
    exact ⟨rfl, Below.refl _ w⟩
  have h5z : ¬ (7 : Int) < (n : Int) := by omega
  by_cases h4 : 40 < t.size
  · have h4z : (40 : Int) < (t.size : Int) := by omega
    go_enter Tryd.func3, Tryd.ntmps3
    go_wp2
    go_ret
    exact ⟨rfl, Below.refl _ w⟩
  have h4z : ¬ (40 : Int) < (t.size : Int) := by omega
  go_enter Tryd.func3, Tryd.ntmps3
  go_upto_region 4 with fail
  go_loopg [5] n (fun gg s3 wr => w = wr ∧ ∃ kk : Nat, kk ≤ n ∧ n - kk ≤ gg ∧ s3 = .int .i64 kk ∧ Hid (∀ j s, j < kk → ws[j]? = some s → s.size ≤ 40))
  case atStart => exact ⟨rfl, 0, Nat.zero_le _, by omega, rfl, fun j s hj => absurd hj (Nat.not_lt_zero _)⟩
  case round =>
    obtain ⟨rfl, kk, hkk, hg, rfl, A⟩ := hrel
    by_cases hlt : kk < n
    · have hltz : (kk : Int) < (n : Int) := by omega
      have hltz0 : (0 : Int) ≤ (kk : Int) := by omega
      obtain ⟨b, off, rfl, _, hcells⟩ := HX.out.resolve_left (fun h => by have := HN.out; rw [h] at this; simp at this; omega)
      have hget : ws[kk]? = some ws[kk]! := by
        have : kk < ws.length := by rw [HN.out]; exact hlt
        rw [List.getElem?_eq_getElem this, getElem!_pos ws kk this]
      have d0 := hcells kk _ hget
      have HG := Lib.hid hget
      clear hcells hget
      generalize ws[kk]! = s at *
      by_cases h30 : 40 < s.size
      · have h30z : (40 : Int) < (s.size : Int) := by omega
        go_wp2
        go_ret
        exact ⟨rfl, Below.refl _ w⟩
      · have h30z : ¬ (40 : Int) < (s.size : Int) := by omega
        go_wp2
        go_roundg (n - (kk + 1))
        case measure => omega
        case rel =>
          refine ⟨rfl, kk + 1, by omega, by omega, by go_num, (show Hid _ from fun j t hj ht => ?_)⟩
          by_cases e : j = kk
          · subst e
            rw [HG.out] at ht
            cases ht
            omega
          · exact A.out j t (by omega) ht
    · obtain rfl : kk = n := by omega
      have hltz : ¬ (kk : Int) < (kk : Int) := by omega
      have hsz : ∀ s ∈ ws, s.size ≤ 1000000 := by
        intro s hs
        obtain ⟨j, hj, rfl⟩ := List.mem_iff_getElem.1 hs
        have := A.out j ws[j] (by rw [← HN.out]; exact hj) (List.getElem?_eq_getElem hj)
        omega
      have hrd := read_any (.slice ad kk c) ws (by rw [HN.out]; omega) hsz w HE.out HW.out
      have hrr := fun W (hW : WordsV W (.slice ad kk c) ws) => rread_any (.slice ad kk c) ws (by rw [HN.out]; omega) hsz W hW
      have hn1 := fun W (hW : ErrV W) => number_any t (by omega) W hW
      have hn2 := fun W => refNumber_any t (by omega) W
      obtain ⟨a, o, m, v, N, E, hE⟩ : ∃ a o m v N E : Int, readV (readAns ws) = .tuple #[.agg #[.int .i64 a, .int .i64 o, .int .u64 m, .int .u64 v], .int .i64 N, .int .i64 E] := ⟨_, _, _, _, _, _, rfl⟩
      obtain ⟨X, ok, hX⟩ : ∃ (X : Int) (ok : Bool), (Value.tuple #[.int .u64 (((numOf t.data.toList).getD 0 : Nat) : Int), .bool (numOf t.data.toList).isSome]) = .tuple #[.int .u64 X, .bool ok] := ⟨_, _, rfl⟩
      rw [hE] at hrd hrr
      rw [hX] at hn1 hn2
      have Hrd := Lib.hid hrd
      have Hrr := Lib.hid hrr
      have Hn1 := Lib.hid hn1
      have Hn2 := Lib.hid hn2
      clear hrd hrr hsz hE A hn1 hn2 hX
      go_wp2_with fail
      refine Hrd.out.mono ?_
      rintro e w2 ⟨rfl, hb2⟩
      have HB3 := Lib.hid (hb2.alloc hb2.size (.cells #[.int .i64 a, .int .i64 o, .int .u64 m, .int .u64 v] 25))
      have H43 := Lib.hid (Blk.new w2 25 #[.int .i64 a, .int .i64 o, .int .u64 m, .int .u64 v])
      have HW3 := Lib.hid (HW.out.below HB3.out)
      clear hb2 Hrd
      go_upto_region 9 with fail
      generalize w2.alloc (.cells #[.int .i64 a, .int .i64 o, .int .u64 m, .int .u64 v] 25) = W3 at *
      generalize w2.heap.size = B4 at *
      go_wp2_with fail
      refine (Hrr.out _ HW3.out).mono ?_
      rintro e w4 ⟨rfl, hb4⟩
      have HB5 := Lib.hid ((belB HB3 hb4).out.alloc (belB HB3 hb4).out.size (.cells #[.int .i64 a, .int .i64 o, .int .u64 m, .int .u64 v] 29))
      have H45 := Lib.hid ((blkB H43 hb4).out.alloc (.cells #[.int .i64 a, .int .i64 o, .int .u64 m, .int .u64 v] 29))
      have H75 := Lib.hid (Blk.new w4 29 #[.int .i64 a, .int .i64 o, .int .u64 m, .int .u64 v])
      clear hb4 HB3 H43 HW3 Hrr HW HX
      go_upto_region 10 with fail
      generalize w4.alloc (.cells #[.int .i64 a, .int .i64 o, .int .u64 m, .int .u64 v] 29) = W5 at *
      generalize w4.heap.size = B7 at *
      go_wp2_with fail
      refine (Hn1.out _ (HE.out.below HB5.out)).mono ?_
      rintro e w6 ⟨rfl, hb6⟩
      have HB6 := belB HB5 hb6
      have H46 := blkB H45 hb6
      have H76 := blkB H75 hb6
      clear hb6 HB5 H45 H75 Hn1
      go_wp2_with fail
      refine (Hn2.out _).mono ?_
      rintro e w7 ⟨rfl, hb7⟩
      have HB7 := belB HB6 hb7
      have H47 := blkB H46 hb7
      have H77 := blkB H76 hb7
      have HE7 : Hid (∀ W, Below w7.heap.size w7 W → ErrV W) := fun W hW => (HE.out.below HB7.out).below hW
      clear hb7 HB6 H46 H76 Hn2 HE
      go_upto_region 12 with fail
      have x0 := H47.out.cell 0
      have x1 := H47.out.cell 1
      have x2 := H47.out.cell 2
      have x3 := H47.out.cell 3
      have y0 := H77.out.cell 0
      have y1 := H77.out.cell 1
      have y2 := H77.out.cell 2
      have y3 := H77.out.cell 3
      simp only [List.getElem?_toArray, List.getElem?_cons_zero, List.getElem?_cons_succ] at x0 x1 x2 x3 y0 y1 y2 y3
      have MkE : Hid (∀ W, (W.cell? ⟨B4, 0, none⟩ = some (.int .i64 a) ∧ W.cell? ⟨B4, 1, none⟩ = some (.int .i64 o) ∧ W.cell? ⟨B4, 2, none⟩ = some (.int .u64 m) ∧ W.cell? ⟨B4, 3, none⟩ = some (.int .u64 v) ∧ W.cell? ⟨B7, 0, none⟩ = some (.int .i64 a) ∧ W.cell? ⟨B7, 1, none⟩ = some (.int .i64 o) ∧ W.cell? ⟨B7, 2, none⟩ = some (.int .u64 m) ∧ W.cell? ⟨B7, 3, none⟩ = some (.int .u64 v) ∧ Below w7.heap.size w7 W) → ErrV W) := fun W h => HE7.out W h.2.2.2.2.2.2.2.2
      clear HE7
      go_region_held3 (fun w' => w'.cell? ⟨B4, 0, none⟩ = some (.int .i64 a) ∧ w'.cell? ⟨B4, 1, none⟩ = some (.int .i64 o) ∧ w'.cell? ⟨B4, 2, none⟩ = some (.int .u64 m) ∧ w'.cell? ⟨B4, 3, none⟩ = some (.int .u64 v) ∧ w'.cell? ⟨B7, 0, none⟩ = some (.int .i64 a) ∧ w'.cell? ⟨B7, 1, none⟩ = some (.int .i64 o) ∧ w'.cell? ⟨B7, 2, none⟩ = some (.int .u64 m) ∧ w'.cell? ⟨B7, 3, none⟩ = some (.int .u64 v) ∧ Below w7.heap.size w7 w') (first | exact ⟨x0, x1, x2, x3, y0, y1, y2, y3, (Below.refl _ w7).drew⟩ | exact rkeep8 (by assumption) hbx | go_keep) (first | (go_at_call 13; refine (of10_any _ _ _ _ _).mono ?_; rintro e wx ⟨rfl, hbx⟩) | (go_at_call 14; refine (awake10_any _ (MkE.out _ (by assumption))).mono ?_; rintro e wx ⟨rfl, hbx⟩))
      have hfin : Below w7.heap.size w7 wx := (show wx.cell? ⟨B4, 0, none⟩ = some (.int .i64 a) ∧ wx.cell? ⟨B4, 1, none⟩ = some (.int .i64 o) ∧ wx.cell? ⟨B4, 2, none⟩ = some (.int .u64 m) ∧ wx.cell? ⟨B4, 3, none⟩ = some (.int .u64 v) ∧ wx.cell? ⟨B7, 0, none⟩ = some (.int .i64 a) ∧ wx.cell? ⟨B7, 1, none⟩ = some (.int .i64 o) ∧ wx.cell? ⟨B7, 2, none⟩ = some (.int .u64 m) ∧ wx.cell? ⟨B7, 3, none⟩ = some (.int .u64 v) ∧ Below w7.heap.size w7 wx by assumption).2.2.2.2.2.2.2.2
      go_wp2
      go_ret
      exact ⟨rfl, HB7.out.trans (hfin.mono HB7.out.size)⟩
end Go.Proofs.YtlmobmbglninkaaDoor
