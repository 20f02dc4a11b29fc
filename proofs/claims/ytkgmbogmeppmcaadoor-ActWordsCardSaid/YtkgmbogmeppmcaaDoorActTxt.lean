/- act.Text and strainerref09.Text: what they answer. -/
import Derived.Test.YtkgmbogmeppmcaaDoorActText
import Derived.Lib.SmallJoins
import Derived.Lib.QuietBelow
import Derived.Deep.Cut
namespace Go.Proofs.YtkgmbogmeppmcaaDoor
open Go Go.Proofs Go.RowKit

/-- The library's table lies as it should. -/
def Pow10 (W : World) : Prop := Lib.TabIs Tryd.prog W "internal/strconv.uint64pow10" .u64 Lib.pow10Tab
theorem Pow10.below {W W' : World} (h : Pow10 W) (hb : Below W.heap.size W W') : Pow10 W' := by
  cases hg : Tryd.prog.globalNamed "internal/strconv.uint64pow10" with
  | none => unfold Pow10 Lib.TabIs World.var? at h; rw [hg] at h; cases h
  | some g => exact Go.Joins.tab_stays hg h hb (Nat.le_refl _)
theorem bel_grow (w : World) (k : Nat) (os : Array Obj) : Below w.heap.size w (Go.Sort.grow (w.drewN k) os) := by
  refine ⟨rfl, rfl, rfl, by simp [Go.Sort.grow], fun b hb => ?_⟩
  show (w.heap ++ os)[b]? = _
  rw [Array.getElem?_append_left hb]
theorem itoa_any (n : Nat) (hn : n ≤ 1000000) (w : World) (hp : Pow10 w) : Calls Tryd.prog 36 #[.int .i64 (n : Int)] w fun e w' => e = .returned (.string (decS n)) ∧ Below w.heap.size w w' := by
  refine (Any.strconv_Itoa Tryd.laysm171 (n : Int) (by omega) (by omega) w hp).mono ?_
  rintro e w' ⟨rfl, k, os, rfl⟩
  refine ⟨?_, bel_grow w k os⟩
  have : Lib.itoa (n : Int) = Lib.decDigits n := by
    unfold Lib.itoa
    rw [if_neg (by omega)]
    rfl
  rw [this]
  rfl

/-- A right action's text. -/
def actText (k : Int) (n : Nat) : ByteArray := if k = 4 ∨ k = 6 then actWord k ++ ⟨#[32]⟩ ++ decS n else actWord k
theorem word_size (k : Int) : (actWord k).size ≤ 11 := by
  unfold actWord
  repeat' split
  all_goals decide

set_option maxRecDepth 100000 in
set_option maxHeartbeats 1000000 in
theorem text_wrong (k n : Int) (hr : actRight k n = false) (w : World) : Calls Tryd.prog 18 #[.agg #[.int .i64 k, .int .i64 n]] w fun e w' => e = .returned (.string ⟨#[]⟩) ∧ Below w.heap.size w w' := by
  have hc := right_any k n
  rw [hr] at hc
  have Hc := Lib.hid hc
  clear hc hr
  go_enter Tryd.func18, Tryd.ntmps18
  go_wp2_with (go_at_call 17; refine (Hc.out _).mono ?_; rintro e w1 ⟨rfl, hb1⟩)
  go_ret
  exact ⟨rfl, ((Below.refl _ w).alloc (Nat.le_refl _) _).trans (hb1.mono (by simp))⟩

set_option maxRecDepth 100000 in
set_option maxHeartbeats 1000000 in
theorem text_plain (k n : Int) (hr : actRight k n = true) (h4 : k ≠ 4) (h6 : k ≠ 6) (w : World) : Calls Tryd.prog 18 #[.agg #[.int .i64 k, .int .i64 n]] w fun e w' => e = .returned (.string (actWord k)) ∧ Below w.heap.size w w' := by
  have hc := right_any k n
  obtain ⟨_, _, _, _, k1, k8, _, _⟩ := code_bounds k n hr
  rw [hr] at hc
  have Hc := Lib.hid hc
  have hq := fun W => run_eql_nilFunc (P := Tryd.prog) W 62 Tryd.underlying62
  have hA := Blk.new w 25 #[.int .i64 k, .int .i64 n]
  have HA := Lib.hid hA
  have HB := Lib.hid ((Below.refl w.heap.size w).alloc (Nat.le_refl _) (.cells #[.int .i64 k, .int .i64 n] 25))
  clear hc hr hA
  go_enter Tryd.func18, Tryd.ntmps18
  go_wp2_with fail
  refine (Hc.out _).mono ?_
  rintro e w1 ⟨rfl, hb1⟩
  have HA1 := Lib.hid (HA.out.below hb1 HA.out.lt)
  have HB1 := Lib.hid (HB.out.trans (hb1.mono HB.out.size))
  have a0 := HA1.out.cell 0
  simp only [List.getElem?_toArray, List.getElem?_cons_zero] at a0
  clear hb1 HA HB Hc
  go_wp2_with fail
  refine (of_plain k k1 k8 h4 h6 _).mono ?_
  rintro e w2 ⟨rfl, hb2⟩
  have hR := Blk.new w2 64 #[.string (actWord k), .int .u32 (actCode k), .nilFunc]
  have r0 := hR.cell 0
  have r2 := hR.cell 2
  simp only [List.getElem?_toArray, List.getElem?_cons_zero, List.getElem?_cons_succ] at r0 r2
  have HB2 := Lib.hid ((HB1.out.trans (hb2.mono HB1.out.size)).alloc (Nat.le_trans HB1.out.size hb2.size) (.cells #[.string (actWord k), .int .u32 (actCode k), .nilFunc] 64))
  clear hR hb2 a0 HA1 HB1
  go_wp2
  go_ret
  exact ⟨rfl, HB2.out⟩

set_option maxRecDepth 100000 in
set_option maxHeartbeats 1000000 in
theorem text_num (k : Int) (n : Nat) (hr : actRight k n = true) (hk : k = 4 ∨ k = 6) (w : World) (hp : Pow10 w) : Calls Tryd.prog 18 #[.agg #[.int .i64 k, .int .i64 (n : Int)]] w fun e w' => e = .returned (.string (actWord k ++ ⟨#[32]⟩ ++ decS n)) ∧ Below w.heap.size w w' := by
  have hc := right_any k n
  obtain ⟨_, _, _, n1, k1, k8, _, _⟩ := code_bounds k n hr
  have hn : n ≤ 1000000 := by omega
  rw [hr] at hc
  have Hc := Lib.hid hc
  have hq := fun W fn a c => run_eql_func_nil (P := Tryd.prog) W 62 fn a c Tryd.underlying62
  have hA := Blk.new w 25 #[.int .i64 k, .int .i64 (n : Int)]
  have HA := Lib.hid hA
  have HB := Lib.hid ((Below.refl w.heap.size w).alloc (Nat.le_refl _) (.cells #[.int .i64 k, .int .i64 (n : Int)] 25))
  have HP := Lib.hid hp
  have HK := Lib.hid hk
  have hs1 : ¬ 9223372036854775807 < (actWord k).size + 1 := by have := word_size k; omega
  have hs2 : ¬ 9223372036854775807 < (actWord k).size + 1 + (decS n).size := by have := word_size k; have := decS_size n (by omega); omega
  clear hc hr hA hp hk
  go_enter Tryd.func18, Tryd.ntmps18
  go_wp2_with fail
  refine (Hc.out _).mono ?_
  rintro e w1 ⟨rfl, hb1⟩
  have HA1 := Lib.hid (HA.out.below hb1 HA.out.lt)
  have HB1 := Lib.hid (HB.out.trans (hb1.mono HB.out.size))
  have a0 := HA1.out.cell 0
  simp only [List.getElem?_toArray, List.getElem?_cons_zero] at a0
  clear hb1 HA HB Hc
  go_wp2_with fail
  refine (of_num k HK.out _).mono ?_
  rintro e w2 ⟨B, rfl, _, hb2⟩
  have hR := Blk.new w2 64 #[.string (actWord k), .int .u32 (actCode k), .func (.func 61) #[] #[.pointer (some ⟨B, 0, none⟩)]]
  have r0 := hR.cell 0
  have r2 := hR.cell 2
  have hA2 := (HA1.out.below hb2 HA1.out.lt).alloc (.cells #[.string (actWord k), .int .u32 (actCode k), .func (.func 61) #[] #[.pointer (some ⟨B, 0, none⟩)]] 64)
  have a1 := hA2.cell 1
  simp only [List.getElem?_toArray, List.getElem?_cons_zero, List.getElem?_cons_succ] at r0 r2 a1
  have HB2 := Lib.hid ((HB1.out.trans (hb2.mono HB1.out.size)).alloc (Nat.le_trans HB1.out.size hb2.size) (.cells #[.string (actWord k), .int .u32 (actCode k), .func (.func 61) #[] #[.pointer (some ⟨B, 0, none⟩)]] 64))
  have HP2 := Lib.hid (HP.out.below HB2.out)
  have HI := Lib.hid (fun W hW => itoa_any n hn W hW)
  clear hR hb2 a0 HA1 HB1 hA2
  go_upto_region 6 with fail
  generalize hsp : actWord k = wd at *
  go_region_held3 (fun w' => w'.cell? ⟨w2.heap.size, 0, none⟩ = some (.string wd) ∧ w'.cell? ⟨w.heap.size, 1, none⟩ = some (.int .i64 (n : Int))) (first | exact ⟨r0, a1⟩ | exact ⟨(hb3.cell (World.block_lt_of_cell? _ _ r0)).trans r0, (hb3.cell (World.block_lt_of_cell? _ _ a1)).trans a1⟩ | go_keep) (first | (go_at_call 36; refine (HI.out _ (HP2.out.below ((Below.refl _ _).drew))).mono ?_; rintro e w3 ⟨rfl, hb3⟩))
  go_wp2
  go_ret
  exact ⟨by rw [hsp]; rfl, HB2.out.drew.trans (hb3.mono HB2.out.size)⟩

theorem text_right (k : Int) (n : Nat) (hr : actRight k n = true) (w : World) (hp : Pow10 w) : Calls Tryd.prog 18 #[.agg #[.int .i64 k, .int .i64 (n : Int)]] w fun e w' => e = .returned (.string (actText k n)) ∧ Below w.heap.size w w' := by
  unfold actText
  by_cases hk : k = 4 ∨ k = 6
  · rw [if_pos hk]; exact text_num k n hr hk w hp
  · rw [if_neg hk]; exact text_plain k n hr (fun h => hk (.inl h)) (fun h => hk (.inr h)) w

theorem keep2 {w W wx : World} {p q : Addr} {u v : Value} (h : W.cell? p = some u ∧ W.cell? q = some v ∧ Below w.heap.size w W) (hb : Below W.heap.size W wx) : wx.cell? p = some u ∧ wx.cell? q = some v ∧ Below w.heap.size w wx :=
  ⟨(hb.cell (World.block_lt_of_cell? _ _ h.1)).trans h.1, (hb.cell (World.block_lt_of_cell? _ _ h.2.1)).trans h.2.1, h.2.2.trans (hb.mono h.2.2.size)⟩

set_option maxRecDepth 100000 in
set_option maxHeartbeats 1000000 in
theorem refText_any (k : Int) (n : Nat) (k1 : 1 ≤ k) (k8 : k ≤ 8) (hn : n ≤ 1000000) (w : World) : Calls Tryd.prog 21 #[.agg #[.int .i64 k, .int .i64 (n : Int)]] w fun e w' => e = .returned (.string (actText k n)) ∧ Below w.heap.size w w' := by
  have hword := fun W => word_any k k1 k8 W
  have hdig := fun W => digits_any n W hn
  have hA := Blk.new w 23 #[.int .i64 k, .int .i64 (n : Int)]
  have a0 := hA.cell 0
  have a1 := hA.cell 1
  simp only [List.getElem?_toArray, List.getElem?_cons_zero, List.getElem?_cons_succ] at a0 a1
  have HB := Lib.hid ((Below.refl w.heap.size w).alloc (Nat.le_refl _) (.cells #[.int .i64 k, .int .i64 (n : Int)] 23))
  have hs1 : ¬ 9223372036854775807 < (actWord k).size + 1 := by have := word_size k; omega
  have hs2 : ¬ 9223372036854775807 < (actWord k).size + 1 + (decS n).size := by have := word_size k; have := decS_size n (by omega); omega
  have Hword := Lib.hid hword
  have Hdig := Lib.hid hdig
  unfold actText
  by_cases hk : k = 4 ∨ k = 6
  · rw [if_pos hk]
    have hkz : (decide (k = 4) || decide (k = 6)) = true := by rcases hk with h | h <;> simp [h]
    have hkd : (k == 4) = true ∨ ((k == 4) = false ∧ (k == 6) = true) := by rcases hk with rfl | rfl <;> simp
    clear hA hword hdig hk hkz
    generalize actWord k = wd at *
    rcases hkd with hk4 | ⟨hk4, hk6⟩
    all_goals
      go_enter Tryd.func21, Tryd.ntmps21
      go_upto_region 2 with fail
      go_region_held3 (fun w' => w'.cell? ⟨w.heap.size, 0, none⟩ = some (.int .i64 k) ∧ w'.cell? ⟨w.heap.size, 1, none⟩ = some (.int .i64 (n : Int)) ∧ Below w.heap.size w w') (first | exact ⟨a0, a1, HB.out.drew⟩ | exact keep2 (by assumption) hbx | go_keep) (first | (go_at_call 37; refine (Hword.out _).mono ?_; rintro e wx ⟨rfl, hbx⟩) | (go_at_call 38; refine (Hdig.out _).mono ?_; rintro e wx ⟨rfl, hbx⟩))
      have hfin : Below w.heap.size w wx := (show wx.cell? ⟨w.heap.size, 0, none⟩ = some (.int .i64 k) ∧ wx.cell? ⟨w.heap.size, 1, none⟩ = some (.int .i64 (n : Int)) ∧ Below w.heap.size w wx by assumption).2.2
      go_wp2
      go_ret
      exact ⟨rfl, hfin⟩
  · rw [if_neg hk]
    have hk4 : (k == 4) = false := by simpa using fun h => hk (.inl h)
    have hk6 : (k == 6) = false := by simpa using fun h => hk (.inr h)
    clear hA hword hdig hk
    go_enter Tryd.func21, Tryd.ntmps21
    go_wp2_with (go_at_call 37; refine (Hword.out _).mono ?_; rintro e wx ⟨rfl, hbx⟩)
    go_ret
    exact ⟨rfl, HB.out.trans (hbx.mono HB.out.size)⟩
end Go.Proofs.YtkgmbogmeppmcaaDoor
