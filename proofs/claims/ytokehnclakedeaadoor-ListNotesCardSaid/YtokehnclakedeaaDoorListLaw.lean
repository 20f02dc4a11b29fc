/- strainerlaw03.of, awake; ListLines, ListApart: the walks. -/
import Derived.Test.YtokehnclakedeaaDoorListRLine
import Derived.Test.YtokehnclakedeaaDoorListInj
namespace Go.Proofs.YtokehnclakedeaaDoor
open Go Go.Proofs Go.RowKit

set_option maxRecDepth 100000 in
set_option maxHeartbeats 1000000 in
theorem of3_any (c jt jf k : Int) (w : World) : Calls Tryd.prog 7 #[.agg #[.int .u16 c, .int .u8 jt, .int .u8 jf, .int .u32 k]] w fun e w' => e = .returned (.agg #[.int .u16 c, .int .u8 jt, .int .u8 jf, .int .u32 k]) ∧ Below w.heap.size w w' := by
  have bC := (Blk.new w 25 #[.int .u16 c, .int .u8 jt, .int .u8 jf, .int .u32 k]).alloc (.cells #[.int .u16 0, .int .u8 0, .int .u8 0, .int .u32 0] 27)
  have bZ := Blk.new (w.alloc (.cells #[.int .u16 c, .int .u8 jt, .int .u8 jf, .int .u32 k] 25)) 27 #[.int .u16 0, .int .u8 0, .int .u8 0, .int .u32 0]
  have hb1 := ((Below.refl w.heap.size w).alloc (Nat.le_refl _) (.cells #[.int .u16 c, .int .u8 jt, .int .u8 jf, .int .u32 k] 25)).alloc (by simp) (.cells #[.int .u16 0, .int .u8 0, .int .u8 0, .int .u32 0] 27)
  simp only [World.size_alloc] at bZ
  have HC := Lib.hid bC
  have HZ := Lib.hid bZ
  have HB := Lib.hid hb1
  clear bC bZ hb1
  have c0 := HC.out.cell 0
  have c1 := HC.out.cell 1
  have c2 := HC.out.cell 2
  have c3 := HC.out.cell 3
  simp only [List.getElem?_toArray, List.getElem?_cons_zero, List.getElem?_cons_succ] at c0 c1 c2 c3
  have z0 := HZ.out.frozen 0
  have z1 := HZ.out.frozen 1
  have z2 := HZ.out.frozen 2
  have z3 := HZ.out.frozen 3
  have y0 := HZ.out.cell 0
  have y1 := HZ.out.cell 1
  have y2 := HZ.out.cell 2
  have y3 := HZ.out.cell 3
  simp only [List.getElem?_toArray, List.getElem?_cons_zero, List.getElem?_cons_succ] at y0 y1 y2 y3
  go_enter Tryd.func7, Tryd.ntmps7
  go_wp2
  have bF := (((HZ.out.set 0 (.int .u16 c)).set 1 (.int .u8 jt)).set 2 (.int .u8 jf)).set 3 (.int .u32 k)
  have e0 := bF.cell 0
  have e1 := bF.cell 1
  have e2 := bF.cell 2
  have e3 := bF.cell 3
  simp at e0 e1 e2 e3
  refine bodyPost_ret (v := .agg #[.int .u16 c, .int .u8 jt, .int .u8 jf, .int .u32 k]) (by simp [results, Tryd.results7, go_sem, e0, e1, e2, e3]) rfl ⟨rfl, ?_⟩
  exact ((Below.refl w.heap.size w).alloc (Nat.le_refl _) _).alloc (by simp) _
theorem line_ex1 : lineS 21 1 2 3 = ⟨#[106, 101, 113, 32, 35, 51, 32, 49, 32, 50]⟩ := by decide +kernel
theorem line_ex2 : lineS 6 1 0 0 = ⟨#[46, 99, 111, 100, 101, 32, 54, 32, 49, 32, 48, 32, 48]⟩ := by decide +kernel
theorem AscT.on {W W' : World} {B : Nat} (h : AscT W) (hb : Below B W W') (hB : W.heap.size ≤ B) : AscT W' := h.below (hb.mono hB)
set_option maxRecDepth 100000 in
set_option maxHeartbeats 1000000 in
theorem awake03_any (w : World) (hT : AscT w) (hp : Pow10 w) : Calls Tryd.prog 9 #[] w fun e w' => e = .returned (.bool true) ∧ Below w.heap.size w w' := by
  have h1 := line3_any 21 1 2 3 (by decide) (by decide) (by decide) (by decide) w hT hp
  rw [line_ex1] at h1
  have h2 := fun W hT hp => line3_any 6 1 0 0 (by decide) (by decide) (by decide) (by decide) W hT hp
  rw [line_ex2] at h2
  have H1 := Lib.hid h1
  have H2 := Lib.hid h2
  have HT := Lib.hid hT
  have HP := Lib.hid hp
  clear h1 h2 hT hp
  go_enter Tryd.func9, Tryd.ntmps9
  go_wp2_with fail
  refine H1.out.mono ?_
  rintro e w1 ⟨rfl, hb1⟩
  have HB1 := Lib.hid hb1
  clear hb1
  go_wp2_with fail
  refine (H2.out _ (HT.out.below HB1.out) (HP.out.below HB1.out)).mono ?_
  rintro e w2 ⟨rfl, hb2⟩
  have HB2 := Lib.hid (HB1.out.trans (hb2.mono HB1.out.size))
  clear hb2
  go_wp2
  go_ret
  exact ⟨rfl, HB2.out⟩
theorem lcell {w wx : World} {a : Addr} {v : Value} (hb : Below w.heap.size w wx) (h : w.cell? a = some v) : wx.cell? a = some v := (hb.cell (World.block_lt_of_cell? _ _ h)).trans h
theorem keepL4 {a W wx : World} {p0 p1 p2 p3 : Addr} {u0 u1 u2 u3 : Value}
    (h : W.cell? p0 = some u0 ∧ W.cell? p1 = some u1 ∧ W.cell? p2 = some u2 ∧ W.cell? p3 = some u3 ∧ Below a.heap.size a W) (hb : Below W.heap.size W wx) :
    wx.cell? p0 = some u0 ∧ wx.cell? p1 = some u1 ∧ wx.cell? p2 = some u2 ∧ wx.cell? p3 = some u3 ∧ Below a.heap.size a wx :=
  ⟨lcell hb h.1, lcell hb h.2.1, lcell hb h.2.2.1, lcell hb h.2.2.2.1, h.2.2.2.2.trans (hb.mono h.2.2.2.2.size)⟩
set_option maxRecDepth 100000 in
set_option maxHeartbeats 4000000 in
theorem listlines_any (c jt jf k : Nat) (hc : c < 65536) (hjt : jt < 256) (hjf : jf < 256) (hk : k < 4294967296) (w : World) (hT : AscT w) (hp : Pow10 w) :
    Calls Tryd.prog 3 #[.agg #[.int .u16 (c : Int), .int .u8 (jt : Int), .int .u8 (jf : Int), .int .u32 (k : Int)]] w fun e w' => e = .returned (.bool true) ∧ Below w.heap.size w w' := by
  have hA := Blk.new w 25 #[.int .u16 (c : Int), .int .u8 (jt : Int), .int .u8 (jf : Int), .int .u32 (k : Int)]
  have hb := (Below.refl w.heap.size w).alloc (Nat.le_refl _) (.cells #[.int .u16 (c : Int), .int .u8 (jt : Int), .int .u8 (jf : Int), .int .u32 (k : Int)] 25)
  have HA := Lib.hid hA
  have HB := Lib.hid hb
  have hln := fun W hT hp => line3_any c jt jf k hc hjt hjf hk W hT hp
  have hrl := fun W => rline_any c jt jf k hc hjt hjf hk W
  generalize lineS c jt jf k = L at *
  have HLN := Lib.hid hln
  have HRL := Lib.hid hrl
  have MkT : Hid (∀ W, (W.cell? ⟨w.heap.size, 0, none⟩ = some (.int .u16 (c : Int)) ∧ W.cell? ⟨w.heap.size, 1, none⟩ = some (.int .u8 (jt : Int)) ∧ W.cell? ⟨w.heap.size, 2, none⟩ = some (.int .u8 (jf : Int)) ∧ W.cell? ⟨w.heap.size, 3, none⟩ = some (.int .u32 (k : Int)) ∧ Below (w.alloc (.cells #[.int .u16 (c : Int), .int .u8 (jt : Int), .int .u8 (jf : Int), .int .u32 (k : Int)] 25)).heap.size (w.alloc (.cells #[.int .u16 (c : Int), .int .u8 (jt : Int), .int .u8 (jf : Int), .int .u32 (k : Int)] 25)) W) → AscT W ∧ Pow10 W) := fun W h => ⟨(hT.below hb).below h.2.2.2.2, (hp.below hb).below h.2.2.2.2⟩
  clear hA hb hln hrl hc hjt hjf hk hT hp
  go_enter Tryd.func3, Tryd.ntmps3
  go_upto_region 1 with fail
  have c0 := HA.out.cell 0
  have c1 := HA.out.cell 1
  have c2 := HA.out.cell 2
  have c3 := HA.out.cell 3
  simp only [List.getElem?_toArray, List.getElem?_cons_zero, List.getElem?_cons_succ] at c0 c1 c2 c3
  generalize w.alloc (.cells #[.int .u16 (c : Int), .int .u8 (jt : Int), .int .u8 (jf : Int), .int .u32 (k : Int)] 25) = W0 at *
  generalize hwh : w.heap.size = WH at *
  have HWH := Lib.hid hwh
  clear hwh
  go_region_held3 (fun w' => w'.cell? ⟨WH, 0, none⟩ = some (.int .u16 (c : Int)) ∧ w'.cell? ⟨WH, 1, none⟩ = some (.int .u8 (jt : Int)) ∧ w'.cell? ⟨WH, 2, none⟩ = some (.int .u8 (jf : Int)) ∧ w'.cell? ⟨WH, 3, none⟩ = some (.int .u32 (k : Int)) ∧ Below W0.heap.size W0 w') (first | exact ⟨c0, c1, c2, c3, (Below.refl _ W0).drew⟩ | exact keepL4 (by assumption) hbx | go_keep) (first | (go_at_call 7; refine (of3_any _ _ _ _ _).mono ?_; rintro e wx ⟨rfl, hbx⟩) | (go_at_call 6; refine (HLN.out _ (MkT.out _ (by assumption)).1 (MkT.out _ (by assumption)).2).mono ?_; rintro e wx ⟨rfl, hbx⟩) | (go_at_call 8; refine (HRL.out _).mono ?_; rintro e wx ⟨rfl, hbx⟩) | (go_at_call 9; refine (awake03_any _ (MkT.out _ (by assumption)).1 (MkT.out _ (by assumption)).2).mono ?_; rintro e wx ⟨rfl, hbx⟩))
  have hfin : Below W0.heap.size W0 wx := (show wx.cell? ⟨WH, 0, none⟩ = some (.int .u16 (c : Int)) ∧ wx.cell? ⟨WH, 1, none⟩ = some (.int .u8 (jt : Int)) ∧ wx.cell? ⟨WH, 2, none⟩ = some (.int .u8 (jf : Int)) ∧ wx.cell? ⟨WH, 3, none⟩ = some (.int .u32 (k : Int)) ∧ Below W0.heap.size W0 wx by assumption).2.2.2.2
  go_wp2
  go_ret
  exact ⟨rfl, by rw [HWH.out]; exact HB.out.trans (hfin.mono (by have := HB.out.size; rw [HWH.out] at this; exact this))⟩
end Go.Proofs.YtokehnclakedeaaDoor
