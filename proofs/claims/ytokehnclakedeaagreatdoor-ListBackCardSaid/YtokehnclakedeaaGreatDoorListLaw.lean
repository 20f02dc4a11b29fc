/- strainerlaw03.of, awake; ListLines, ListApart: the walks. -/
import Derived.Test.YtokehnclakedeaaGreatDoorListRLine
import Derived.Test.YtokehnclakedeaaGreatDoorListInj
namespace Go.Proofs.YtokehnclakedeaaGreatDoor
open Go Go.Proofs Go.RowKit

set_option maxRecDepth 100000 in
set_option maxHeartbeats 1000000 in
theorem of3_any (c jt jf k : Int) (w : World) : Calls Tryz.prog 9 #[.agg #[.int .u16 c, .int .u8 jt, .int .u8 jf, .int .u32 k]] w fun e w' => e = .returned (.agg #[.int .u16 c, .int .u8 jt, .int .u8 jf, .int .u32 k]) ∧ Below w.heap.size w w' := by
  have bC := (Blk.new w 29 #[.int .u16 c, .int .u8 jt, .int .u8 jf, .int .u32 k]).alloc (.cells #[.int .u16 0, .int .u8 0, .int .u8 0, .int .u32 0] 25)
  have bZ := Blk.new (w.alloc (.cells #[.int .u16 c, .int .u8 jt, .int .u8 jf, .int .u32 k] 29)) 25 #[.int .u16 0, .int .u8 0, .int .u8 0, .int .u32 0]
  have hb1 := ((Below.refl w.heap.size w).alloc (Nat.le_refl _) (.cells #[.int .u16 c, .int .u8 jt, .int .u8 jf, .int .u32 k] 29)).alloc (by simp) (.cells #[.int .u16 0, .int .u8 0, .int .u8 0, .int .u32 0] 25)
  simp only [World.size_alloc] at bZ
  have HC := Lib.hid bC
  have HZ := Lib.hid bZ
  have HB := Lib.hid hb1
  clear bC bZ hb1
  have c0 := HC.out.cell 0
  have c1 := HC.out.cell 1
  have c2 := HC.out.cell 2
  have c3 := HC.out.cell 3
  simp only [List.getElem?_toArray, List.getElem?_cons_zero, List.getElem?_cons_succ] at c0 c1 c2 c3
  have z0 := HZ.out.frozen 0
  have z1 := HZ.out.frozen 1
  have z2 := HZ.out.frozen 2
  have z3 := HZ.out.frozen 3
  have y0 := HZ.out.cell 0
  have y1 := HZ.out.cell 1
  have y2 := HZ.out.cell 2
  have y3 := HZ.out.cell 3
  simp only [List.getElem?_toArray, List.getElem?_cons_zero, List.getElem?_cons_succ] at y0 y1 y2 y3
  go_enter Tryz.func9, Tryz.ntmps9
  go_wp2
  have bF := (((HZ.out.set 0 (.int .u16 c)).set 1 (.int .u8 jt)).set 2 (.int .u8 jf)).set 3 (.int .u32 k)
  have e0 := bF.cell 0
  have e1 := bF.cell 1
  have e2 := bF.cell 2
  have e3 := bF.cell 3
  simp at e0 e1 e2 e3
  refine bodyPost_ret (v := .agg #[.int .u16 c, .int .u8 jt, .int .u8 jf, .int .u32 k]) (by simp [results, Tryz.results9, go_sem, e0, e1, e2, e3]) rfl ⟨rfl, ?_⟩
  exact ((Below.refl w.heap.size w).alloc (Nat.le_refl _) _).alloc (by simp) _
theorem line_ex1 : lineS 21 1 2 3 = ⟨#[106, 101, 113, 32, 35, 51, 32, 49, 32, 50]⟩ := by decide +kernel
theorem line_ex2 : lineS 6 1 0 0 = ⟨#[46, 99, 111, 100, 101, 32, 54, 32, 49, 32, 48, 32, 48]⟩ := by decide +kernel
theorem AscT.on {W W' : World} {B : Nat} (h : AscT W) (hb : Below B W W') (hB : W.heap.size ≤ B) : AscT W' := h.below (hb.mono hB)
set_option maxRecDepth 100000 in
set_option maxHeartbeats 1000000 in
theorem awake03_any (w : World) (hT : AscT w) (hp : Pow10 w) : Calls Tryz.prog 10 #[] w fun e w' => e = .returned (.bool true) ∧ Below w.heap.size w w' := by
  have h1 := line3_any 21 1 2 3 (by decide) (by decide) (by decide) (by decide) w hT hp
  rw [line_ex1] at h1
  have h2 := fun W hT hp => line3_any 6 1 0 0 (by decide) (by decide) (by decide) (by decide) W hT hp
  rw [line_ex2] at h2
  have H1 := Lib.hid h1
  have H2 := Lib.hid h2
  have HT := Lib.hid hT
  have HP := Lib.hid hp
  clear h1 h2 hT hp
  go_enter Tryz.func10, Tryz.ntmps10
  go_wp2_with fail
  refine H1.out.mono ?_
  rintro e w1 ⟨rfl, hb1⟩
  have HB1 := Lib.hid hb1
  clear hb1
  go_wp2_with fail
  refine (H2.out _ (HT.out.below HB1.out) (HP.out.below HB1.out)).mono ?_
  rintro e w2 ⟨rfl, hb2⟩
  have HB2 := Lib.hid (HB1.out.trans (hb2.mono HB1.out.size))
  clear hb2
  go_wp2
  go_ret
  exact ⟨rfl, HB2.out⟩
theorem lcell {w wx : World} {a : Addr} {v : Value} (hb : Below w.heap.size w wx) (h : w.cell? a = some v) : wx.cell? a = some v := (hb.cell (World.block_lt_of_cell? _ _ h)).trans h
theorem keepL4 {a W wx : World} {p0 p1 p2 p3 : Addr} {u0 u1 u2 u3 : Value}
    (h : W.cell? p0 = some u0 ∧ W.cell? p1 = some u1 ∧ W.cell? p2 = some u2 ∧ W.cell? p3 = some u3 ∧ Below a.heap.size a W) (hb : Below W.heap.size W wx) :
    wx.cell? p0 = some u0 ∧ wx.cell? p1 = some u1 ∧ wx.cell? p2 = some u2 ∧ wx.cell? p3 = some u3 ∧ Below a.heap.size a wx :=
  ⟨lcell hb h.1, lcell hb h.2.1, lcell hb h.2.2.1, lcell hb h.2.2.2.1, h.2.2.2.2.trans (hb.mono h.2.2.2.2.size)⟩
end Go.Proofs.YtokehnclakedeaaGreatDoor
