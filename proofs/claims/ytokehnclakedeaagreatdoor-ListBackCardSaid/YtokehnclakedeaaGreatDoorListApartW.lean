/- strainerlaw03.ListApart: the walk. -/
import Derived.Test.YtokehnclakedeaaGreatDoorListLaw
namespace Go.Proofs.YtokehnclakedeaaGreatDoor
open Go Go.Proofs Go.RowKit

theorem keepL8 {a W wx : World} {p0 p1 p2 p3 q0 q1 q2 q3 : Addr} {u0 u1 u2 u3 v0 v1 v2 v3 : Value}
    (h : W.cell? p0 = some u0 ∧ W.cell? p1 = some u1 ∧ W.cell? p2 = some u2 ∧ W.cell? p3 = some u3 ∧ W.cell? q0 = some v0 ∧ W.cell? q1 = some v1 ∧ W.cell? q2 = some v2 ∧ W.cell? q3 = some v3 ∧ Below a.heap.size a W) (hb : Below W.heap.size W wx) :
    wx.cell? p0 = some u0 ∧ wx.cell? p1 = some u1 ∧ wx.cell? p2 = some u2 ∧ wx.cell? p3 = some u3 ∧ wx.cell? q0 = some v0 ∧ wx.cell? q1 = some v1 ∧ wx.cell? q2 = some v2 ∧ wx.cell? q3 = some v3 ∧ Below a.heap.size a wx :=
  ⟨lcell hb h.1, lcell hb h.2.1, lcell hb h.2.2.1, lcell hb h.2.2.2.1, lcell hb h.2.2.2.2.1, lcell hb h.2.2.2.2.2.1, lcell hb h.2.2.2.2.2.2.1, lcell hb h.2.2.2.2.2.2.2.1, h.2.2.2.2.2.2.2.2.trans (hb.mono h.2.2.2.2.2.2.2.2.size)⟩
/-- The bounds of an instruction's fields. -/
def InsB (c jt jf k : Nat) : Prop := c < 65536 ∧ jt < 256 ∧ jf < 256 ∧ k < 4294967296
theorem lineB (c jt jf k : Nat) (w : World) (h : InsB c jt jf k) (hT : AscT w) (hp : Pow10 w) : Calls Tryz.prog 12 #[.agg #[.int .u16 (c : Int), .int .u8 (jt : Int), .int .u8 (jf : Int), .int .u32 (k : Int)]] w fun e w' => e = .returned (.string (lineS c jt jf k)) ∧ Below w.heap.size w w' := line3_any c jt jf k h.1 h.2.1 h.2.2.1 h.2.2.2 w hT hp
theorem bytes_injT {a b : ByteArray} (h : (a.toList == b.toList) = true) : a = b := bytes_eqT (by simpa using h)

end Go.Proofs.YtokehnclakedeaaGreatDoor
