/- strainerlaw03.ListApart: the walk. -/
import Derived.Test.YtokehnclakedeaaDoorListLaw
namespace Go.Proofs.YtokehnclakedeaaDoor
open Go Go.Proofs Go.RowKit

theorem keepL8 {a W wx : World} {p0 p1 p2 p3 q0 q1 q2 q3 : Addr} {u0 u1 u2 u3 v0 v1 v2 v3 : Value}
    (h : W.cell? p0 = some u0 ∧ W.cell? p1 = some u1 ∧ W.cell? p2 = some u2 ∧ W.cell? p3 = some u3 ∧ W.cell? q0 = some v0 ∧ W.cell? q1 = some v1 ∧ W.cell? q2 = some v2 ∧ W.cell? q3 = some v3 ∧ Below a.heap.size a W) (hb : Below W.heap.size W wx) :
    wx.cell? p0 = some u0 ∧ wx.cell? p1 = some u1 ∧ wx.cell? p2 = some u2 ∧ wx.cell? p3 = some u3 ∧ wx.cell? q0 = some v0 ∧ wx.cell? q1 = some v1 ∧ wx.cell? q2 = some v2 ∧ wx.cell? q3 = some v3 ∧ Below a.heap.size a wx :=
  ⟨lcell hb h.1, lcell hb h.2.1, lcell hb h.2.2.1, lcell hb h.2.2.2.1, lcell hb h.2.2.2.2.1, lcell hb h.2.2.2.2.2.1, lcell hb h.2.2.2.2.2.2.1, lcell hb h.2.2.2.2.2.2.2.1, h.2.2.2.2.2.2.2.2.trans (hb.mono h.2.2.2.2.2.2.2.2.size)⟩
/-- The bounds of an instruction's fields. -/
def InsB (c jt jf k : Nat) : Prop := c < 65536 ∧ jt < 256 ∧ jf < 256 ∧ k < 4294967296
theorem lineB (c jt jf k : Nat) (w : World) (h : InsB c jt jf k) (hT : AscT w) (hp : Pow10 w) : Calls Tryd.prog 6 #[.agg #[.int .u16 (c : Int), .int .u8 (jt : Int), .int .u8 (jf : Int), .int .u32 (k : Int)]] w fun e w' => e = .returned (.string (lineS c jt jf k)) ∧ Below w.heap.size w w' := line3_any c jt jf k h.1 h.2.1 h.2.2.1 h.2.2.2 w hT hp
theorem bytes_injT {a b : ByteArray} (h : (a.toList == b.toList) = true) : a = b := bytes_eqT (by simpa using h)

set_option maxRecDepth 100000 in
set_option maxHeartbeats 8000000 in
theorem listapart_any (c jt jf k c' jt' jf' k' : Nat) (hb1 : InsB c jt jf k) (hb2 : InsB c' jt' jf' k') (w : World) (hT : AscT w) (hp : Pow10 w) :
    Calls Tryd.prog 4 #[.agg #[.int .u16 (c : Int), .int .u8 (jt : Int), .int .u8 (jf : Int), .int .u32 (k : Int)], .agg #[.int .u16 (c' : Int), .int .u8 (jt' : Int), .int .u8 (jf' : Int), .int .u32 (k' : Int)]] w fun e w' => e = .returned (.bool true) ∧ Below w.heap.size w w' := by
  have hA := (Blk.new w 25 #[.int .u16 (c : Int), .int .u8 (jt : Int), .int .u8 (jf : Int), .int .u32 (k : Int)]).alloc (.cells #[.int .u16 (c' : Int), .int .u8 (jt' : Int), .int .u8 (jf' : Int), .int .u32 (k' : Int)] 25)
  have hA2 := Blk.new (w.alloc (.cells #[.int .u16 (c : Int), .int .u8 (jt : Int), .int .u8 (jf : Int), .int .u32 (k : Int)] 25)) 25 #[.int .u16 (c' : Int), .int .u8 (jt' : Int), .int .u8 (jf' : Int), .int .u32 (k' : Int)]
  have hb := ((Below.refl w.heap.size w).alloc (Nat.le_refl _) (.cells #[.int .u16 (c : Int), .int .u8 (jt : Int), .int .u8 (jf : Int), .int .u32 (k : Int)] 25)).alloc (by simp) (.cells #[.int .u16 (c' : Int), .int .u8 (jt' : Int), .int .u8 (jf' : Int), .int .u32 (k' : Int)] 25)
  simp only [World.size_alloc] at hA2
  have HA := Lib.hid hA
  have HA2 := Lib.hid hA2
  have HB := Lib.hid hb
  have HLN := Lib.hid lineB
  have HBD := Lib.hid hb1
  have HBD2 := Lib.hid hb2
  have hinj := fun h => lineS_inj (c := c) (jt := jt) (jf := jf) (k := k) (c' := c') (jt' := jt') (jf' := jf') (k' := k') h
  have HINJ := Lib.hid hinj
  have MkT : Hid (∀ W, (W.cell? ⟨w.heap.size, 0, none⟩ = some (.int .u16 (c : Int)) ∧ W.cell? ⟨w.heap.size, 1, none⟩ = some (.int .u8 (jt : Int)) ∧ W.cell? ⟨w.heap.size, 2, none⟩ = some (.int .u8 (jf : Int)) ∧ W.cell? ⟨w.heap.size, 3, none⟩ = some (.int .u32 (k : Int)) ∧ W.cell? ⟨(w.heap.size + 1), 0, none⟩ = some (.int .u16 (c' : Int)) ∧ W.cell? ⟨(w.heap.size + 1), 1, none⟩ = some (.int .u8 (jt' : Int)) ∧ W.cell? ⟨(w.heap.size + 1), 2, none⟩ = some (.int .u8 (jf' : Int)) ∧ W.cell? ⟨(w.heap.size + 1), 3, none⟩ = some (.int .u32 (k' : Int)) ∧ Below ((w.alloc (.cells #[.int .u16 (c : Int), .int .u8 (jt : Int), .int .u8 (jf : Int), .int .u32 (k : Int)] 25)).alloc (.cells #[.int .u16 (c' : Int), .int .u8 (jt' : Int), .int .u8 (jf' : Int), .int .u32 (k' : Int)] 25)).heap.size ((w.alloc (.cells #[.int .u16 (c : Int), .int .u8 (jt : Int), .int .u8 (jf : Int), .int .u32 (k : Int)] 25)).alloc (.cells #[.int .u16 (c' : Int), .int .u8 (jt' : Int), .int .u8 (jf' : Int), .int .u32 (k' : Int)] 25)) W) → AscT W ∧ Pow10 W) := fun W h => ⟨(hT.below hb).below h.2.2.2.2.2.2.2.2, (hp.below hb).below h.2.2.2.2.2.2.2.2⟩
  clear hA hA2 hb hT hp hb1 hb2 hinj
  go_enter Tryd.func4, Tryd.ntmps4
  go_upto_region 1 with fail
  have c0 := HA.out.cell 0
  have c1 := HA.out.cell 1
  have c2 := HA.out.cell 2
  have c3 := HA.out.cell 3
  have d0 := HA2.out.cell 0
  have d1 := HA2.out.cell 1
  have d2 := HA2.out.cell 2
  have d3 := HA2.out.cell 3
  simp only [List.getElem?_toArray, List.getElem?_cons_zero, List.getElem?_cons_succ] at c0 c1 c2 c3 d0 d1 d2 d3
  clear HA HA2
  generalize ((w.alloc (.cells #[.int .u16 (c : Int), .int .u8 (jt : Int), .int .u8 (jf : Int), .int .u32 (k : Int)] 25)).alloc (.cells #[.int .u16 (c' : Int), .int .u8 (jt' : Int), .int .u8 (jf' : Int), .int .u32 (k' : Int)] 25)) = W0 at *
  generalize hwh2 : w.heap.size + 1 = WH2 at *
  generalize hwh : w.heap.size = WH at *
  have HWH := Lib.hid hwh
  clear hwh hwh2
  by_cases heq : c = c' ∧ jt = jt' ∧ jf = jf' ∧ k = k'
  · obtain ⟨rfl, rfl, rfl, rfl⟩ := heq
    clear HINJ
    go_region_held3 (fun w' => w'.cell? ⟨WH, 0, none⟩ = some (.int .u16 (c : Int)) ∧ w'.cell? ⟨WH, 1, none⟩ = some (.int .u8 (jt : Int)) ∧ w'.cell? ⟨WH, 2, none⟩ = some (.int .u8 (jf : Int)) ∧ w'.cell? ⟨WH, 3, none⟩ = some (.int .u32 (k : Int)) ∧ w'.cell? ⟨WH2, 0, none⟩ = some (.int .u16 (c : Int)) ∧ w'.cell? ⟨WH2, 1, none⟩ = some (.int .u8 (jt : Int)) ∧ w'.cell? ⟨WH2, 2, none⟩ = some (.int .u8 (jf : Int)) ∧ w'.cell? ⟨WH2, 3, none⟩ = some (.int .u32 (k : Int)) ∧ Below W0.heap.size W0 w') (first | exact ⟨c0, c1, c2, c3, d0, d1, d2, d3, (Below.refl _ W0).drew⟩ | exact keepL8 (by assumption) hbx | go_keep) (first | (go_at_call 7; refine (of3_any _ _ _ _ _).mono ?_; rintro e wx ⟨rfl, hbx⟩) | (go_at_call 6; refine (HLN.out _ _ _ _ _ (by first | exact HBD.out | exact HBD2.out) (MkT.out _ (by assumption)).1 (MkT.out _ (by assumption)).2).mono ?_; rintro e wx ⟨rfl, hbx⟩) | (go_at_call 9; refine (awake03_any _ (MkT.out _ (by assumption)).1 (MkT.out _ (by assumption)).2).mono ?_; rintro e wx ⟨rfl, hbx⟩))
    have hfin : Below W0.heap.size W0 wx := (show wx.cell? ⟨WH, 0, none⟩ = some (.int .u16 (c : Int)) ∧ wx.cell? ⟨WH, 1, none⟩ = some (.int .u8 (jt : Int)) ∧ wx.cell? ⟨WH, 2, none⟩ = some (.int .u8 (jf : Int)) ∧ wx.cell? ⟨WH, 3, none⟩ = some (.int .u32 (k : Int)) ∧ wx.cell? ⟨WH2, 0, none⟩ = some (.int .u16 (c : Int)) ∧ wx.cell? ⟨WH2, 1, none⟩ = some (.int .u8 (jt : Int)) ∧ wx.cell? ⟨WH2, 2, none⟩ = some (.int .u8 (jf : Int)) ∧ wx.cell? ⟨WH2, 3, none⟩ = some (.int .u32 (k : Int)) ∧ Below W0.heap.size W0 wx by assumption).2.2.2.2.2.2.2.2
    go_wp2
    go_ret
    exact ⟨rfl, by rw [HWH.out]; exact HB.out.trans (hfin.mono (by have := HB.out.size; rw [HWH.out] at this; exact this))⟩
  · have hls : ((lineS c jt jf k).toList == (lineS c' jt' jf' k').toList) = false := by
      rw [Bool.eq_false_iff]
      intro h
      exact heq (HINJ.out (bytes_injT h))
    have hls2 : ¬ (lineS c jt jf k).toList = (lineS c' jt' jf' k').toList := by simpa using hls
    have HEQ := Lib.hid heq
    clear heq HINJ
    by_cases hne : c = c'
    case neg =>
      have hfe : ((c : Int) == (c' : Int)) = false := by rw [beq_eq_false_iff_ne]; intro h; exact hne (by omega)
      have hfe2 : ¬ (c : Int) = (c' : Int) := fun h => hne (by omega)
      clear hne HEQ
      go_region_held3 (fun w' => w'.cell? ⟨WH, 0, none⟩ = some (.int .u16 (c : Int)) ∧ w'.cell? ⟨WH, 1, none⟩ = some (.int .u8 (jt : Int)) ∧ w'.cell? ⟨WH, 2, none⟩ = some (.int .u8 (jf : Int)) ∧ w'.cell? ⟨WH, 3, none⟩ = some (.int .u32 (k : Int)) ∧ w'.cell? ⟨WH2, 0, none⟩ = some (.int .u16 (c' : Int)) ∧ w'.cell? ⟨WH2, 1, none⟩ = some (.int .u8 (jt' : Int)) ∧ w'.cell? ⟨WH2, 2, none⟩ = some (.int .u8 (jf' : Int)) ∧ w'.cell? ⟨WH2, 3, none⟩ = some (.int .u32 (k' : Int)) ∧ Below W0.heap.size W0 w') (first | exact ⟨c0, c1, c2, c3, d0, d1, d2, d3, (Below.refl _ W0).drew⟩ | exact keepL8 (by assumption) hbx | go_keep) (first | (go_at_call 7; refine (of3_any _ _ _ _ _).mono ?_; rintro e wx ⟨rfl, hbx⟩) | (go_at_call 6; refine (HLN.out _ _ _ _ _ (by first | exact HBD.out | exact HBD2.out) (MkT.out _ (by assumption)).1 (MkT.out _ (by assumption)).2).mono ?_; rintro e wx ⟨rfl, hbx⟩) | (go_at_call 9; refine (awake03_any _ (MkT.out _ (by assumption)).1 (MkT.out _ (by assumption)).2).mono ?_; rintro e wx ⟨rfl, hbx⟩))
      have hfin : Below W0.heap.size W0 wx := (show wx.cell? ⟨WH, 0, none⟩ = some (.int .u16 (c : Int)) ∧ wx.cell? ⟨WH, 1, none⟩ = some (.int .u8 (jt : Int)) ∧ wx.cell? ⟨WH, 2, none⟩ = some (.int .u8 (jf : Int)) ∧ wx.cell? ⟨WH, 3, none⟩ = some (.int .u32 (k : Int)) ∧ wx.cell? ⟨WH2, 0, none⟩ = some (.int .u16 (c' : Int)) ∧ wx.cell? ⟨WH2, 1, none⟩ = some (.int .u8 (jt' : Int)) ∧ wx.cell? ⟨WH2, 2, none⟩ = some (.int .u8 (jf' : Int)) ∧ wx.cell? ⟨WH2, 3, none⟩ = some (.int .u32 (k' : Int)) ∧ Below W0.heap.size W0 wx by assumption).2.2.2.2.2.2.2.2
      go_wp2
      go_ret
      exact ⟨rfl, by rw [HWH.out]; exact HB.out.trans (hfin.mono (by have := HB.out.size; rw [HWH.out] at this; exact this))⟩
    subst hne
    by_cases hne : jt = jt'
    case neg =>
      have hfe : ((jt : Int) == (jt' : Int)) = false := by rw [beq_eq_false_iff_ne]; intro h; exact hne (by omega)
      have hfe2 : ¬ (jt : Int) = (jt' : Int) := fun h => hne (by omega)
      clear hne HEQ
      go_region_held3 (fun w' => w'.cell? ⟨WH, 0, none⟩ = some (.int .u16 (c : Int)) ∧ w'.cell? ⟨WH, 1, none⟩ = some (.int .u8 (jt : Int)) ∧ w'.cell? ⟨WH, 2, none⟩ = some (.int .u8 (jf : Int)) ∧ w'.cell? ⟨WH, 3, none⟩ = some (.int .u32 (k : Int)) ∧ w'.cell? ⟨WH2, 0, none⟩ = some (.int .u16 (c : Int)) ∧ w'.cell? ⟨WH2, 1, none⟩ = some (.int .u8 (jt' : Int)) ∧ w'.cell? ⟨WH2, 2, none⟩ = some (.int .u8 (jf' : Int)) ∧ w'.cell? ⟨WH2, 3, none⟩ = some (.int .u32 (k' : Int)) ∧ Below W0.heap.size W0 w') (first | exact ⟨c0, c1, c2, c3, d0, d1, d2, d3, (Below.refl _ W0).drew⟩ | exact keepL8 (by assumption) hbx | go_keep) (first | (go_at_call 7; refine (of3_any _ _ _ _ _).mono ?_; rintro e wx ⟨rfl, hbx⟩) | (go_at_call 6; refine (HLN.out _ _ _ _ _ (by first | exact HBD.out | exact HBD2.out) (MkT.out _ (by assumption)).1 (MkT.out _ (by assumption)).2).mono ?_; rintro e wx ⟨rfl, hbx⟩) | (go_at_call 9; refine (awake03_any _ (MkT.out _ (by assumption)).1 (MkT.out _ (by assumption)).2).mono ?_; rintro e wx ⟨rfl, hbx⟩))
      have hfin : Below W0.heap.size W0 wx := (show wx.cell? ⟨WH, 0, none⟩ = some (.int .u16 (c : Int)) ∧ wx.cell? ⟨WH, 1, none⟩ = some (.int .u8 (jt : Int)) ∧ wx.cell? ⟨WH, 2, none⟩ = some (.int .u8 (jf : Int)) ∧ wx.cell? ⟨WH, 3, none⟩ = some (.int .u32 (k : Int)) ∧ wx.cell? ⟨WH2, 0, none⟩ = some (.int .u16 (c : Int)) ∧ wx.cell? ⟨WH2, 1, none⟩ = some (.int .u8 (jt' : Int)) ∧ wx.cell? ⟨WH2, 2, none⟩ = some (.int .u8 (jf' : Int)) ∧ wx.cell? ⟨WH2, 3, none⟩ = some (.int .u32 (k' : Int)) ∧ Below W0.heap.size W0 wx by assumption).2.2.2.2.2.2.2.2
      go_wp2
      go_ret
      exact ⟨rfl, by rw [HWH.out]; exact HB.out.trans (hfin.mono (by have := HB.out.size; rw [HWH.out] at this; exact this))⟩
    subst hne
    by_cases hne : jf = jf'
    case neg =>
      have hfe : ((jf : Int) == (jf' : Int)) = false := by rw [beq_eq_false_iff_ne]; intro h; exact hne (by omega)
      have hfe2 : ¬ (jf : Int) = (jf' : Int) := fun h => hne (by omega)
      clear hne HEQ
      go_region_held3 (fun w' => w'.cell? ⟨WH, 0, none⟩ = some (.int .u16 (c : Int)) ∧ w'.cell? ⟨WH, 1, none⟩ = some (.int .u8 (jt : Int)) ∧ w'.cell? ⟨WH, 2, none⟩ = some (.int .u8 (jf : Int)) ∧ w'.cell? ⟨WH, 3, none⟩ = some (.int .u32 (k : Int)) ∧ w'.cell? ⟨WH2, 0, none⟩ = some (.int .u16 (c : Int)) ∧ w'.cell? ⟨WH2, 1, none⟩ = some (.int .u8 (jt : Int)) ∧ w'.cell? ⟨WH2, 2, none⟩ = some (.int .u8 (jf' : Int)) ∧ w'.cell? ⟨WH2, 3, none⟩ = some (.int .u32 (k' : Int)) ∧ Below W0.heap.size W0 w') (first | exact ⟨c0, c1, c2, c3, d0, d1, d2, d3, (Below.refl _ W0).drew⟩ | exact keepL8 (by assumption) hbx | go_keep) (first | (go_at_call 7; refine (of3_any _ _ _ _ _).mono ?_; rintro e wx ⟨rfl, hbx⟩) | (go_at_call 6; refine (HLN.out _ _ _ _ _ (by first | exact HBD.out | exact HBD2.out) (MkT.out _ (by assumption)).1 (MkT.out _ (by assumption)).2).mono ?_; rintro e wx ⟨rfl, hbx⟩) | (go_at_call 9; refine (awake03_any _ (MkT.out _ (by assumption)).1 (MkT.out _ (by assumption)).2).mono ?_; rintro e wx ⟨rfl, hbx⟩))
      have hfin : Below W0.heap.size W0 wx := (show wx.cell? ⟨WH, 0, none⟩ = some (.int .u16 (c : Int)) ∧ wx.cell? ⟨WH, 1, none⟩ = some (.int .u8 (jt : Int)) ∧ wx.cell? ⟨WH, 2, none⟩ = some (.int .u8 (jf : Int)) ∧ wx.cell? ⟨WH, 3, none⟩ = some (.int .u32 (k : Int)) ∧ wx.cell? ⟨WH2, 0, none⟩ = some (.int .u16 (c : Int)) ∧ wx.cell? ⟨WH2, 1, none⟩ = some (.int .u8 (jt : Int)) ∧ wx.cell? ⟨WH2, 2, none⟩ = some (.int .u8 (jf' : Int)) ∧ wx.cell? ⟨WH2, 3, none⟩ = some (.int .u32 (k' : Int)) ∧ Below W0.heap.size W0 wx by assumption).2.2.2.2.2.2.2.2
      go_wp2
      go_ret
      exact ⟨rfl, by rw [HWH.out]; exact HB.out.trans (hfin.mono (by have := HB.out.size; rw [HWH.out] at this; exact this))⟩
    subst hne
    have hne : ¬ k = k' := fun h => HEQ.out ⟨rfl, rfl, rfl, h⟩
    have hfe : ((k : Int) == (k' : Int)) = false := by rw [beq_eq_false_iff_ne]; intro h; exact hne (by omega)
    have hfe2 : ¬ (k : Int) = (k' : Int) := fun h => hne (by omega)
    clear hne HEQ
    go_region_held3 (fun w' => w'.cell? ⟨WH, 0, none⟩ = some (.int .u16 (c : Int)) ∧ w'.cell? ⟨WH, 1, none⟩ = some (.int .u8 (jt : Int)) ∧ w'.cell? ⟨WH, 2, none⟩ = some (.int .u8 (jf : Int)) ∧ w'.cell? ⟨WH, 3, none⟩ = some (.int .u32 (k : Int)) ∧ w'.cell? ⟨WH2, 0, none⟩ = some (.int .u16 (c : Int)) ∧ w'.cell? ⟨WH2, 1, none⟩ = some (.int .u8 (jt : Int)) ∧ w'.cell? ⟨WH2, 2, none⟩ = some (.int .u8 (jf : Int)) ∧ w'.cell? ⟨WH2, 3, none⟩ = some (.int .u32 (k' : Int)) ∧ Below W0.heap.size W0 w') (first | exact ⟨c0, c1, c2, c3, d0, d1, d2, d3, (Below.refl _ W0).drew⟩ | exact keepL8 (by assumption) hbx | go_keep) (first | (go_at_call 7; refine (of3_any _ _ _ _ _).mono ?_; rintro e wx ⟨rfl, hbx⟩) | (go_at_call 6; refine (HLN.out _ _ _ _ _ (by first | exact HBD.out | exact HBD2.out) (MkT.out _ (by assumption)).1 (MkT.out _ (by assumption)).2).mono ?_; rintro e wx ⟨rfl, hbx⟩) | (go_at_call 9; refine (awake03_any _ (MkT.out _ (by assumption)).1 (MkT.out _ (by assumption)).2).mono ?_; rintro e wx ⟨rfl, hbx⟩))
    have hfin : Below W0.heap.size W0 wx := (show wx.cell? ⟨WH, 0, none⟩ = some (.int .u16 (c : Int)) ∧ wx.cell? ⟨WH, 1, none⟩ = some (.int .u8 (jt : Int)) ∧ wx.cell? ⟨WH, 2, none⟩ = some (.int .u8 (jf : Int)) ∧ wx.cell? ⟨WH, 3, none⟩ = some (.int .u32 (k : Int)) ∧ wx.cell? ⟨WH2, 0, none⟩ = some (.int .u16 (c : Int)) ∧ wx.cell? ⟨WH2, 1, none⟩ = some (.int .u8 (jt : Int)) ∧ wx.cell? ⟨WH2, 2, none⟩ = some (.int .u8 (jf : Int)) ∧ wx.cell? ⟨WH2, 3, none⟩ = some (.int .u32 (k' : Int)) ∧ Below W0.heap.size W0 wx by assumption).2.2.2.2.2.2.2.2
    go_wp2
    go_ret
    exact ⟨rfl, by rw [HWH.out]; exact HB.out.trans (hfin.mono (by have := HB.out.size; rw [HWH.out] at this; exact this))⟩
end Go.Proofs.YtokehnclakedeaaDoor
