/- strainerlaw03.ListReads: the walk. -/
import Derived.Test.YtokehnclakedeaaGreatDoorListRRead3
import Derived.Test.YtokehnclakedeaaGreatDoorListNotesW
namespace Go.Proofs.YtokehnclakedeaaGreatDoor
open Go Go.Proofs Go.RowKit

/-- The document's Read is the program's. -/
theorem rread3_any (s : ByteArray) (hs : s.size ≤ 1000000) (w : World) : Calls Tryz.prog 8 #[.string s] w fun e w' => e = .returned (ansV (listAns s.data.toList)) ∧ Below w.heap.size w w' := by
  unfold listAns
  cases hws : lineWords s.data.toList with
  | nil => exact rread_empty s hs hws w
  | cons w0 r =>
    by_cases hq : (w0.toList == dotCode) = true
    · have hl : lineV w0 r = if r.length + 1 = 5 then codeV r else none := by unfold lineV; rw [if_pos hq]
      have HL : listAnsW (w0 :: r) = readL (if r.length + 1 = 5 then codeV r else none) := by show readL (lineV w0 r) = _; rw [hl]
      rw [HL]
      by_cases h5 : r.length + 1 = 5
      · obtain ⟨s1, s2, s3, s4, rfl⟩ := len5 h5
        rw [if_pos h5]
        have hcv : codeV [s1, s2, s3, s4] = (match numV s1.data.toList 16 with | none => none | some c => (match numV s2.data.toList 8 with | none => none | some a => (match numV s3.data.toList 8 with | none => none | some b => (match numV s4.data.toList 32 with | none => none | some k => some (c, a, b, k))))) := rfl
        rw [hcv]
        cases h1 : numV s1.data.toList 16 with
        | none => exact rread_code1 s hs w0 s1 s2 s3 s4 hws hq h1 w
        | some n1 =>
          cases h2 : numV s2.data.toList 8 with
          | none => exact rread_code2 s hs w0 s1 s2 s3 s4 hws hq n1 h1 h2 w
          | some n2 =>
            cases h3 : numV s3.data.toList 8 with
            | none => exact rread_code3 s hs w0 s1 s2 s3 s4 hws hq n1 h1 n2 h2 h3 w
            | some n3 =>
              cases h4 : numV s4.data.toList 32 with
              | none => exact rread_code4 s hs w0 s1 s2 s3 s4 hws hq n1 h1 n2 h2 n3 h3 h4 w
              | some n4 => exact rread_code5 s hs w0 s1 s2 s3 s4 hws hq n1 h1 n2 h2 n3 h3 n4 h4 w
      · rw [if_neg h5]
        exact rread_codeN s hs w0 r hws hq h5 w
    · exact rread_forms s hs w0 r hws hq w
set_option maxRecDepth 100000 in
set_option maxHeartbeats 16000000 in
theorem listreads_any (s : ByteArray) (w : World) (hT : AscT w) (hp : Pow10 w) :
    Calls Tryz.prog 3 #[.string s] w fun e w' => e = .returned (.bool true) ∧ Below w.heap.size w w' := by
  by_cases hn : 100 < s.size
  · have hnz : (100 : Int) < (s.size : Int) := by omega
    clear hn
    go_enter Tryz.func3, Tryz.ntmps3
    go_wp2
    go_ret
    exact ⟨rfl, Below.refl _ _⟩
  have hnz : ¬ (100 : Int) < (s.size : Int) := by omega
  have hr1 := fun W hW => read3_any s (by omega) W hW
  have hr2 := fun W => rread3_any s (by omega) W
  obtain ⟨⟨⟨c, jt, jf, k⟩, er⟩, hans⟩ : ∃ x, listAns s.data.toList = x := ⟨_, rfl⟩
  rw [hans] at hr1 hr2
  have HR1 := Lib.hid hr1
  have HR2 := Lib.hid hr2
  have HT := Lib.hid hT
  have HP := Lib.hid hp
  clear hn hr1 hr2 hans hT hp
  go_enter Tryz.func3, Tryz.ntmps3
  go_wp2_with fail
  refine (HR1.out _ HT.out).mono ?_
  rintro e w1 ⟨he, hb1⟩
  obtain rfl : e = .returned (.tuple #[.agg #[.int .u16 (c : Int), .int .u8 (jt : Int), .int .u8 (jf : Int), .int .u32 (k : Int)], .int .i64 (er : Int)]) := he
  have HA1 := Lib.hid (Blk.new w1 25 #[.int .u16 (c : Int), .int .u8 (jt : Int), .int .u8 (jf : Int), .int .u32 (k : Int)])
  have HB1 := Lib.hid (hb1.alloc hb1.size (.cells #[.int .u16 (c : Int), .int .u8 (jt : Int), .int .u8 (jf : Int), .int .u32 (k : Int)] 25))
  clear hb1 HR1
  go_upto_region 4 with fail
  generalize w1.alloc (.cells #[.int .u16 (c : Int), .int .u8 (jt : Int), .int .u8 (jf : Int), .int .u32 (k : Int)] 25) = w2 at *
  generalize w1.heap.size = WH at *
  go_wp2_with fail
  refine (HR2.out _).mono ?_
  rintro e w3 ⟨he, hb3⟩
  obtain rfl : e = .returned (.tuple #[.agg #[.int .u16 (c : Int), .int .u8 (jt : Int), .int .u8 (jf : Int), .int .u32 (k : Int)], .int .i64 (er : Int)]) := he
  have HA3 := Lib.hid ((blkH HA1 hb3).out.alloc (.cells #[.int .u16 (c : Int), .int .u8 (jt : Int), .int .u8 (jf : Int), .int .u32 (k : Int)] 29))
  have HC3 := Lib.hid (Blk.new w3 29 #[.int .u16 (c : Int), .int .u8 (jt : Int), .int .u8 (jf : Int), .int .u32 (k : Int)])
  have HB3' := belB HB1 hb3
  have HB3 := Lib.hid (HB3'.out.alloc HB3'.out.size (.cells #[.int .u16 (c : Int), .int .u8 (jt : Int), .int .u8 (jf : Int), .int .u32 (k : Int)] 29))
  clear HA1 HB1 HB3' hb3 HR2
  go_upto_region 5 with fail
  generalize w3.alloc (.cells #[.int .u16 (c : Int), .int .u8 (jt : Int), .int .u8 (jf : Int), .int .u32 (k : Int)] 29) = W0 at *
  generalize w3.heap.size = B8 at *
  have c0 := HA3.out.cell 0
  have c1 := HA3.out.cell 1
  have c2 := HA3.out.cell 2
  have c3 := HA3.out.cell 3
  have d0 := HC3.out.cell 0
  have d1 := HC3.out.cell 1
  have d2 := HC3.out.cell 2
  have d3 := HC3.out.cell 3
  simp only [List.getElem?_toArray, List.getElem?_cons_zero, List.getElem?_cons_succ] at c0 c1 c2 c3 d0 d1 d2 d3
  have HBx : Hid (Below w.heap.size w W0) := HB3.out
  clear HA3 HC3 HB3
  have MkT : Hid (∀ W, (W.cell? ⟨WH, 0, none⟩ = some (.int .u16 (c : Int)) ∧ W.cell? ⟨WH, 1, none⟩ = some (.int .u8 (jt : Int)) ∧ W.cell? ⟨WH, 2, none⟩ = some (.int .u8 (jf : Int)) ∧ W.cell? ⟨WH, 3, none⟩ = some (.int .u32 (k : Int)) ∧ W.cell? ⟨B8, 0, none⟩ = some (.int .u16 (c : Int)) ∧ W.cell? ⟨B8, 1, none⟩ = some (.int .u8 (jt : Int)) ∧ W.cell? ⟨B8, 2, none⟩ = some (.int .u8 (jf : Int)) ∧ W.cell? ⟨B8, 3, none⟩ = some (.int .u32 (k : Int)) ∧ Below W0.heap.size W0 W) → AscT W ∧ Pow10 W) := fun W h => ⟨HT.out.below (HBx.out.trans (h.2.2.2.2.2.2.2.2.mono HBx.out.size)), HP.out.below (HBx.out.trans (h.2.2.2.2.2.2.2.2.mono HBx.out.size))⟩
  go_region_held3 (fun w' => w'.cell? ⟨WH, 0, none⟩ = some (.int .u16 (c : Int)) ∧ w'.cell? ⟨WH, 1, none⟩ = some (.int .u8 (jt : Int)) ∧ w'.cell? ⟨WH, 2, none⟩ = some (.int .u8 (jf : Int)) ∧ w'.cell? ⟨WH, 3, none⟩ = some (.int .u32 (k : Int)) ∧ w'.cell? ⟨B8, 0, none⟩ = some (.int .u16 (c : Int)) ∧ w'.cell? ⟨B8, 1, none⟩ = some (.int .u8 (jt : Int)) ∧ w'.cell? ⟨B8, 2, none⟩ = some (.int .u8 (jf : Int)) ∧ w'.cell? ⟨B8, 3, none⟩ = some (.int .u32 (k : Int)) ∧ Below W0.heap.size W0 w') (first | exact ⟨c0, c1, c2, c3, d0, d1, d2, d3, (Below.refl _ W0).drew⟩ | exact keepL8 (by assumption) hbx | go_keep) (first | (go_at_call 9; refine (of3_any _ _ _ _ _).mono ?_; rintro e wx ⟨rfl, hbx⟩) | (go_at_call 10; refine (awake03_any _ (MkT.out _ (by assumption)).1 (MkT.out _ (by assumption)).2).mono ?_; rintro e wx ⟨rfl, hbx⟩))
  have hfin : Below W0.heap.size W0 wx := (show wx.cell? ⟨WH, 0, none⟩ = some (.int .u16 (c : Int)) ∧ wx.cell? ⟨WH, 1, none⟩ = some (.int .u8 (jt : Int)) ∧ wx.cell? ⟨WH, 2, none⟩ = some (.int .u8 (jf : Int)) ∧ wx.cell? ⟨WH, 3, none⟩ = some (.int .u32 (k : Int)) ∧ wx.cell? ⟨B8, 0, none⟩ = some (.int .u16 (c : Int)) ∧ wx.cell? ⟨B8, 1, none⟩ = some (.int .u8 (jt : Int)) ∧ wx.cell? ⟨B8, 2, none⟩ = some (.int .u8 (jf : Int)) ∧ wx.cell? ⟨B8, 3, none⟩ = some (.int .u32 (k : Int)) ∧ Below W0.heap.size W0 wx by assumption).2.2.2.2.2.2.2.2
  go_wp2
  go_ret
  exact ⟨rfl, HBx.out.trans (hfin.mono HBx.out.size)⟩
end Go.Proofs.YtokehnclakedeaaGreatDoor
