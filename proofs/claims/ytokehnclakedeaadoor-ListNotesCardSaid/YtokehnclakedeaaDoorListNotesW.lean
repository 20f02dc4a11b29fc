/- strainerlaw03.ListNotes: the walk. -/
import Derived.Test.YtokehnclakedeaaDoorListWsP
import Derived.Test.YtokehnclakedeaaDoorListApartW
import Derived.Deep.LoopGhost
namespace Go.Proofs.YtokehnclakedeaaDoor
open Go Go.Proofs Go.RowKit

def gapB : List UInt8 := [13, 32, 32]
def gapOf (c : UInt8) : List UInt8 := if c = 32 then gapB else [c]
def gapped (l : List UInt8) : List UInt8 := l.flatMap gapOf
theorem gapped_take (l : List UInt8) (i : Nat) (c : UInt8) (h : l[i]? = some c) : gapped (l.take (i + 1)) = gapped (l.take i) ++ gapOf c := by
  unfold gapped
  rw [List.take_add_one, h, List.flatMap_append]
  simp
theorem gapped_len : ∀ l : List UInt8, (gapped l).length ≤ 4 * l.length
  | [] => by simp [gapped]
  | c :: r => by
    have := gapped_len r
    unfold gapped at *
    rw [List.flatMap_cons, List.length_append, List.length_cons]
    have h : (gapOf c).length ≤ 4 := by unfold gapOf gapB; split <;> simp
    omega
theorem gapped_app (a b : List UInt8) : gapped (a ++ b) = gapped a ++ gapped b := by unfold gapped; rw [List.flatMap_append]
theorem gapped_word : ∀ x : List UInt8, (∀ b ∈ x, wB b = true) → gapped x = x
  | [], _ => rfl
  | b :: x, h => by
    have hb : b ≠ 32 := by
      rintro rfl
      have := h 32 (by simp)
      revert this
      decide
    have := gapped_word x (fun c hc => h c (by simp [hc]))
    unfold gapped at *
    rw [List.flatMap_cons, this]
    unfold gapOf
    rw [if_neg hb]
    rfl
theorem gapped_join : ∀ xs : List (List UInt8), (∀ x ∈ xs, ∀ b ∈ x, wB b = true) → gapped (gapJ [32] xs) = gapJ gapB xs
  | [], _ => rfl
  | [x], h => gapped_word x (h x (by simp))
  | x :: y :: r, h => by
    have := gapped_join (y :: r) (fun z hz => h z (by simp [List.mem_cons.1 hz]))
    show gapped (x ++ ([32] ++ gapJ [32] (y :: r))) = x ++ (gapB ++ gapJ gapB (y :: r))
    rw [gapped_app, gapped_app, this, gapped_word x (h x (by simp))]
    rfl
theorem lineS_list (c jt jf k : Nat) : (lineS c jt jf k).data.toList = gapJ [32] ((lineWs c jt jf k).map (·.data.toList)) := by
  rw [← join_gap]
  rfl
theorem noted_ans (c jt jf k : Nat) (h : InsB c jt jf k) (s : ByteArray) (note : List UInt8) (hs : s.data.toList = [32, 9] ++ gapped (lineS c jt jf k).data.toList ++ 9 :: 59 :: note) : listAns s.data.toList = ((c, jt, jf, k), 0) := by
  have hw : ∀ x ∈ (lineWs c jt jf k).map (·.data.toList), ∀ b ∈ x, wB b = true := by
    intro x hx
    obtain ⟨y, hy, rfl⟩ := List.mem_map.1 hx
    exact (lineWs_wB c jt jf k y hy).2
  rw [lineS_list, gapped_join _ hw] at hs
  have e : s.data.toList = ([32, 9] ++ (gapJ gapB ((lineWs c jt jf k).map (·.data.toList)) ++ [9])) ++ 59 :: note := by rw [hs]; simp
  unfold listAns lineWords
  rw [e, noteCut_at]
  · rw [wordsGo_blanks [32, 9] _ [] (by decide), wordsGo_gapJ gapB (by decide) (by decide) [9] (by decide) _ [] (lineWs_wB c jt jf k)]
    exact list_back c jt jf k h.1 h.2.1 h.2.2.1 h.2.2.2
  · intro b hb
    rcases List.mem_append.1 hb with hb | hb
    · exact (by decide : ∀ b ∈ [(32 : UInt8), 9], b ≠ 59) b hb
    · rcases List.mem_append.1 hb with hb | hb
      · exact lineWs_note c jt jf k gapB (by decide) b hb
      · exact (by decide : ∀ b ∈ [(9 : UInt8)], b ≠ 59) b hb
theorem note_ans (s : ByteArray) (note : List UInt8) (hs : s.data.toList = 32 :: 59 :: note) : listAns s.data.toList = ((0, 0, 0, 0), 4) := by
  unfold listAns lineWords
  rw [hs, show (32 :: 59 :: note : List UInt8) = [32] ++ 59 :: note from rfl, noteCut_at [32] note (by decide)]
  rfl
theorem sizeL (s : ByteArray) : s.data.toList.length = s.size := Array.length_toList
theorem lineWs_small (c jt jf k : Nat) (h : InsB c jt jf k) : (∀ x ∈ lineWs c jt jf k, x.size ≤ 23) ∧ (lineWs c jt jf k).length ≤ 5 := by
  have h1 := decS_le c (Nat.lt_trans h.1 (by decide))
  have h2 := decS_le jt (Nat.lt_trans h.2.1 (by decide))
  have h3 := decS_le jf (Nat.lt_trans h.2.2.1 (by decide))
  have h4 := decS_le k h.2.2.2
  rcases lineWs_cases c jt jf k with ⟨f, hf, rfl, ho, e⟩ | e <;> rw [e]
  · obtain ⟨f1, _, f3⟩ := forms_ok f hf
    have h5 := written_size f.other (decS k) f1 h4
    constructor
    · intro s hs
      have hx : s = f.word ∨ s = writtenF f.other (decS k) ∨ s = decS jt ∨ s = decS jf := by
        unfold formWs w1 at hs
        split at hs <;> split at hs <;> simp at hs <;> first | (rcases hs with h | h | h | h <;> simp [h]) | (rcases hs with h | h | h <;> simp [h]) | (rcases hs with h | h <;> simp [h]) | simp [hs]
      rcases hx with rfl | rfl | rfl | rfl <;> omega
    · unfold formWs w1
      split <;> split <;> simp
  · constructor
    · intro s hs
      simp only [rawWs, List.mem_cons, List.not_mem_nil, or_false] at hs
      rcases hs with rfl | rfl | rfl | rfl | rfl
      · decide +kernel
      · omega
      · omega
      · omega
      · omega
    · simp [rawWs]
theorem lineS_size (c jt jf k : Nat) (h : InsB c jt jf k) : (lineS c jt jf k).size ≤ 1000 := by
  obtain ⟨h1, h2⟩ := lineWs_small c jt jf k h
  have h3 := join_bound _ h1
  have e : (lineS c jt jf k).size = (Lib.join ((lineWs c jt jf k).map (·.data.toList)) [32]).length := by
    rw [← sizeL]
    rfl
  omega
theorem list_app (a b : ByteArray) : (a ++ b).data.toList = a.data.toList ++ b.data.toList := by simp

set_option maxRecDepth 100000 in
set_option maxHeartbeats 16000000 in
theorem listnotes_any (c jt jf k : Nat) (hb1 : InsB c jt jf k) (note : ByteArray) (w : World) (hT : AscT w) (hp : Pow10 w) :
    Calls Tryd.prog 5 #[.agg #[.int .u16 (c : Int), .int .u8 (jt : Int), .int .u8 (jf : Int), .int .u32 (k : Int)], .string note] w fun e w' => e = .returned (.bool true) ∧ Below w.heap.size w w' := by
  have hA := Blk.new w 25 #[.int .u16 (c : Int), .int .u8 (jt : Int), .int .u8 (jf : Int), .int .u32 (k : Int)]
  have hb := (Below.refl w.heap.size w).alloc (Nat.le_refl _) (.cells #[.int .u16 (c : Int), .int .u8 (jt : Int), .int .u8 (jf : Int), .int .u32 (k : Int)] 25)
  have HA := Lib.hid hA
  have HB := Lib.hid hb
  have HT := Lib.hid hT
  have HP := Lib.hid hp
  have HLN := Lib.hid lineB
  have HBD := Lib.hid hb1
  clear hA hb hT hp hb1
  by_cases hn : 30 < note.size
  · have hnz : (30 : Int) < (note.size : Int) := by omega
    clear hn HA
    go_enter Tryd.func5, Tryd.ntmps5
    go_wp2
    go_ret
    exact ⟨rfl, HB.out⟩
  have hnz : ¬ (30 : Int) < (note.size : Int) := by omega
  have c0 := HA.out.cell 0
  have c1 := HA.out.cell 1
  have c2 := HA.out.cell 2
  have c3 := HA.out.cell 3
  simp only [List.getElem?_toArray, List.getElem?_cons_zero, List.getElem?_cons_succ] at c0 c1 c2 c3
  go_enter Tryd.func5, Tryd.ntmps5
  go_wp2_with fail
  refine (of3_any _ _ _ _ _).mono ?_
  rintro e w1 ⟨rfl, hb1⟩
  have HA1 := blkH HA hb1
  have HB1 := belB HB hb1
  clear HA HB hb1 c0 c1 c2 c3
  go_wp2_with fail
  refine (HLN.out c jt jf k _ HBD.out (HT.out.below HB1.out) (HP.out.below HB1.out)).mono ?_
  rintro e w2 ⟨rfl, hb2⟩
  have HA2 := blkH HA1 hb2
  have HB2 := belB HB1 hb2
  clear HA1 HB1 hb2
  have HNA := Lib.hid (noted_ans c jt jf k HBD.out)
  have hts := lineS_size c jt jf k HBD.out
  generalize lineS c jt jf k = t at *
  go_upto_region 6 with fail
  go_loopg [6, 7] (t.size + 1) (fun gg s6 s7 wr => w2 = wr ∧ ∃ (i : Nat) (r : ByteArray), i ≤ t.size ∧ t.size - i < gg ∧ s7 = .int .i64 i ∧ s6 = .string r ∧ Hid (r.data.toList = [32, 9] ++ gapped (t.data.toList.take i)))
  case atStart => exact ⟨rfl, 0, ⟨#[32, 9]⟩, Nat.zero_le _, by omega, rfl, rfl, rfl⟩
  case round =>
    obtain ⟨rfl, i, r, hi, hg, rfl, rfl, HR⟩ := hrel
    have hrs : r.size ≤ 5000 := by
      have h3 := congrArg List.length HR.out
      have h4 := gapped_len (t.data.toList.take i)
      rw [sizeL, List.length_append] at h3
      rw [List.length_take] at h4
      simp at h3
      omega
    by_cases hlt : i < t.size
    · have hltz : (i : Int) < (t.size : Int) := by omega
      have hi0 : (0 : Int) ≤ (i : Int) := by omega
      have hget : t.data.toList[i]? = some (t[i]'hlt) := by rw [List.getElem?_eq_getElem (by rw [sizeL]; exact hlt)]; rfl
      have htk := gapped_take t.data.toList i _ hget
      have b1 : (i : Int) ≤ (t.size : Int) := by omega
      have b2 : (i : Int) + 1 ≤ (t.size : Int) := by omega
      have b3 : (0 : Int) ≤ (i : Int) + 1 := by omega
      have b4 : ((i : Int) + 1).toNat = i + 1 := by omega
      obtain ⟨X, hX⟩ : ∃ X, t.extract i (i + 1) = X := ⟨_, rfl⟩
      have hXl : X.data.toList = [t[i]'hlt] := by
        rw [← hX, ByteArray.data_extract, Array.toList_extract]
        simp only [List.extract, Nat.add_sub_cancel_left]
        rw [List.drop_eq_getElem_cons (by rw [sizeL]; exact hlt)]
        rfl
      have hXs : X.size = 1 := by rw [← sizeL, hXl]; rfl
      by_cases h10 : t[i]'hlt = 32
      · have h10z : (((t[i]'hlt).toNat : Nat) : Int) = 32 := by rw [h10]; rfl
        have HR2 : Hid ((r ++ ⟨#[13, 32, 32]⟩ : ByteArray).data.toList = [32, 9] ++ gapped (t.data.toList.take (i + 1))) := by
          show _ = _
          rw [htk, list_app, HR.out, h10]
          simp [gapOf, gapB]
        have q1 : r.size + (⟨#[13, 32, 32]⟩ : ByteArray).size ≤ 1000000 := by rw [show (⟨#[13, 32, 32]⟩ : ByteArray).size = 3 from rfl]; omega
        clear h10 hget htk hXl HR
        go_wp2
        go_roundg (t.size - i)
        case measure => omega
        case rel => exact ⟨rfl, i + 1, _, by omega, by omega, by go_num, rfl, HR2⟩
      · have h10z : ¬ (((t[i]'hlt).toNat : Nat) : Int) = 32 := fun e => h10 (UInt8.toNat_inj.1 (by simpa using Int.ofNat.inj e))
        have HR2 : Hid ((r ++ X : ByteArray).data.toList = [32, 9] ++ gapped (t.data.toList.take (i + 1))) := by
          show _ = _
          rw [htk, list_app, HR.out, hXl, List.append_assoc]
          unfold gapOf
          rw [if_neg h10]
        have q1 : r.size + X.size ≤ 1000000 := by omega
        clear h10 hget htk hXl HR
        go_wp2
        go_roundg (t.size - i)
        case measure => omega
        case rel => exact ⟨rfl, i + 1, _, by omega, by omega, by go_num, rfl, HR2⟩
    · obtain rfl : i = t.size := by omega
      have hall : t.data.toList.take t.size = t.data.toList := List.take_of_length_le (by rw [sizeL]; exact Nat.le_refl _)
      have hS : (r ++ ⟨#[9, 59]⟩ ++ note : ByteArray).data.toList = [32, 9] ++ gapped t.data.toList ++ 9 :: 59 :: note.data.toList := by
        rw [list_app, list_app, HR.out, hall]
        simp
      have hans := HNA.out _ _ hS
      have hans2 := note_ans (⟨#[32, 59]⟩ ++ note) note.data.toList (by rw [list_app]; rfl)
      have q1 : r.size + (⟨#[9, 59]⟩ : ByteArray).size ≤ 1000000 := by rw [show (⟨#[9, 59]⟩ : ByteArray).size = 2 from rfl]; omega
      have q2 : (r ++ ⟨#[9, 59]⟩ : ByteArray).size + note.size ≤ 1000000 := by rw [ByteArray.size_append, show (⟨#[9, 59]⟩ : ByteArray).size = 2 from rfl]; omega
      have q3 : (⟨#[32, 59]⟩ : ByteArray).size + note.size ≤ 1000000 := by rw [show (⟨#[32, 59]⟩ : ByteArray).size = 2 from rfl]; omega
      have hr1 := fun W hW => read3_any (r ++ ⟨#[9, 59]⟩ ++ note) (by rw [ByteArray.size_append]; exact q2) W hW
      have hr2 := fun W hW => read3_any (⟨#[32, 59]⟩ ++ note) (by rw [ByteArray.size_append]; exact q3) W hW
      rw [hans] at hr1
      rw [hans2] at hr2
      have HR1 := Lib.hid hr1
      have HR2 := Lib.hid hr2
      clear hall hS hans hans2 hr1 hr2 HR HNA
      go_wp2_with fail
      refine (HR1.out _ (HT.out.below HB2.out)).mono ?_
      rintro e w3 ⟨he, hb3⟩
      obtain rfl : e = .returned (.tuple #[.agg #[.int .u16 (c : Int), .int .u8 (jt : Int), .int .u8 (jf : Int), .int .u32 (k : Int)], .int .i64 0]) := he
      have HA3 := blkH HA2 hb3
      have HB3 := belB HB2 hb3
      have HA4 := Lib.hid (HA3.out.alloc (.cells #[.int .u16 (c : Int), .int .u8 (jt : Int), .int .u8 (jf : Int), .int .u32 (k : Int)] 27))
      have HB4 := Lib.hid (HB3.out.alloc HB3.out.size (.cells #[.int .u16 (c : Int), .int .u8 (jt : Int), .int .u8 (jf : Int), .int .u32 (k : Int)] 27))
      have HC4 := Lib.hid (Blk.new w3 27 #[.int .u16 (c : Int), .int .u8 (jt : Int), .int .u8 (jf : Int), .int .u32 (k : Int)])
      clear HA2 HB2 hb3 HR1 HA3 HB3 q1 q2
      go_upto_region 12 with fail
      generalize w3.alloc (.cells #[.int .u16 (c : Int), .int .u8 (jt : Int), .int .u8 (jf : Int), .int .u32 (k : Int)] 27) = w4 at *
      generalize w3.heap.size = B8 at *
      go_wp2_with fail
      refine (HR2.out _ (HT.out.below HB4.out)).mono ?_
      rintro e w5 ⟨he, hb5⟩
      obtain rfl : e = .returned (.tuple #[.agg #[.int .u16 0, .int .u8 0, .int .u8 0, .int .u32 0], .int .i64 4]) := he
      have HA5 := Lib.hid ((blkH HA4 hb5).out.alloc (.cells #[.int .u16 0, .int .u8 0, .int .u8 0, .int .u32 0] 27))
      have HB5' := belB HB4 hb5
      have HB5 := Lib.hid (HB5'.out.alloc HB5'.out.size (.cells #[.int .u16 0, .int .u8 0, .int .u8 0, .int .u32 0] 27))
      have HC5 := Lib.hid ((blkH HC4 hb5).out.alloc (.cells #[.int .u16 0, .int .u8 0, .int .u8 0, .int .u32 0] 27))
      clear HA4 HB4 HC4 HB5' hb5 HR2 q3
      go_upto_region 13 with fail
      generalize w5.alloc (.cells #[.int .u16 0, .int .u8 0, .int .u8 0, .int .u32 0] 27) = W0 at *
      have c0 := HA5.out.cell 0
      have c1 := HA5.out.cell 1
      have c2 := HA5.out.cell 2
      have c3 := HA5.out.cell 3
      have d0 := HC5.out.cell 0
      have d1 := HC5.out.cell 1
      have d2 := HC5.out.cell 2
      have d3 := HC5.out.cell 3
      simp only [List.getElem?_toArray, List.getElem?_cons_zero, List.getElem?_cons_succ] at c0 c1 c2 c3 d0 d1 d2 d3
      generalize hwh : w.heap.size = WH at *
      have HWH := Lib.hid hwh
      have HBx : Hid (Below WH w W0) := HB5.out
      clear HA5 HC5 HB5 hwh
      have HLE : Hid (WH ≤ W0.heap.size) := by show _ ≤ _; rw [← HWH.out]; exact HBx.out.size
      have MkT : Hid (∀ W, (W.cell? ⟨WH, 0, none⟩ = some (.int .u16 (c : Int)) ∧ W.cell? ⟨WH, 1, none⟩ = some (.int .u8 (jt : Int)) ∧ W.cell? ⟨WH, 2, none⟩ = some (.int .u8 (jf : Int)) ∧ W.cell? ⟨WH, 3, none⟩ = some (.int .u32 (k : Int)) ∧ W.cell? ⟨B8, 0, none⟩ = some (.int .u16 (c : Int)) ∧ W.cell? ⟨B8, 1, none⟩ = some (.int .u8 (jt : Int)) ∧ W.cell? ⟨B8, 2, none⟩ = some (.int .u8 (jf : Int)) ∧ W.cell? ⟨B8, 3, none⟩ = some (.int .u32 (k : Int)) ∧ Below W0.heap.size W0 W) → AscT W ∧ Pow10 W) := fun W h => ⟨HT.out.below (by rw [HWH.out]; exact HBx.out.trans (h.2.2.2.2.2.2.2.2.mono HLE.out)), HP.out.below (by rw [HWH.out]; exact HBx.out.trans (h.2.2.2.2.2.2.2.2.mono HLE.out))⟩
      go_region_held3 (fun w' => w'.cell? ⟨WH, 0, none⟩ = some (.int .u16 (c : Int)) ∧ w'.cell? ⟨WH, 1, none⟩ = some (.int .u8 (jt : Int)) ∧ w'.cell? ⟨WH, 2, none⟩ = some (.int .u8 (jf : Int)) ∧ w'.cell? ⟨WH, 3, none⟩ = some (.int .u32 (k : Int)) ∧ w'.cell? ⟨B8, 0, none⟩ = some (.int .u16 (c : Int)) ∧ w'.cell? ⟨B8, 1, none⟩ = some (.int .u8 (jt : Int)) ∧ w'.cell? ⟨B8, 2, none⟩ = some (.int .u8 (jf : Int)) ∧ w'.cell? ⟨B8, 3, none⟩ = some (.int .u32 (k : Int)) ∧ Below W0.heap.size W0 w') (first | exact ⟨c0, c1, c2, c3, d0, d1, d2, d3, (Below.refl _ W0).drew⟩ | exact keepL8 (by assumption) hbx | go_keep) (first | (go_at_call 7; refine (of3_any _ _ _ _ _).mono ?_; rintro e wx ⟨rfl, hbx⟩) | (go_at_call 9; refine (awake03_any _ (MkT.out _ (by assumption)).1 (MkT.out _ (by assumption)).2).mono ?_; rintro e wx ⟨rfl, hbx⟩))
      have hfin : Below W0.heap.size W0 wx := (show wx.cell? ⟨WH, 0, none⟩ = some (.int .u16 (c : Int)) ∧ wx.cell? ⟨WH, 1, none⟩ = some (.int .u8 (jt : Int)) ∧ wx.cell? ⟨WH, 2, none⟩ = some (.int .u8 (jf : Int)) ∧ wx.cell? ⟨WH, 3, none⟩ = some (.int .u32 (k : Int)) ∧ wx.cell? ⟨B8, 0, none⟩ = some (.int .u16 (c : Int)) ∧ wx.cell? ⟨B8, 1, none⟩ = some (.int .u8 (jt : Int)) ∧ wx.cell? ⟨B8, 2, none⟩ = some (.int .u8 (jf : Int)) ∧ wx.cell? ⟨B8, 3, none⟩ = some (.int .u32 (k : Int)) ∧ Below W0.heap.size W0 wx by assumption).2.2.2.2.2.2.2.2
      go_wp2
      go_ret
      exact ⟨rfl, by rw [HWH.out]; exact HBx.out.trans (hfin.mono HLE.out)⟩
end Go.Proofs.YtokehnclakedeaaDoor
