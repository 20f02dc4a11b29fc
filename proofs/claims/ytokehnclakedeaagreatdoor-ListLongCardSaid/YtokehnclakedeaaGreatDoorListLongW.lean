/- strainerlaw03.ListLong: the walk. -/
import Derived.Test.YtokehnclakedeaaGreatDoorListProg
import Derived.OwnWalk
import Derived.Laws.IdiomStrings
namespace Go.Proofs.YtokehnclakedeaaGreatDoor
open Go Go.Proofs Go.RowKit

theorem infoByte03 : (Tryz.prog.info? 5).map (fun i => (i.zero, i.size, i.bytes)) = some (some (.int .u8 0), 1, 1) := by kernel_rfl
theorem piecesB_one {t : ByteArray} (h : ∀ b ∈ t.data.toList, b ≠ 10) : piecesB t = [t] := by
  unfold piecesB
  rw [pieces_none _ (fun hm => h 10 hm rfl)]
  show [(⟨t.data.toList.toArray⟩ : ByteArray)] = [t]
  simp
theorem listAns_blanks (k : Nat) : listAns (List.replicate k 32) = ((0, 0, 0, 0), 4) := by
  have hb : ∀ b ∈ List.replicate k (32 : UInt8), b = 32 := fun b h => (List.mem_replicate.1 h).2
  have hw : lineWords (List.replicate k 32) = [] := by
    unfold lineWords
    rw [noteCut_none _ (fun b h => by rw [hb b h]; decide)]
    have := wordsGo_blanks (List.replicate k 32) [] [] (fun b h => by rw [hb b h]; decide)
    rw [List.append_nil] at this
    rw [this]
    rfl
  unfold listAns
  rw [hw]
  rfl
theorem progAns_blanks (k : Nat) : progAns ⟨(List.replicate k 32).toArray⟩ = ([], 0, if 65536 < k then 3 else 0) := by
  have hs : (⟨(List.replicate k 32).toArray⟩ : ByteArray).size = k := by
    show (List.replicate k (32 : UInt8)).toArray.size = k
    rw [List.size_toArray, List.length_replicate]
  have ha : ansB ⟨(List.replicate k 32).toArray⟩ = ((0, 0, 0, 0), 4) := listAns_blanks k
  unfold progAns
  rw [hs]
  by_cases h : 65536 < k
  · rw [if_pos h, if_pos h]
  · rw [if_neg h, if_neg h, piecesB_one (fun b hb => by rw [(List.mem_replicate.1 hb).2]; decide)]
    show (if (ansB _).2 = 0 then _ else if (ansB _).2 = 4 then progGo 1 [] [] else _) = _
    rw [ha]
    rfl
theorem rowNil {W : World} {B t : Nat} {v : Value} (h : W.ownsRow B t 4 v 0 []) : ∃ a c, v = .slice a 0 c := by
  rcases h.2 with ⟨h, _⟩ | ⟨g, c, _, h, _⟩
  · exact ⟨_, _, h⟩
  · exact ⟨_, _, h⟩
set_option maxRecDepth 100000 in
set_option maxHeartbeats 4000000 in
theorem listlong_law (n : Int) (h0 : 0 ≤ n) (h1 : n ≤ 255) (w : World) (hT : AscT w) (hp : Pow10 w) : Calls Tryz.prog 5 #[.int .u8 n] w fun e w' => e = .returned (.bool true) ∧ Below w.heap.size w w' := by
  obtain ⟨kk, hkk⟩ : ∃ kk : Nat, 65516 + n % 40 = (kk : Int) := ⟨(65516 + n % 40).toNat, by omega⟩
  have hkl : kk ≤ 65600 := by omega
  have hL1 := fun W hW => program_any ⟨(List.replicate kk 32).toArray⟩ W hW
  rw [progAns_blanks] at hL1
  dsimp only at hL1
  have HL1 := Lib.hid hL1
  have HT := Lib.hid hT
  have HP := Lib.hid hp
  clear hL1 hT hp
  obtain ⟨i0, hi, hz0, hz1, hz2⟩ := info_parts infoByte03
  have hb1 : i0.bytes * kk ≤ 281474976710656 := by rw [hz2]; omega
  have hm1 : kk ≤ maxLen := by unfold maxLen; omega
  have HB1 := Lib.hid hb1
  have HM1 := Lib.hid hm1
  clear hb1 hm1
  go_enter Tryz.func5, Tryz.ntmps5
  go_wp2_with (refine wpList_make_full w rfl _ _ 41 rfl w.heap.size 5 i0 (.int .u8 0) 1 Tryz.underlying41 hi hz0 hz1 .i64 .i64 _ _ kk rfl rfl ?l1 ?l2 HB1.out HM1.out (Nat.le_refl _) ?_; (case l1 => rfl); (case l2 => rfl); intro w1 hown hgrow)
  have hxl : (madeCells (Value.int .u8 0).cells (kk * 1)).toList.length = kk := by simpa only [Nat.mul_one] using hown.1
  have HBg := Lib.hid ((Below.refl w.heap.size w).grown hgrow (Nat.le_refl _) (fun j e => by cases e))
  have HOw := Lib.hid hown
  have HXl := Lib.hid hxl
  clear hown hgrow hxl HB1 HM1
  generalize (madeCells (Value.int .u8 0).cells (kk * 1)).toList = xs0 at *
  go_upto_region 4 with fail
  go_loopg [5] (kk + 1) (fun gg s5 wr => ∃ (k : Nat) (xs : List Value), s5 = .int .i64 k ∧ k ≤ kk ∧ kk - k < gg ∧ Hid (xs.length = kk) ∧ Hid (∀ j, j < k → xs[j]? = some (.int .u8 32)) ∧ Hid (wr.ownsRow w.heap.size 5 1 (.slice (some ⟨w.heap.size, 0, none⟩) kk kk) kk xs) ∧ Hid (Below w.heap.size w wr))
  case atStart => exact ⟨0, xs0, rfl, Nat.zero_le _, by omega, HXl, (show Hid _ from fun j hj => absurd hj (Nat.not_lt_zero _)), HOw, HBg⟩
  case round =>
    obtain ⟨k, xs, rfl, hk, hg, HL, HA, HO, HB⟩ := hrel
    clear HXl HOw HBg
    by_cases hlt : k < kk
    · have hz : (k : Int) < (kk : Int) := by omega
      have hz0 : (0 : Int) ≤ (k : Int) := by omega
      have hlx : k < xs.length := by rw [HL.out]; exact hlt
      have d0 : wr.cell? ⟨w.heap.size, k, none⟩ = some (xs[k]'hlx) := by rw [HO.out.cellAt k (by omega), List.getElem?_eq_getElem hlx]
      have f0 := HO.out.frozenAt k
      have hst := HO.out.stored k (.int .u8 32)
      have HL2 : Hid ((xs.set k (.int .u8 32)).length = kk) := by show _ = _; rw [List.length_set]; exact HL.out
      have HA2 : Hid (∀ j, j < k + 1 → (xs.set k (.int .u8 32))[j]? = some (.int .u8 32)) := by
        show ∀ j, j < k + 1 → _
        intro j hj
        by_cases e : j = k
        · subst e
          rw [List.getElem?_set_self hlx]
        · rw [List.getElem?_set_ne (fun h => e h.symm)]
          exact HA.out j (by omega)
      have HO2 := Lib.hid hst.1
      have HB2 := Lib.hid (HB.out.setCell (p := ⟨w.heap.size, k, none⟩) (Nat.le_refl _) (.int .u8 32))
      clear hst
      generalize xs[k]'hlx = u at *
      go_wp2
      go_roundg (kk - k)
      case measure => omega
      case rel => exact ⟨k + 1, xs.set k (.int .u8 32), by go_num, by omega, by omega, HL2, HA2, HO2, HB2⟩
    · obtain rfl : k = kk := by omega
      have hcv : (convert 41 9 (.slice (some ⟨w.heap.size, 0, none⟩) k k)).run Tryz.prog wr = .ok (.string ⟨(List.replicate k (32 : UInt8)).toArray⟩) wr := by
        have h := run_convert_bytes_back (P := Tryz.prog) wr 41 9 5 ⟨w.heap.size, 0, none⟩ k (List.replicate k (32 : UInt8)) Tryz.underlying41 Tryz.underlying5 Tryz.underlying9 (fun j hj => by
          have hj' : j < k := by simpa using hj
          rw [Addr.add_lit, Nat.zero_add, HO.out.cellAt j (by omega), HA.out j hj']
          simp)
        rw [List.length_replicate] at h
        exact h
      have HL1' := Lib.hid (HL1.out wr (HT.out.below HB.out))
      clear HL HA HO HL1
      go_wp2_with fail
      refine HL1'.out.mono ?_
      rintro e w2 ⟨v, rfl, hl, hb2⟩
      have HB2 := Lib.hid (HB.out.trans (hb2.mono HB.out.size))
      obtain ⟨ga, gc, rfl⟩ := rowNil hl
      clear hl hb2 HL1' HB hcv
      by_cases h65 : 65536 < k
      · have h65z : (65536 : Int) < (k : Int) := by omega
        have hle : ¬ (k : Int) ≤ 65536 := by omega
        have hle2 : decide ((k : Int) ≤ 65536) = false := decide_eq_false hle
        rw [if_pos h65]
        go_wp2_with (go_at_call 10; refine (awake03_any _ (HT.out.below HB2.out) (HP.out.below HB2.out)).mono ?_; rintro e wa ⟨rfl, hba⟩)
        go_ret
        exact ⟨rfl, HB2.out.trans (hba.mono HB2.out.size)⟩
      · have h65z : ¬ (65536 : Int) < (k : Int) := by omega
        have hdz : decide ((65536 : Int) < (k : Int)) = false := decide_eq_false h65z
        have hle : (k : Int) ≤ 65536 := by omega
        rw [if_neg h65]
        go_wp2_with (go_at_call 10; refine (awake03_any _ (HT.out.below HB2.out) (HP.out.below HB2.out)).mono ?_; rintro e wa ⟨rfl, hba⟩)
        go_ret
        exact ⟨rfl, HB2.out.trans (hba.mono HB2.out.size)⟩
end Go.Proofs.YtokehnclakedeaaGreatDoor
