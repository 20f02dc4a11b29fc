/- strings.SplitSeq at the line's end: the iterator hands over a text's pieces. -/
import Derived.Test.YtokehnclakedeaaGreatDoorIterLaw
import Derived.Test.YtokehnclakedeaaGreatDoorLexP
import Derived.Test.YtokehnclakedeaaGreatDoorBlk
import Derived.Test.YtokehnclakedeaaGreatDoorShelfL
import Derived.Shelf.Abstract
import Derived.Shelf.RegionOpen
import Derived.LoopNIn
import Derived.LoopIn
import Derived.Sort.LoopGhostIn
import Derived.Sort.QuietIn
import Derived.RegionIn
import Derived.BigRegionIn
import Derived.Outline
import Derived.Lib.Hide
namespace Go.Proofs.YtokehnclakedeaaGreatDoor
open Go Go.Proofs Go.RowKit Go.Shelf
attribute [local go_sem] Oper.semAt_some

/-- A text's pieces as strings. -/
def piecesB (t : ByteArray) : List ByteArray := (pieces t.data.toList).map fun l => ⟨l.toArray⟩
theorem index_sep (t : ByteArray) (b : UInt8) : (∃ a r, t.data.toList = a ++ b :: r ∧ b ∉ a ∧ Lib.indexByte t.data.toList b = (a.length : Int)) ∨ (b ∉ t.data.toList ∧ Lib.indexByte t.data.toList b = -1) := by
  by_cases h : b ∈ t.data.toList
  · obtain ⟨a, r, h1, h2⟩ := split_at _ _ h
    exact .inl ⟨a, r, h1, h2, by rw [h1]; exact indexByte_at a r b h2⟩
  · exact .inr ⟨h, indexByte_none _ _ h⟩
theorem extract_head {t : ByteArray} {b : UInt8} {a r : List UInt8} (h : t.data.toList = a ++ b :: r) : t.extract 0 a.length = ⟨a.toArray⟩ := by
  apply ByteArray.ext
  apply Array.toList_inj.1
  rw [ByteArray.data_extract, Array.toList_extract, h]
  simp [List.extract]
theorem extract_tail {t : ByteArray} {b : UInt8} {a r : List UInt8} (h : t.data.toList = a ++ b :: r) : t.extract (a.length + 1) t.size = ⟨r.toArray⟩ := by
  have hs : t.size = a.length + 1 + r.length := by
    have := congrArg List.length h
    rw [Array.length_toList] at this
    have e : t.data.size = t.size := rfl
    rw [e] at this
    rw [this]
    simp
    omega
  apply ByteArray.ext
  apply Array.toList_inj.1
  rw [ByteArray.data_extract, Array.toList_extract, h, hs]
  simp [List.extract]

set_option maxRecDepth 100000 in
set_option maxHeartbeats 2000000 in
theorem split1_in (n : Nat) (hn : 3 ≤ n) (t : ByteArray) (hts : t.size ≤ 1000000) (Bp Bs Bv : Nat) (w : World)
    (hbp : Blk w Bp 9 #[.string ⟨#[10]⟩]) (hbs : Blk w Bs 9 #[.string t]) (hbv : Blk w Bv 3 #[.int .i64 0]) (hps : Bp ≠ Bs) (hvs : Bv ≠ Bs) :
    SeqStopsR Fence.wide n Tryz.prog 50 #[.pointer (some ⟨Bp, 0, none⟩), .pointer (some ⟨Bs, 0, none⟩), .pointer (some ⟨Bv, 0, none⟩)] (fun x : ByteArray => #[.string x]) (fun _ r => r = Bs) (fun _ r => r = Bp ∨ r = Bs ∨ r = Bv) 0
      (fun xs => xs = piecesB t) (fun pre => pre <+: piecesB t) w := fun l J Jx W hW hJ hJx hY h0 => by
  refine callsIn_of_wp Tryz.func50 rfl trivial ?_ rfl
  simp only [Tryz.ntmps50, List.size_toArray, List.length_cons, List.length_nil, Nat.reduceAdd, Nat.reduceSub, Array.replicate_succ, Array.replicate_zero, List.push_toArray, List.append_toArray, List.nil_append, List.cons_append]
  have hp0 := hbp.below hW hbp.lt
  have hs0 := hbs.below hW hbs.lt
  have hv0 := hbv.below hW hbv.lt
  have cp := hp0.cell 0
  simp only [List.getElem?_toArray, List.getElem?_cons_zero] at cp
  have HJ := Lib.hid hJ
  have HJx := Lib.hid hJx
  have HY := Lib.hid hY
  have HW := Lib.hid hW
  have H0 := Lib.hid h0
  have HP := Lib.hid hp0
  have HS := Lib.hid hs0
  have HV := Lib.hid hv0
  clear hJ hJx hY hW h0 hp0 hs0 hv0 hbp hbs hbv
  gi_wp2
  gi_loopw [7, 8] (fun _ _ wr => ∃ (pre : List ByteArray) (rem : ByteArray), rem.size ≤ 1000000 ∧ Hid (piecesB t = pre ++ piecesB rem) ∧ Hid (J pre wr) ∧ Hid (Blk wr Bp 9 #[.string ⟨#[10]⟩]) ∧ Hid (Blk wr Bs 9 #[.string rem]) ∧ Hid (Blk wr Bv 3 #[.int .i64 0]) ∧ Hid (W.heap.size ≤ wr.heap.size)) (fun _ _ wr => match wr.cell? ⟨Bs, 0, none⟩ with | some (.string r) => r.size | _ => 0)
  case atStart => exact ⟨[], t, hts, Lib.hid rfl, H0, HP, HS, HV, Lib.hid (Nat.le_refl _)⟩
  case round =>
    obtain ⟨pre, rem, hrs, HT, HJw, HPw, HSw, HVw, HWs⟩ := hrel
    clear cp
    have cp := HPw.out.cell 0
    have cs := HSw.out.cell 0
    have cv := HVw.out.cell 0
    have fs := HSw.out.frozen 0
    simp only [List.getElem?_toArray, List.getElem?_cons_zero] at cp cs cv
    rcases index_sep rem 10 with ⟨a, r, hr1, hr2, hix⟩ | ⟨hno, hix⟩
    · obtain ⟨fr, hfr⟩ : ∃ fr : ByteArray, fr = ⟨a.toArray⟩ := ⟨_, rfl⟩
      obtain ⟨rest, hrest⟩ : ∃ rest : ByteArray, rest = ⟨r.toArray⟩ := ⟨_, rfl⟩
      have hsz : rem.size = a.length + 1 + rest.size := by
        have := congrArg List.length hr1
        rw [Array.length_toList] at this
        have e : rem.data.size = rem.size := rfl
        have e2 : rest.size = r.length := by rw [hrest]; simp [ByteArray.size]
        rw [e] at this
        rw [this, e2]
        simp
        omega
      have e1 := extract_head hr1
      have e2 := extract_tail hr1
      rw [← hfr] at e1
      rw [← hrest] at e2
      have HTn : Hid (piecesB t = (pre ++ [fr]) ++ piecesB rest) := by
        show _ = _
        rw [HT.out, hfr, hrest]
        unfold piecesB
        rw [hr1, pieces_at a r hr2, List.map_cons, List.append_assoc]
        rfl
      obtain ⟨k, hk⟩ : ∃ k, a.length = k := ⟨_, rfl⟩
      rw [hk] at hix hsz e1 e2
      have Hix := Lib.hid hix
      obtain ⟨fn, tmps, assign, body, hy, hR⟩ := HY.out pre fr wr HJw.out ⟨piecesB rest, HTn.out.symm⟩ HWs.out
      have HR := Lib.hid hR
      have k0 : (0 : Int) ≤ (k : Int) := by omega
      have k1 : (k : Int) ≤ (rem.size : Int) := by omega
      have k2 : (k : Int) + 1 ≤ (rem.size : Int) := by omega
      have k3 : ¬ (k : Int) < 0 := by omega
      have Hsz := Lib.hid hsz
      clear hix hr1 hr2 hfr hrest hk a r hR hsz
      gi_wp2_with fail
      refine ⟨trivial, fun h => (by cases h), ?_⟩
      refine (callsIn_wide.2 (Any.strings_Index_one Tryz.lays143 rem 10 _)).mono ?_
      rintro e w1 ⟨rfl, rfl⟩
      rw [Hix.out]
      gi_wp2
      refine ⟨fun h => (by cases h), ?_⟩
      refine HR.out.mono ?_
      rintro e W3 ⟨hk3, ⟨rfl, hJ3⟩ | ⟨rfl, hJx3⟩⟩
      · have HP3 : Hid (Blk W3 Bp 9 #[.string ⟨#[10]⟩]) := (hk3.2 Bp HPw.out.lt (.inl rfl)).trans HPw.out
        have HS3 : Hid (Blk W3 Bs 9 #[.string rem]) := (hk3.2 Bs HSw.out.lt (.inr (.inl rfl))).trans HSw.out
        have HV3 : Hid (Blk W3 Bv 3 #[.int .i64 0]) := (hk3.2 Bv HVw.out.lt (.inr (.inr rfl))).trans HVw.out
        have HW3 : Hid (W.heap.size ≤ W3.heap.size) := Nat.le_trans HWs.out hk3.1
        have HJ3 : Hid (J (pre ++ [fr]) (W3.setCell ⟨Bs, 0, none⟩ (.string rest))) := HJ.out.set Bs 0 _ rfl hJ3
        have cp3 := HP3.out.cell 0
        have cs3 := HS3.out.cell 0
        have fs3 := HS3.out.frozen 0
        simp only [List.getElem?_toArray, List.getElem?_cons_zero] at cp3 cs3
        clear hk3 hJ3 cp cs cv fs
        gi_wp2
        go_roundw
        case rel => exact ⟨pre ++ [fr], rest, by have := Hsz.out; omega, HTn, HJ3, HP3.out.other hps 0 _, HS3.out.set 0 (.string rest), HV3.out.other hvs 0 _, Nat.le_trans HW3.out (KeepsOthers.setCell _ _ _).size⟩
        case measure =>
          have := (HS3.out.set 0 (.string rest)).cell 0
          simp at this
          have cs := HSw.out.cell 0
          simp at cs
          rw [this, cs]
          have := Hsz.out
          show rest.size < rem.size
          omega
      · gi_wp2
        refine bodyPost_ret (results_none rfl _ _ _) rfl ?_
        exact ⟨⟨_, rfl⟩, .inr ⟨_, ⟨piecesB rest, HTn.out.symm⟩, hJx3⟩⟩
    · have Hix := Lib.hid hix
      have HTn : Hid (piecesB t = pre ++ [rem]) := by
        show _ = _
        rw [HT.out]
        unfold piecesB
        rw [pieces_none _ hno]
        rfl
      obtain ⟨fn, tmps, assign, body, hy, hR⟩ := HY.out pre rem wr HJw.out ⟨[], by rw [List.append_nil]; exact HTn.out.symm⟩ HWs.out
      have HR := Lib.hid hR
      clear hix hR
      gi_wp2_with fail
      refine ⟨trivial, fun h => (by cases h), ?_⟩
      refine (callsIn_wide.2 (Any.strings_Index_one Tryz.lays143 rem 10 _)).mono ?_
      rintro e w1 ⟨rfl, rfl⟩
      rw [Hix.out]
      gi_wp2
      refine ⟨fun h => (by cases h), ?_⟩
      refine HR.out.mono ?_
      rintro e W3 ⟨hk3, ⟨rfl, hJ3⟩ | ⟨rfl, hJx3⟩⟩
      · gi_wp2
        go_end0
        exact ⟨⟨_, rfl⟩, .inl ⟨_, HTn.out.symm, hJ3⟩⟩
      · gi_wp2
        go_end0
        exact ⟨⟨_, rfl⟩, .inr ⟨_, ⟨[], by rw [List.append_nil]; exact HTn.out.symm⟩, hJx3⟩⟩
end Go.Proofs.YtokehnclakedeaaGreatDoor
