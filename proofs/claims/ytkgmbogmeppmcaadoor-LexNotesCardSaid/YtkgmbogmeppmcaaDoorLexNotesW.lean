/- strainerlaw13.LexNotes: the walk. -/
import Derived.Test.YtkgmbogmeppmcaaDoorLexNotesP
import Derived.Test.YtkgmbogmeppmcaaDoorLexMoreW
import Derived.Test.YtkgmbogmeppmcaaDoorLexJoin1
import Derived.Test.YtkgmbogmeppmcaaDoorLexAwake
import Derived.Deep.LoopGhost
import Derived.Deep.RegionHeld3
namespace Go.Proofs.YtkgmbogmeppmcaaDoor
open Go Go.Proofs Go.RowKit

theorem sizeLine : ∀ w, (Go.sizeOf 54).run Tryd.prog w = .ok 2 w := fun _ => by kernel_rfl
theorem slice_one (W : World) (g n cp k : Nat) (hk : k < cp) : (Instr.slice 41 (.slice (some ⟨g, 0, none⟩) n cp) (some (.int .i64 (k : Int))) (some (.int .i64 ((k : Int) + 1))) none).run Tryd.prog W = .ok (.slice (some ⟨g, k * 2, none⟩) 1 (cp - k)) W := by
  have ht' : Tryd.prog.underlying 41 = some (.slice (Tryd.prog.elem 41)) := by simp [Program.elem, Tryd.underlying41]
  have he : Tryd.prog.elem 41 = 54 := by simp [Program.elem, Tryd.underlying41]
  rw [run_slice_lh W _ _ _ _ ht' .i64 .i64 _ _ (by omega) (by omega) (by omega), he, sizeLine]
  have e1 : ((k : Int) + 1).toNat = k + 1 := by omega
  have e2 : ¬ cp = k := by omega
  simp [Result.andThen, sliced, Addr.add, e1, e2]
  exact fun h => h.symm
theorem lkeep2 {a W wx : World} {p q : Addr} {u v : Value} (h : W.cell? p = some u ∧ W.cell? q = some v ∧ Below a.heap.size a W) (hb : Below W.heap.size W wx) : wx.cell? p = some u ∧ wx.cell? q = some v ∧ Below a.heap.size a wx :=
  ⟨cell_later1 hb h.1, cell_later1 hb h.2.1, h.2.2.trans (hb.mono h.2.2.size)⟩
theorem lines_cap {tl lo : Nat} {W : World} {a : Option Addr} {n c : Nat} {ls : List Ln} (h : LinesR tl lo W (.slice a n c) ls) (hn : ls.length = n) : n ≤ c := by
  obtain ⟨us, h1, h2, h3⟩ := h
  rcases h2.2 with ⟨h, h0⟩ | ⟨_, _, _, h, _, hg, hc, _⟩
  · cases h; omega
  · cases h
    omega
theorem line_le {ls : List Ln} {k : Nat} {x : Ln} (hx : ls[k]? = some x) : (lineTx x.2).length ≤ (joinL ls).length := by
  have h1 := joinL_take ls k x hx
  have h2 := joinL_take_le ls (k + 1)
  rw [h1, List.length_append] at h2
  omega

set_option maxRecDepth 100000 in
set_option maxHeartbeats 4000000 in
theorem lexnotes_law (t note : ByteArray) (w : World) : Calls Tryd.prog 8 #[.string t, .string note] w fun e w' => e = .returned (.bool true) ∧ Below w.heap.size w w' := by
  by_cases h1 : 1000 < t.size
  · have h1z : (1000 : Int) < (t.size : Int) := by omega
    go_enter Tryd.func8, Tryd.ntmps8
    go_wp2
    go_ret
    exact ⟨rfl, Below.refl _ w⟩
  have h1z : ¬ (1000 : Int) < (t.size : Int) := by omega
  by_cases h2 : 50 < note.size
  · have h2z : (50 : Int) < (note.size : Int) := by omega
    go_enter Tryd.func8, Tryd.ntmps8
    go_wp2
    go_ret
    exact ⟨rfl, Below.refl _ w⟩
  have h2z : ¬ (50 : Int) < (note.size : Int) := by omega
  have hnl : note.data.toList.length ≤ 50 := by rw [size_list]; omega
  have HNL := Lib.hid hnl
  clear hnl
  go_enter Tryd.func8, Tryd.ntmps8
  go_upto_region 4 with fail
  go_loopg [5] (note.size + 1) (fun gg s5 wr => w = wr ∧ ∃ i : Nat, i ≤ note.size ∧ note.size - i < gg ∧ s5 = .int .i64 i ∧ Hid (∀ j (hj : j < note.size), j < i → note[j]'hj ≠ 10))
  case atStart => exact ⟨rfl, 0, Nat.zero_le _, by omega, rfl, (show Hid _ from fun j hj h => absurd h (Nat.not_lt_zero _))⟩
  case round =>
    obtain ⟨rfl, i, hi, hg, rfl, HA⟩ := hrel
    by_cases hlt : i < note.size
    · have hltz : (i : Int) < (note.size : Int) := by omega
      have hi0 : (0 : Int) ≤ (i : Int) := by omega
      by_cases h10 : note[i]'hlt = 10
      · have h10z : (((note[i]'hlt).toNat : Nat) : Int) = 10 := by rw [h10]; rfl
        clear h10
        go_wp2
        go_ret
        exact ⟨rfl, Below.refl _ w⟩
      · have h10z : ¬ (((note[i]'hlt).toNat : Nat) : Int) = 10 := fun e => h10 (UInt8.toNat_inj.1 (by simpa using Int.ofNat.inj e))
        have HA2 : Hid (∀ j (hj : j < note.size), j < i + 1 → note[j]'hj ≠ 10) := fun j hj h => by
          by_cases e : j = i
          · subst e; exact h10
          · exact HA.out j hj (by omega)
        clear h10
        go_wp2
        go_roundg (note.size - i)
        case measure => omega
        case rel => exact ⟨rfl, i + 1, by omega, by omega, by go_num, HA2⟩
    · obtain rfl : i = note.size := by omega
      have hno : (10 : UInt8) ∉ note.data.toList := by
        intro hm
        obtain ⟨j, hj, hj2⟩ := List.mem_iff_getElem.1 hm
        rw [size_list] at hj
        exact HA.out j hj hj hj2
      have HNO := Lib.hid hno
      clear hno HA
      go_upto_region 10 with fail
      go_loopg [6, 7] (t.size + 1) (fun gg s6 s7 wr => w = wr ∧ ∃ (i : Nat) (r : ByteArray), i ≤ t.size ∧ t.size - i < gg ∧ s7 = .int .i64 i ∧ s6 = .string r ∧ Hid (r.data.toList = [32, 9] ++ notedL note.data.toList (t.data.toList.take i)))
      case atStart => exact ⟨rfl, 0, ⟨#[32, 9]⟩, Nat.zero_le _, by omega, rfl, rfl, rfl⟩
      case round =>
        obtain ⟨rfl, i, r, hi, hg, rfl, rfl, HR⟩ := hrel
        have hrs : r.size ≤ 55002 := by
          have h3 := congrArg List.length HR.out
          have h4 := notedL_len note.data.toList HNL.out (t.data.toList.take i)
          rw [size_list, List.length_append] at h3
          rw [List.length_take] at h4
          simp at h3
          omega
        by_cases hlt : i < t.size
        · have hltz : (i : Int) < (t.size : Int) := by omega
          have hi0 : (0 : Int) ≤ (i : Int) := by omega
          have hget : t.data.toList[i]? = some (t[i]'hlt) := by rw [List.getElem?_eq_getElem (by rw [size_list]; exact hlt)]; rfl
          have htk := notedL_take note.data.toList t.data.toList i _ hget
          have b1 : (i : Int) ≤ (t.size : Int) := by omega
          have b2 : (i : Int) + 1 ≤ (t.size : Int) := by omega
          have b3 : (0 : Int) ≤ (i : Int) + 1 := by omega
          have b4 : ((i : Int) + 1).toNat = i + 1 := by omega
          obtain ⟨X, hX⟩ : ∃ X, t.extract i (i + 1) = X := ⟨_, rfl⟩
          have hXl : X.data.toList = [t[i]'hlt] := by
            rw [← hX, ByteArray.data_extract, Array.toList_extract]
            simp only [List.extract, Nat.add_sub_cancel_left]
            rw [List.drop_eq_getElem_cons (by rw [size_list]; exact hlt)]
            rfl
          have hXs : X.size = 1 := by rw [← size_list, hXl]; rfl
          by_cases h10 : t[i]'hlt = 10
          · have h10z : (((t[i]'hlt).toNat : Nat) : Int) = 10 := by rw [h10]; rfl
            have hb : noteB note.data.toList (t[i]'hlt) = [13, 32, 35] ++ note.data.toList ++ [10] ++ [32] := by rw [h10]; rfl
            have HR2 : Hid ((r ++ (⟨#[13, 32, 35]⟩ ++ note) ++ X ++ ⟨#[32]⟩ : ByteArray).data.toList = [32, 9] ++ notedL note.data.toList (t.data.toList.take (i + 1))) := by
              show _ = _
              rw [htk, hb, list_append, list_append, list_append, list_append, HR.out, hXl, h10]
              simp
            have c1 : (⟨#[13, 32, 35]⟩ : ByteArray).size + note.size ≤ 1000000 := by rw [show (⟨#[13, 32, 35]⟩ : ByteArray).size = 3 from rfl]; omega
            have c2 : r.size + (⟨#[13, 32, 35]⟩ ++ note : ByteArray).size ≤ 1000000 := by rw [ByteArray.size_append, show (⟨#[13, 32, 35]⟩ : ByteArray).size = 3 from rfl]; omega
            have c3 : (r ++ (⟨#[13, 32, 35]⟩ ++ note) : ByteArray).size + X.size ≤ 1000000 := by rw [ByteArray.size_append, ByteArray.size_append, show (⟨#[13, 32, 35]⟩ : ByteArray).size = 3 from rfl]; omega
            have c4 : (r ++ (⟨#[13, 32, 35]⟩ ++ note) ++ X : ByteArray).size + (⟨#[32]⟩ : ByteArray).size ≤ 1000000 := by rw [ByteArray.size_append, ByteArray.size_append, ByteArray.size_append, show (⟨#[13, 32, 35]⟩ : ByteArray).size = 3 from rfl, show (⟨#[32]⟩ : ByteArray).size = 1 from rfl]; omega
            clear hb h10 hget htk hXl HR
            go_wp2
            go_roundg (t.size - i)
            case measure => omega
            case rel => exact ⟨rfl, i + 1, _, by omega, by omega, by go_num, rfl, HR2⟩
          · have h10z : ¬ (((t[i]'hlt).toNat : Nat) : Int) = 10 := fun e => h10 (UInt8.toNat_inj.1 (by simpa using Int.ofNat.inj e))
            have hb : noteB note.data.toList (t[i]'hlt) = [t[i]'hlt] := by unfold noteB; rw [if_neg h10]
            have HR2 : Hid ((r ++ X : ByteArray).data.toList = [32, 9] ++ notedL note.data.toList (t.data.toList.take (i + 1))) := by
              show _ = _
              rw [htk, hb, list_append, HR.out, hXl, List.append_assoc]
            have c1 : r.size + X.size ≤ 1000000 := by omega
            clear hb h10 hget htk hXl HR
            go_wp2
            go_roundg (t.size - i)
            case measure => omega
            case rel => exact ⟨rfl, i + 1, _, by omega, by omega, by go_num, rfl, HR2⟩
        · obtain rfl : i = t.size := by omega
          have hall : t.data.toList.take t.size = t.data.toList := List.take_of_length_le (by rw [size_list]; exact Nat.le_refl _)
          have hS : (r ++ ⟨#[35]⟩ ++ note : ByteArray).data.toList = [32, 9] ++ notedL note.data.toList t.data.toList ++ 35 :: note.data.toList := by
            rw [list_append, list_append, HR.out, hall]
            simp
          have hsame := lexAns_noted (t := t) (by omega) HNL.out HNO.out hS
          have hL1 := fun W => lexLines_any t W
          have hL2 := fun W => lexLines_any (r ++ ⟨#[35]⟩ ++ note) W
          rw [hsame] at hL2
          have hfa := lexAns_fit (t := t) (by omega)
          obtain ⟨a, n, e, hA⟩ : ∃ a n e, lexAns t = (a, n, e) := ⟨_, _, _, rfl⟩
          rw [hA] at hL1 hL2 hfa
          dsimp only at hL1 hL2 hfa
          obtain ⟨LA, hLA⟩ : ∃ L, a.length = L := ⟨_, rfl⟩
          have HLA := Lib.hid hLA
          have HL1 := Lib.hid hL1
          have HL2 := Lib.hid hL2
          have HFA := Lib.hid hfa
          have hLAb : LA ≤ 5001 := by rw [← hLA]; exact hfa.2
          have c1 : r.size + (⟨#[35]⟩ : ByteArray).size ≤ 1000000 := by rw [show (⟨#[35]⟩ : ByteArray).size = 1 from rfl]; omega
          have c2 : (r ++ ⟨#[35]⟩ : ByteArray).size + note.size ≤ 1000000 := by rw [ByteArray.size_append, show (⟨#[35]⟩ : ByteArray).size = 1 from rfl]; omega
          clear hall hS hsame hL1 hL2 hfa hA hLA HR HNO HNL
          go_wp2_with fail
          refine (HL1.out _).mono ?_
          rintro e1 w1 ⟨v1, rfl, hl1, hb1⟩
          obtain ⟨ad1, cp1, rfl⟩ := hl1.slice
          rw [HLA.out] at hl1 ⊢
          have H1 := Lib.hid hl1
          have HB1 := Lib.hid hb1
          clear hl1 hb1 HL1
          go_wp2_with fail
          refine (HL2.out _).mono ?_
          rintro e2 w2 ⟨v2, rfl, hl2, hb2⟩
          obtain ⟨ad2, cp2, rfl⟩ := hl2.slice
          rw [HLA.out] at hl2 ⊢
          have H1' := Lib.hid (H1.out.below hb2)
          have H2 := Lib.hid hl2
          have HB2 := Lib.hid (HB1.out.trans (hb2.mono HB1.out.size))
          clear hl2 hb2 HL2 H1 HB1 c1 c2
          go_upto_region 22 with fail
          go_loopg [14] (LA + 1) (fun gg s14 wr => ∃ i2 : Nat, i2 ≤ LA ∧ LA - i2 < gg ∧ s14 = .int .i64 i2 ∧ Hid (Below w2.heap.size w2 wr))
          case atStart => exact ⟨0, Nat.zero_le _, by omega, rfl, (show Hid _ from Below.refl _ _)⟩
          case round =>
            obtain ⟨i2, hi2, hg2, rfl, HX⟩ := hrel
            by_cases hlt2 : i2 < LA
            · have hlt2z : (i2 : Int) < (LA : Int) := by omega
              have i20 : (0 : Int) ≤ (i2 : Int) := by omega
              obtain ⟨x, hx⟩ : ∃ x, a[i2]? = some x := ⟨_, List.getElem?_eq_getElem (by rw [HLA.out]; exact hlt2)⟩
              obtain ⟨g1, ua1, uc1, rfl, d1, f1, hg1, hcap1, fc1⟩ := lines_at (H1'.out.below HX.out) hx
              obtain ⟨g2, ua2, uc2, rfl, d2, f2, hg2', hcap2, fc2⟩ := lines_at (H2.out.below HX.out) hx
              obtain ⟨hm, hne⟩ := HFA.out.1.2.1 _ (List.mem_of_getElem? hx)
              have hll := Nat.le_trans (line_le hx) HFA.out.1.2.2
              obtain ⟨s0, hs0⟩ : ∃ s0, x.2[0]? = some s0 := ⟨_, List.getElem?_eq_getElem (List.length_pos_iff.2 hne)⟩
              obtain ⟨gu1, rfl, _, hgu1⟩ := fc1 0 s0 hs0
              obtain ⟨gu2, rfl, _, hgu2⟩ := fc2 0 s0 hs0
              have hce1 : ∀ (j : Nat) (s : ByteArray), x.2[j]? = some s → wr.cell? ⟨gu1, j, none⟩ = some (.string s) := by
                intro j s hj
                obtain ⟨gu', he, hc, _⟩ := fc1 j s hj
                cases he
                exact hc
              have hce2 : ∀ (j : Nat) (s : ByteArray), x.2[j]? = some s → wr.cell? ⟨gu2, j, none⟩ = some (.string s) := by
                intro j s hj
                obtain ⟨gu', he, hc, _⟩ := fc2 j s hj
                cases he
                exact hc
              have hc1 : i2 < cp1 := Nat.lt_of_lt_of_le hlt2 (lines_cap (H1'.out) HLA.out)
              have hc2 : i2 < cp2 := Nat.lt_of_lt_of_le hlt2 (lines_cap (H2.out) HLA.out)
              have hsl1 := fun W => slice_one W g1 LA cp1 i2 hc1
              have hsl2 := fun W => slice_one W g2 LA cp2 i2 hc2
              have HJ : Hid (∀ W sv, Below wr.heap.size wr W → (sv = .slice (some ⟨g1, i2 * 2, none⟩) 1 (cp1 - i2) ∨ sv = .slice (some ⟨g2, i2 * 2, none⟩) 1 (cp2 - i2)) → Calls Tryd.prog 26 #[sv] W fun e w' => e = .returned (.string ⟨(lineTx x.2).toArray⟩) ∧ Below W.heap.size W w') := by
                rintro W sv hW (rfl | rfl)
                · exact join13_one g1 (i2 * 2) _ x.1 gu1 uc1 x.2 W (cell_later1 hW d1) (cell_later1 hW f1) (fun j s hj => cell_later1 hW (hce1 j s hj)) (Nat.lt_of_lt_of_le hgu1 hW.size) hm hcap1 hll
                · exact join13_one g2 (i2 * 2) _ x.1 gu2 uc2 x.2 W (cell_later1 hW d2) (cell_later1 hW f2) (fun j s hj => cell_later1 hW (hce2 j s hj)) (Nat.lt_of_lt_of_le hgu2 hW.size) hm hcap2 hll
              have wi : IntKind.i64.wrap ((i2 : Int) + 1) = (i2 : Int) + 1 := IntWalk.i64_in _ (by omega)
              obtain ⟨xn, hxn⟩ : ∃ xn : Int, (x.1 : Int) = xn := ⟨_, rfl⟩
              rw [hxn] at d1 d2
              obtain ⟨JT, hJT⟩ : ∃ JT : ByteArray, (⟨(lineTx x.2).toArray⟩ : ByteArray) = JT := ⟨_, rfl⟩
              rw [hJT] at HJ
              clear hx fc1 fc2 hce1 hce2 hm hne hll hs0 f1 f2 hxn hJT hc1 hc2 hcap1 hcap2
              go_upto_region 24 with fail
              go_region_held3 (fun w' => w'.cell? ⟨g1, i2 * 2, none⟩ = some (.int .i64 xn) ∧ w'.cell? ⟨g2, i2 * 2, none⟩ = some (.int .i64 xn) ∧ Below wr.heap.size wr w') (first | exact ⟨d1, d2, (Below.refl _ wr).drew⟩ | exact lkeep2 (by assumption) hbx | go_keep) (first | (go_at_call 26; refine (HJ.out _ _ (show _ ∧ _ ∧ _ by assumption).2.2 (by first | exact .inl rfl | exact .inr rfl)).mono ?_; rintro e wx ⟨rfl, hbx⟩))
              have hfin : Below wr.heap.size wr wx := (show wx.cell? ⟨g1, i2 * 2, none⟩ = some (.int .i64 xn) ∧ wx.cell? ⟨g2, i2 * 2, none⟩ = some (.int .i64 xn) ∧ Below wr.heap.size wr wx by assumption).2.2
              have HX2 : Hid (Below w2.heap.size w2 wx) := HX.out.trans (hfin.mono HX.out.size)
              clear hfin HX HJ d1 d2 hsl1 hsl2
              go_wp2
              go_roundg (LA - i2)
              case measure => omega
              case rel => exact ⟨i2 + 1, by omega, by omega, by go_num, HX2⟩
            · obtain rfl : i2 = LA := by omega
              have hlt2z : ¬ (i2 : Int) < (i2 : Int) := by omega
              go_wp2_with (go_at_call 25; refine (awake13_any _).mono ?_; rintro e wa ⟨rfl, hba⟩)
              go_ret
              exact ⟨rfl, (HB2.out.trans (HX.out.mono HB2.out.size)).trans (hba.mono (HB2.out.trans (HX.out.mono HB2.out.size)).size)⟩
end Go.Proofs.YtkgmbogmeppmcaaDoor
