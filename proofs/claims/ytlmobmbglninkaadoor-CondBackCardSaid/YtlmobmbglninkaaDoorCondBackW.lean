/- strainerlaw10.CondBack: the walk. -/
import Derived.Test.YtlmobmbglninkaaDoorCondText
import Derived.Test.YtlmobmbglninkaaDoorCondBackQ
import Derived.Test.YtlmobmbglninkaaDoorCondReadsW
namespace Go.Proofs.YtlmobmbglninkaaDoor
open Go Go.Proofs Go.RowKit

set_option maxRecDepth 100000 in
set_option maxHeartbeats 4000000 in
theorem cback_right (a k m v : Nat) (ha : a ≤ 5) (hk : k < 7) (hm : m < 18446744073709551616) (hv : v < 18446744073709551616) (h0 : k = 6 ∨ m = 0) (t : ByteArray) (ht : t.size ≤ 30) (w : World) (hE : ErrV w) (hp : Pow10 w) :
    Calls Tryd.prog 8 #[.agg #[.int .i64 (a : Int), .int .i64 ((k : Int) + 1), .int .u64 (m : Int), .int .u64 (v : Int)], .string t] w fun e w' => e = .returned (.bool true) ∧ Below w.heap.size w w' := by
  have htx := fun W hW => text10_right a k m v ha hk hm hv h0 W hW
  have hrw := read_condWords a k m v ha hk hm hv h0 t
  have hcut := cut_text a ((k : Int) + 1) m v
  have hws := words_size a ((k : Int) + 1) m v ha hm hv
  have hwl := words_len a ((k : Int) + 1) m v
  have hts := text_size a ((k : Int) + 1) m v ha hm hv
  have hR : condRight (a : Int) ((k : Int) + 1) (m : Int) = true := decide_eq_true ⟨by omega, by omega, by omega, by omega, by omega⟩
  have hright := fun W => right_any (a : Int) ((k : Int) + 1) (m : Int) (v : Int) W
  rw [hR] at hright
  obtain ⟨K, hK⟩ : ∃ K : Int, (k : Int) + 1 = K := ⟨_, rfl⟩
  rw [hK] at htx hrw hcut hws hwl hts hright ⊢
  obtain ⟨T, hT⟩ : ∃ T, condText a K m v = T := ⟨_, rfl⟩
  obtain ⟨ws, hW⟩ : ∃ ws, condWords a K m v = ws := ⟨_, rfl⟩
  rw [hT] at htx hcut hts
  rw [hW] at hrw hcut hws hwl
  have Htx := Lib.hid htx
  have Hrw := Lib.hid hrw
  have Hfin := Lib.hid (d_final hcut)
  have Hws := Lib.hid hws
  have Hwl := Lib.hid hwl
  have Hright := Lib.hid hright
  have HE := Lib.hid hE
  have HP := Lib.hid hp
  have ht30 : ¬ (30 : Int) < (t.size : Int) := by omega
  have hTl : T.data.toList.length = T.size := Array.length_toList
  have hA := Blk.new w 29 #[.int .i64 (a : Int), .int .i64 K, .int .u64 (m : Int), .int .u64 (v : Int)]
  have hb := (Below.refl w.heap.size w).alloc (Nat.le_refl _) (.cells #[.int .i64 (a : Int), .int .i64 K, .int .u64 (m : Int), .int .u64 (v : Int)] 29)
  have c0 := hA.cell 0
  have c1 := hA.cell 1
  have c2 := hA.cell 2
  have c3 := hA.cell 3
  simp only [List.getElem?_toArray, List.getElem?_cons_zero, List.getElem?_cons_succ] at c0 c1 c2 c3
  have HA := Lib.hid hA
  have HB := Lib.hid hb
  have HTL := Lib.hid hTl
  clear hA hb htx hrw hcut hws hwl hright hE hp hR hK hT hW hm hv h0 hk ha hTl
  go_enter Tryd.func8, Tryd.ntmps8
  go_wp2_with fail
  refine (of10_any _ _ _ _ _).mono ?_
  rintro e w1 ⟨rfl, hb1⟩
  have HA1 := blkB HA hb1
  have HB1 := belB HB hb1
  clear hb1 HA HB c0 c1 c2 c3
  go_wp2_with fail
  refine (Hright.out _).mono ?_
  rintro e w2 ⟨rfl, hb2⟩
  have HA2 := blkB HA1 hb2
  have HB2 := belB HB1 hb2
  have c0 := HA2.out.cell 0
  have c1 := HA2.out.cell 1
  have c2 := HA2.out.cell 2
  have c3 := HA2.out.cell 3
  simp only [List.getElem?_toArray, List.getElem?_cons_zero, List.getElem?_cons_succ] at c0 c1 c2 c3
  clear hb2 HA1 HB1 Hright
  go_wp2_with fail
  refine (of10_any _ _ _ _ _).mono ?_
  rintro e w2a ⟨rfl, hb2⟩
  have HA2a := blkB HA2 hb2
  have HB2a := belB HB2 hb2
  clear hb2 HA2 HB2 c0 c1 c2 c3
  go_wp2_with fail
  refine (Htx.out _ (HP.out.below HB2a.out)).mono ?_
  rintro e w3 ⟨rfl, hb3⟩
  have HA3 := blkB HA2a hb3
  have HB3 := belB HB2a hb3
  clear hb3 HA2a HB2a Htx HP
  obtain ⟨i0, hi, hz0, hz1, hz2⟩ := info_parts infoStr
  go_upto_region 6 with fail
  go_loopg [5, 7, 8] (T.size + 2) (fun gg s5 s7 s8 wr => ∃ i q n : Nat, s8 = .int .i64 i ∧ s7 = .int .i64 q ∧ i ≤ T.size + 1 ∧ T.size + 1 - i < gg ∧ Hid (q = atOf T.data.toList i) ∧ Hid (n = (dWords T.data.toList i).length) ∧ Hid (wr.ownsRow w3.heap.size 9 1 s5 n ((dWords T.data.toList i).map Value.string)) ∧ Hid (Below w3.heap.size w3 wr))
  case atStart => exact ⟨0, 0, 0, rfl, rfl, by omega, by omega, (d_start _).2.symm, by show 0 = _; rw [(d_start _).1]; rfl, by show World.ownsRow _ _ _ _ _ _ _; rw [(d_start _).1]; exact World.ownsRow_nil _ _ _ _, Below.refl _ _⟩
  case round =>
    obtain ⟨i, q, n, rfl, rfl, hi1, hg, HQ, HN, HO, HX⟩ := hrel
    by_cases hle : i ≤ T.size
    · have hlez : (i : Int) ≤ (T.size : Int) := by omega
      have hiL : i ≤ T.data.toList.length := by rw [HTL.out]; exact hle
      have hqi : q ≤ i := by rw [HQ.out]; exact at_le hiL
      have hnb : n ≤ 61 := by have h1 := HN.out; have h2 := d_len_le T.data.toList i hiL; omega
      have hext := d_ext hiL
      rw [← HQ.out] at hext
      obtain ⟨wd, hwd⟩ : ∃ wd, mkB (cutF (T.data.toList.take i)).2 = wd := ⟨_, rfl⟩
      rw [hwd] at hext
      have HWD := Lib.hid hwd
      clear hwd
      by_cases hcutb : i = T.size ∨ T.data.toList[i]? = some 32
      · have hnext : Hid (dWords T.data.toList (i + 1) = dWords T.data.toList i ++ [wd]) := by
          show _ = _
          rcases hcutb with h | h
          · rw [h, ← HTL.out, d_end, ← HWD.out, h, HTL.out]
          · rw [(d_blank h).1, HWD.out]
        have hnq : Hid (i + 1 ≤ T.size → atOf T.data.toList (i + 1) = i + 1) := by
          show _ → _
          intro h
          rcases hcutb with h' | h'
          · omega
          · exact (d_blank h').2
        have hatn : Hid (i + 1 = atOf T.data.toList (i + 1)) := by
          show _ = _
          by_cases h : i + 1 ≤ T.size
          · exact (hnq.out h).symm
          · unfold atOf
            rw [if_neg (by rw [HTL.out]; exact h)]
        have HR1 := Lib.hid (HO.out.alloc (.cells #[.string wd] 9))
        have HX1 := Lib.hid (HX.out.alloc HX.out.size (.cells #[.string wd] 9))
        have b0 : (0 : Int) ≤ (q : Int) := by omega
        have b1 : (q : Int) ≤ (i : Int) := by omega
        have hcc : (i : Int) = (T.size : Int) ∨ (¬ (i : Int) = (T.size : Int) ∧ ∃ hlt : i < T.size, (((T[i]'hlt).toNat : Nat) : Int) = 32) := by
          by_cases h : i = T.size
          · exact .inl (by omega)
          · refine .inr ⟨by omega, by omega, ?_⟩
            have h2 := hcutb.resolve_left h
            obtain ⟨h3, h4⟩ := List.getElem?_eq_some_iff.1 h2
            have : T[i]'(by omega) = 32 := h4
            rw [this]
            rfl
        clear hcutb hnq HO HX
        rcases hcc with hz | ⟨hz, hlt, h32⟩
        · obtain rfl : i = T.size := by omega
          clear hz
          go_upto_region 9 with fail
          go_wp2_with (at_builtin; refine wpList_append_own _ rfl _ _ 22 rfl w3.heap.size 9 i0 (.string ⟨#[]⟩) 1 16 Tryd.underlying22 hi hz0 hz1 hz2 rfl (by decide) _ n _ rfl HR1.out ⟨wr.heap.size, 0, none⟩ 1 1 [.string wd] rfl rfl ?ca2 ?ca3 ?ca4 ?ca5 ?ca6 ?_; (case ca2 => exact cells_new _ _ _); (case ca3 => simp [Value.oneCell']); (case ca4 => unfold maxLen; omega); (case ca5 => omega); (case ca6 => exact HX1.out.size); intro v' w6 hown' hgrow _; obtain ⟨g', cap', rfl⟩ := ownsRow_succ hown'; have HX6 := Lib.hid (HX1.out.grown hgrow HX1.out.size (fun k e => (HR1.out.lt k e).1)); have HO6 := Lib.hid hown'; clear hown' hgrow HR1 HX1)
          go_roundg (T.size + 1 - T.size)
          case measure => omega
          case rel => exact ⟨T.size + 1, T.size + 1, n + 1, by go_num, by go_num, by omega, by omega, hatn, by show _ = _; rw [hnext.out, List.length_append, ← HN.out]; rfl, by show World.ownsRow _ _ _ _ _ _ _; rw [hnext.out, List.map_append]; exact HO6.out, HX6⟩
        · have hzb : ((i : Int) == (T.size : Int)) = false := by simpa using hz
          have hltz : (i : Int) < (T.size : Int) := by omega
          have hi0z : (0 : Int) ≤ (i : Int) := by omega
          have h32b : ((((T[i]'hlt).toNat : Nat) : Int) == 32) = true := by rw [h32]; rfl
          go_upto_region 9 with fail
          go_wp2_with (at_builtin; refine wpList_append_own _ rfl _ _ 22 rfl w3.heap.size 9 i0 (.string ⟨#[]⟩) 1 16 Tryd.underlying22 hi hz0 hz1 hz2 rfl (by decide) _ n _ rfl HR1.out ⟨wr.heap.size, 0, none⟩ 1 1 [.string wd] rfl rfl ?cb2 ?cb3 ?cb4 ?cb5 ?cb6 ?_; (case cb2 => exact cells_new _ _ _); (case cb3 => simp [Value.oneCell']); (case cb4 => unfold maxLen; omega); (case cb5 => omega); (case cb6 => exact HX1.out.size); intro v' w6 hown' hgrow _; obtain ⟨g', cap', rfl⟩ := ownsRow_succ hown'; have HX6 := Lib.hid (HX1.out.grown hgrow HX1.out.size (fun k e => (HR1.out.lt k e).1)); have HO6 := Lib.hid hown'; clear hown' hgrow HR1 HX1)
          go_roundg (T.size + 1 - i)
          case measure => omega
          case rel => exact ⟨i + 1, i + 1, n + 1, by go_num, by go_num, by omega, by omega, hatn, by show _ = _; rw [hnext.out, List.length_append, ← HN.out]; rfl, by show World.ownsRow _ _ _ _ _ _ _; rw [hnext.out, List.map_append]; exact HO6.out, HX6⟩
      · have hlt : i < T.size := by
          have h1 : ¬ i = T.size := fun h => hcutb (.inl h)
          omega
        have hget : T.data.toList[i]? = some (T[i]'hlt) := by rw [List.getElem?_eq_getElem (by rw [HTL.out]; exact hlt)]; rfl
        have hb32 : T[i]'hlt ≠ 32 := fun h => hcutb (.inr (by rw [hget, h]))
        have hoth := d_other hget hb32
        have h32n : ¬ (((T[i]'hlt).toNat : Nat) : Int) = 32 := fun e => hb32 (UInt8.toNat_inj.1 (by simpa using Int.ofNat.inj e))
        have h32b : ((((T[i]'hlt).toNat : Nat) : Int) == 32) = false := by simpa using h32n
        have hz : ¬ (i : Int) = (T.size : Int) := by omega
        have hzb : ((i : Int) == (T.size : Int)) = false := by simpa using hz
        have hltz : (i : Int) < (T.size : Int) := by omega
        have hi0z : (0 : Int) ≤ (i : Int) := by omega
        have HOT := Lib.hid hoth
        clear hoth hget hb32 hcutb hext
        go_wp2
        go_roundg (T.size + 1 - i)
        case measure => omega
        case rel => exact ⟨i + 1, q, n, by go_num, rfl, by omega, by omega, by show q = _; rw [HOT.out.2]; exact HQ.out, by show n = _; rw [HOT.out.1]; exact HN.out, by show World.ownsRow _ _ _ _ _ _ _; rw [HOT.out.1]; exact HO.out, HX⟩
    · obtain rfl : i = T.size + 1 := by omega
      have hfin : dWords T.data.toList (T.size + 1) = ws := by rw [← HTL.out]; exact Hfin.out
      rw [hfin] at HN HO
      have hn3 := Hwl.out
      rw [← HN.out] at hn3
      obtain ⟨n', rfl⟩ : ∃ n', n = n' + 1 := ⟨n - 1, by omega⟩
      obtain ⟨g5, c5, rfl⟩ := ownsRow_succ HO.out
      have HR1 := Lib.hid (HO.out.alloc (.cells #[.string t] 9))
      have HX1 := Lib.hid (HX.out.alloc HX.out.size (.cells #[.string t] 9))
      have hgtz : ¬ ((T.size + 1 : Nat) : Int) ≤ (T.size : Int) := by omega
      clear hfin HO HX HQ Hfin
      go_wp2_with (at_builtin; refine wpList_append_own _ rfl _ _ 22 rfl w3.heap.size 9 i0 (.string ⟨#[]⟩) 1 16 Tryd.underlying22 hi hz0 hz1 hz2 rfl (by decide) _ (n' + 1) _ rfl HR1.out ⟨wr.heap.size, 0, none⟩ 1 1 [.string t] rfl rfl ?cz2 ?cz3 ?cz4 ?cz5 ?cz6 ?_; (case cz2 => exact cells_new _ _ _); (case cz3 => simp [Value.oneCell']); (case cz4 => unfold maxLen; omega); (case cz5 => omega); (case cz6 => exact HX1.out.size); intro v' w6 hown' hgrow _; obtain ⟨g', cap', rfl⟩ := ownsRow_succ hown'; have HX6 := Lib.hid (HX1.out.grown hgrow HX1.out.size (fun k e => (HR1.out.lt k e).1)); have HO6 := Lib.hid hown'; clear hown' hgrow HR1 HX1)
      obtain ⟨hg6, hc6⟩ := own_facts HO6.out
      have hlen : (ws ++ [t]).length = n' + 1 + 1 := by rw [List.length_append, ← HN.out]; rfl
      have hW6 : WordsV w6 (.slice (some ⟨g', 0, none⟩) (n' + 1 + 1) cap') (ws ++ [t]) := by
        refine ⟨_, cap', by rw [hlen], .inr ⟨g', 0, rfl, hg6, fun j x hj => ?_⟩⟩
        have hjl := (List.getElem?_eq_some_iff.1 hj).1
        have := HO6.out.cellAt j (by omega)
        rw [Nat.zero_add, this, show List.map Value.string ws ++ [Value.string t] = List.map Value.string (ws ++ [t]) by simp, List.getElem?_map, hj]
        rfl
      have hrd := read_any (.slice (some ⟨g', 0, none⟩) (n' + 1 + 1) cap') (ws ++ [t]) (by omega) (fun x hx => by
        rcases List.mem_append.1 hx with h | h
        · have := Hws.out x h; omega
        · have e : x = t := by simpa using h
          rw [e]; omega) w6 ((HE.out.below HB3.out).below HX6.out) hW6
      rw [Hrw.out] at hrd
      have hrd2 : readV ⟨(a : Int), K, (m : Int), (v : Int), (ws.length : Int), 0⟩ = .tuple #[.agg #[.int .i64 (a : Int), .int .i64 K, .int .u64 (m : Int), .int .u64 (v : Int)], .int .i64 ((n' + 1 : Nat) : Int), .int .i64 0] := by rw [← HN.out]; rfl
      rw [hrd2] at hrd
      have Hrd := Lib.hid hrd
      have HBx := Lib.hid (HB3.out.trans (HX6.out.mono HB3.out.size))
      have HAx := Lib.hid (HA3.out.below HX6.out HA3.out.lt)
      clear hrd hrd2 hW6 hlen HO6 HX6 Hrw HB3 HA3 hg6 hc6
      go_wp2_with fail
      refine Hrd.out.mono ?_
      rintro e w7 ⟨rfl, hb7⟩
      have HB8 := Lib.hid ((belB HBx hb7).out.alloc (belB HBx hb7).out.size (.cells #[.int .i64 (a : Int), .int .i64 K, .int .u64 (m : Int), .int .u64 (v : Int)] 25))
      have HX8 := Lib.hid (Blk.new w7 25 #[.int .i64 (a : Int), .int .i64 K, .int .u64 (m : Int), .int .u64 (v : Int)])
      have HA8 := Lib.hid ((blkB HAx hb7).out.alloc (.cells #[.int .i64 (a : Int), .int .i64 K, .int .u64 (m : Int), .int .u64 (v : Int)] 25))
      clear hb7 HBx HAx Hrd HN
      go_upto_region 12 with fail
      generalize w7.alloc (.cells #[.int .i64 (a : Int), .int .i64 K, .int .u64 (m : Int), .int .u64 (v : Int)] 25) = W9 at *
      generalize w7.heap.size = B9 at *
      have HEV : Hid (∀ W, Below W9.heap.size W9 W → ErrV W) := fun W hW => (HE.out.below HB8.out).below hW
      generalize hwh : w.heap.size = WH at *
      have x0 := HX8.out.cell 0
      have x1 := HX8.out.cell 1
      have x2 := HX8.out.cell 2
      have x3 := HX8.out.cell 3
      have y0 := HA8.out.cell 0
      have y1 := HA8.out.cell 1
      have y2 := HA8.out.cell 2
      have y3 := HA8.out.cell 3
      simp only [List.getElem?_toArray, List.getElem?_cons_zero, List.getElem?_cons_succ] at x0 x1 x2 x3 y0 y1 y2 y3
      have HWH := Lib.hid hwh
      have MkE : Hid (∀ W, (W.cell? ⟨B9, 0, none⟩ = some (.int .i64 (a : Int)) ∧ W.cell? ⟨B9, 1, none⟩ = some (.int .i64 K) ∧ W.cell? ⟨B9, 2, none⟩ = some (.int .u64 (m : Int)) ∧ W.cell? ⟨B9, 3, none⟩ = some (.int .u64 (v : Int)) ∧ W.cell? ⟨WH, 0, none⟩ = some (.int .i64 (a : Int)) ∧ W.cell? ⟨WH, 1, none⟩ = some (.int .i64 K) ∧ W.cell? ⟨WH, 2, none⟩ = some (.int .u64 (m : Int)) ∧ W.cell? ⟨WH, 3, none⟩ = some (.int .u64 (v : Int)) ∧ Below W9.heap.size W9 W) → ErrV W) := fun W h => HEV.out W h.2.2.2.2.2.2.2.2
      clear hwh HEV
      go_region_held3 (fun w' => w'.cell? ⟨B9, 0, none⟩ = some (.int .i64 (a : Int)) ∧ w'.cell? ⟨B9, 1, none⟩ = some (.int .i64 K) ∧ w'.cell? ⟨B9, 2, none⟩ = some (.int .u64 (m : Int)) ∧ w'.cell? ⟨B9, 3, none⟩ = some (.int .u64 (v : Int)) ∧ w'.cell? ⟨WH, 0, none⟩ = some (.int .i64 (a : Int)) ∧ w'.cell? ⟨WH, 1, none⟩ = some (.int .i64 K) ∧ w'.cell? ⟨WH, 2, none⟩ = some (.int .u64 (m : Int)) ∧ w'.cell? ⟨WH, 3, none⟩ = some (.int .u64 (v : Int)) ∧ Below W9.heap.size W9 w') (first | exact ⟨x0, x1, x2, x3, y0, y1, y2, y3, (Below.refl _ W9).drew⟩ | exact rkeep8 (by assumption) hbx | go_keep) (first | (go_at_call 13; refine (of10_any _ _ _ _ _).mono ?_; rintro e wx ⟨rfl, hbx⟩) | (go_at_call 14; refine (awake10_any _ (MkE.out _ (by assumption))).mono ?_; rintro e wx ⟨rfl, hbx⟩))
      have hfin : Below W9.heap.size W9 wx := (show wx.cell? ⟨B9, 0, none⟩ = some (.int .i64 (a : Int)) ∧ wx.cell? ⟨B9, 1, none⟩ = some (.int .i64 K) ∧ wx.cell? ⟨B9, 2, none⟩ = some (.int .u64 (m : Int)) ∧ wx.cell? ⟨B9, 3, none⟩ = some (.int .u64 (v : Int)) ∧ wx.cell? ⟨WH, 0, none⟩ = some (.int .i64 (a : Int)) ∧ wx.cell? ⟨WH, 1, none⟩ = some (.int .i64 K) ∧ wx.cell? ⟨WH, 2, none⟩ = some (.int .u64 (m : Int)) ∧ wx.cell? ⟨WH, 3, none⟩ = some (.int .u64 (v : Int)) ∧ Below W9.heap.size W9 wx by assumption).2.2.2.2.2.2.2.2
      go_wp2
      go_ret
      exact ⟨rfl, by rw [HWH.out]; exact HB8.out.trans (hfin.mono (by have := HB8.out.size; rw [HWH.out] at this; exact this))⟩
set_option maxRecDepth 100000 in
set_option maxHeartbeats 2000000 in
theorem cback_any (a o m v : Int) (hm : 0 ≤ m ∧ m < 18446744073709551616) (hv : 0 ≤ v ∧ v < 18446744073709551616) (t : ByteArray) (w : World) (hE : ErrV w) (hp : Pow10 w) :
    Calls Tryd.prog 8 #[.agg #[.int .i64 a, .int .i64 o, .int .u64 m, .int .u64 v], .string t] w fun e w' => e = .returned (.bool true) ∧ Below w.heap.size w w' := by
  have hb := (Below.refl w.heap.size w).alloc (Nat.le_refl _) (.cells #[.int .i64 a, .int .i64 o, .int .u64 m, .int .u64 v] 29)
  by_cases h30 : 30 < t.size
  · have h30z : (30 : Int) < (t.size : Int) := by omega
    have HB := Lib.hid hb
    clear hb hE hp hm hv
    go_enter Tryd.func8, Tryd.ntmps8
    go_wp2
    go_ret
    exact ⟨rfl, HB.out⟩
  cases hR : condRight a o m with
  | true =>
    have h := of_decide_eq_true hR
    obtain ⟨h1, h2, h3, h4, h5⟩ := h
    obtain ⟨a', rfl⟩ := Int.eq_ofNat_of_zero_le h1
    obtain ⟨k, hk⟩ := Int.eq_ofNat_of_zero_le (show 0 ≤ o - 1 by omega)
    obtain rfl : o = (k : Int) + 1 := by omega
    obtain ⟨m', rfl⟩ := Int.eq_ofNat_of_zero_le hm.1
    obtain ⟨v', rfl⟩ := Int.eq_ofNat_of_zero_le hv.1
    exact cback_right a' k m' v' (by omega) (by omega) (by omega) (by omega) (by omega) t (by omega) w hE hp
  | false =>
    have hright := fun W => right_any a o m v W
    rw [hR] at hright
    have Hright := Lib.hid hright
    have h30z : ¬ (30 : Int) < (t.size : Int) := by omega
    have hA := Blk.new w 29 #[.int .i64 a, .int .i64 o, .int .u64 m, .int .u64 v]
    have c0 := hA.cell 0
    have c1 := hA.cell 1
    have c2 := hA.cell 2
    have c3 := hA.cell 3
    simp only [List.getElem?_toArray, List.getElem?_cons_zero, List.getElem?_cons_succ] at c0 c1 c2 c3
    have HB := Lib.hid hb
    have HE := Lib.hid hE
    clear hb hE hp hm hv hA hright hR
    go_enter Tryd.func8, Tryd.ntmps8
    go_wp2_with fail
    refine (of10_any _ _ _ _ _).mono ?_
    rintro e w1 ⟨rfl, hb1⟩
    have HB1 := belB HB hb1
    clear hb1 HB c0 c1 c2 c3
    go_wp2_with fail
    refine (Hright.out _).mono ?_
    rintro e w2 ⟨rfl, hb2⟩
    have HB2 := belB HB1 hb2
    clear hb2 HB1
    go_wp2_with (go_at_call 14; refine (awake10_any _ (HE.out.below HB2.out)).mono ?_; rintro e wa ⟨rfl, hba⟩)
    go_ret
    exact ⟨rfl, HB2.out.trans (hba.mono HB2.out.size)⟩
end Go.Proofs.YtlmobmbglninkaaDoor
