/- strainerlaw03.ListBack: the walk. -/
import Derived.Test.YtokehnclakedeaaGreatDoorListBackQ
import Derived.Deep.RegionHeld3
namespace Go.Proofs.YtokehnclakedeaaGreatDoor
open Go Go.Proofs Go.RowKit

theorem InssV.at {w : World} {a : Option Addr} {n c : Nat} {l : List Ins4} (h : InssV w (.slice a n c) l) {k : Nat} {x : Ins4} (hk : l[k]? = some x) : ∃ b off, a = some ⟨b, off, none⟩ ∧ ∀ i u, (insC x)[i]? = some u → w.cell? ⟨b, off + k * 4 + i, none⟩ = some u := by
  obtain ⟨a', c', h1, h2⟩ := h
  rcases h2 with rfl | ⟨b, off, h3, _, h5⟩
  · simp at hk
  · exact ⟨b, off, by rw [(Value.slice.inj h1).1, h3], fun i u hu => h5 k x hk i u hu⟩
set_option maxRecDepth 100000 in
set_option maxHeartbeats 4000000 in
theorem all3_any (v : Value) (l : List Ins4) (hl : l.length ≤ 1000) (w : World) (hv : InssV w v l) :
    Calls Tryz.prog 14 #[v] w fun e w' => ∃ v', e = .returned v' ∧ w'.ownsRow w.heap.size 25 4 v' l.length (flatI l) ∧ Below w.heap.size w w' := by
  obtain ⟨a, cp, rfl, hcs⟩ := hv
  have HV : Hid (InssV w (.slice a l.length cp) l) := ⟨a, cp, rfl, hcs⟩
  clear hcs
  obtain ⟨n, hn⟩ : ∃ n, l.length = n := ⟨_, rfl⟩
  rw [hn] at HV hl ⊢
  have HN := Lib.hid hn
  clear hn
  obtain ⟨i0, hi, hz0, hz1, hz2⟩ := info_parts infoIns
  go_enter Tryz.func14, Tryz.ntmps14
  go_upto_region 3 with fail
  go_loopw [3, 4] (fun s3 s4 wr => ∃ k : Nat, k ≤ n ∧ s4 = .int .i64 k ∧ Hid (wr.ownsRow w.heap.size 25 4 s3 k (flatI (l.take k))) ∧ Hid (Below w.heap.size w wr)) (fun _ s4 _ => n - (intOf s4).toNat)
  case atStart => exact ⟨0, Nat.zero_le _, rfl, World.ownsRow_nil _ _ _ _, Below.refl _ _⟩
  case round =>
    obtain ⟨k, hk, rfl, HO, HB⟩ := hrel
    have hk0 : (0 : Int) ≤ (k : Int) := by omega
    by_cases hlt : k < n
    · have hltz : (k : Int) < (n : Int) := by omega
      obtain ⟨x, hx⟩ : ∃ x, l[k]? = some x := ⟨_, List.getElem?_eq_getElem (by rw [HN.out]; exact hlt)⟩
      obtain ⟨b, off, rfl, hcl⟩ := HV.out.at hx
      obtain ⟨c, jt, jf, kk⟩ := x
      have d0 := lcell HB.out (hcl 0 _ rfl)
      have d1 := lcell HB.out (hcl 1 _ rfl)
      have d2 := lcell HB.out (hcl 2 _ rfl)
      have d3 := lcell HB.out (hcl 3 _ rfl)
      simp only [Nat.add_zero] at d0
      have hfl : Hid (flatI (l.take (k + 1)) = flatI (l.take k) ++ [.int .u16 (c : Int), .int .u8 (jt : Int), .int .u8 (jf : Int), .int .u32 (kk : Int)]) := by
        show _ = _
        rw [List.take_add_one, hx]
        exact flatI_snoc _ _
      clear hcl hx
      go_wp2_with fail
      refine (of3_any _ _ _ _ _).mono ?_
      rintro e w2 ⟨rfl, hb2⟩
      have HO2 := Lib.hid (ownsRow_belowP HO.out (hb2.trans ((Below.refl _ w2).alloc (Nat.le_refl _) (.cells #[.int .u16 (c : Int), .int .u8 (jt : Int), .int .u8 (jf : Int), .int .u32 (kk : Int)] 25) |>.mono hb2.size)))
      have HB2 := Lib.hid ((HB.out.trans (hb2.mono HB.out.size)).alloc (HB.out.trans (hb2.mono HB.out.size)).size (.cells #[.int .u16 (c : Int), .int .u8 (jt : Int), .int .u8 (jf : Int), .int .u32 (kk : Int)] 25))
      clear hb2 HO HB d0 d1 d2 d3
      go_wp2_with (at_builtin; refine wpList_append_own _ rfl _ _ 37 rfl w.heap.size 25 i0 (.agg #[.int .u16 0, .int .u8 0, .int .u8 0, .int .u32 0]) 4 8 Tryz.underlying37 hi hz0 hz1 hz2 rfl (by decide) _ k _ rfl HO2.out ⟨w2.heap.size, 0, none⟩ 1 1 [.int .u16 (c : Int), .int .u8 (jt : Int), .int .u8 (jf : Int), .int .u32 (kk : Int)] rfl ?c1 ?c2 ?c3 ?c4 ?c5 ?c6 ?_; (case c1 => rfl); (case c2 => exact cells_newF w2 [.int .u16 (c : Int), .int .u8 (jt : Int), .int .u8 (jf : Int), .int .u32 (kk : Int)] 25); (case c3 => simp [Value.oneCell']); (case c4 => unfold maxLen; omega); (case c5 => omega); (case c6 => exact HB2.out.size); intro v' w6 hown' hgrow _; obtain ⟨g', cap', rfl⟩ := ownsRow_succ hown')
      go_roundw
      case rel => exact ⟨k + 1, by omega, by go_num, by show World.ownsRow _ _ _ _ _ _ _; rw [hfl.out]; exact hown', HB2.out.grown hgrow HB2.out.size (fun k e => (HO2.out.lt k e).1)⟩
      case measure => simp [intOf]; omega
    · obtain rfl : k = n := by omega
      have hall : l.take k = l := List.take_of_length_le (by rw [HN.out]; exact Nat.le_refl _)
      rw [hall] at HO
      clear hall
      go_wp2
      go_ret
      exact ⟨_, rfl, HO.out, HB.out⟩
set_option maxRecDepth 100000 in
set_option maxHeartbeats 16000000 in
theorem listback_any (v : Value) (l : List Ins4) (hin : ∀ x ∈ l, InsB4 x) (w : World) (hT : AscT w) (hp : Pow10 w) (hv : InssV w v l) :
    Calls Tryz.prog 6 #[v] w fun e w' => e = .returned (.bool true) ∧ Below w.heap.size w w' := by
  obtain ⟨a, cp, rfl, hcs⟩ := hv
  have HV : Hid (InssV w (.slice a l.length cp) l) := ⟨a, cp, rfl, hcs⟩
  clear hcs
  obtain ⟨n, hn⟩ : ∃ n, l.length = n := ⟨_, rfl⟩
  rw [hn] at HV ⊢
  by_cases hbig : 100 < n
  · have hbz : (100 : Int) < (n : Int) := by omega
    clear hbig hn HV hT hp hin
    go_enter Tryz.func6, Tryz.ntmps6
    go_wp2
    go_ret
    exact ⟨rfl, Below.refl _ _⟩
  have hbz : ¬ (100 : Int) < (n : Int) := by omega
  have hpr := fun W hW => program_any ⟨(textL l).toArray⟩ W hW
  rw [progAns_text l hin (by omega), hn] at hpr
  dsimp only at hpr
  have HPR := Lib.hid hpr
  have HTX := Lib.hid (fun v lo W a b c => text3_any v l lo (by omega) hin W a b c)
  have HAL := Lib.hid (fun v W c => all3_any v l (by omega) W c)
  have HN := Lib.hid hn
  have HIN := Lib.hid hin
  have HLN := Lib.hid lineB
  have HT := Lib.hid hT
  have HP := Lib.hid hp
  clear hpr hn hin hT hp
  go_enter Tryz.func6, Tryz.ntmps6
  go_upto_region 4 with fail
  go_loopw [3] (fun s3 wr => ∃ k : Nat, k ≤ n ∧ s3 = .int .i64 k ∧ Hid (Below w.heap.size w wr)) (fun s3 _ => n - (intOf s3).toNat)
  case atStart => exact ⟨0, Nat.zero_le _, rfl, Below.refl _ _⟩
  case round =>
    obtain ⟨k, hk, rfl, HB⟩ := hrel
    have hk0 : (0 : Int) ≤ (k : Int) := by omega
    by_cases hlt : k < n
    · have hltz : (k : Int) < (n : Int) := by omega
      obtain ⟨x, hx⟩ : ∃ x, l[k]? = some x := ⟨_, List.getElem?_eq_getElem (by rw [HN.out]; exact hlt)⟩
      obtain ⟨b, off, rfl, hcl⟩ := HV.out.at hx
      have hxm := HIN.out x (List.mem_of_getElem? hx)
      have hrd := list_readsBack x.1 x.2.1 x.2.2.1 x.2.2.2 hxm.1 hxm.2.1 hxm.2.2.1 hxm.2.2.2
      have hsz := lineS_size120 _ _ _ _ hxm
      obtain ⟨c, jt, jf, kk⟩ := x
      dsimp only at hrd hsz
      have hr := fun W hW => read3_any (lineS c jt jf kk) (by omega) W hW
      rw [hrd] at hr
      have HR := Lib.hid hr
      have HL1 := Lib.hid (fun W a b => HLN.out c jt jf kk W hxm a b)
      have HCL := Lib.hid hcl
      have d0 := lcell HB.out (hcl 0 _ rfl)
      have d1 := lcell HB.out (hcl 1 _ rfl)
      have d2 := lcell HB.out (hcl 2 _ rfl)
      have d3 := lcell HB.out (hcl 3 _ rfl)
      simp only [Nat.add_zero] at d0
      clear hcl hx hrd hsz hr hxm
      generalize lineS c jt jf kk = T at *
      go_wp2_with fail
      refine (of3_any _ _ _ _ _).mono ?_
      rintro e w1 ⟨rfl, hb1⟩
      have HB1 := belB HB hb1
      clear hb1 HB d0 d1 d2 d3
      go_wp2_with fail
      refine (HL1.out _ (HT.out.below HB1.out) (HP.out.below HB1.out)).mono ?_
      rintro e w2 ⟨rfl, hb2⟩
      have HB2 := belB HB1 hb2
      clear hb2 HB1 HL1
      go_wp2_with fail
      refine (HR.out _ (HT.out.below HB2.out)).mono ?_
      rintro e w3 ⟨he, hb3⟩
      obtain rfl : e = .returned (.tuple #[.agg #[.int .u16 (c : Int), .int .u8 (jt : Int), .int .u8 (jf : Int), .int .u32 (kk : Int)], .int .i64 0]) := he
      have HB3' := belB HB2 hb3
      have HA3 := Lib.hid (Blk.new w3 25 #[.int .u16 (c : Int), .int .u8 (jt : Int), .int .u8 (jf : Int), .int .u32 (kk : Int)])
      have HB3 := Lib.hid (HB3'.out.alloc HB3'.out.size (.cells #[.int .u16 (c : Int), .int .u8 (jt : Int), .int .u8 (jf : Int), .int .u32 (kk : Int)] 25))
      clear hb3 HB2 HR HB3'
      go_upto_region 7 with fail
      generalize w3.alloc (.cells #[.int .u16 (c : Int), .int .u8 (jt : Int), .int .u8 (jf : Int), .int .u32 (kk : Int)] 25) = W0 at *
      generalize w3.heap.size = B8 at *
      have c0 := HA3.out.cell 0
      have c1 := HA3.out.cell 1
      have c2 := HA3.out.cell 2
      have c3 := HA3.out.cell 3
      have d0 := lcell HB3.out (HCL.out 0 _ rfl)
      have d1 := lcell HB3.out (HCL.out 1 _ rfl)
      have d2 := lcell HB3.out (HCL.out 2 _ rfl)
      have d3 := lcell HB3.out (HCL.out 3 _ rfl)
      simp only [List.getElem?_toArray, List.getElem?_cons_zero, List.getElem?_cons_succ, Nat.add_zero] at c0 c1 c2 c3 d0
      clear HA3 HCL
      go_region_held3 (fun w' => w'.cell? ⟨B8, 0, none⟩ = some (.int .u16 (c : Int)) ∧ w'.cell? ⟨B8, 1, none⟩ = some (.int .u8 (jt : Int)) ∧ w'.cell? ⟨B8, 2, none⟩ = some (.int .u8 (jf : Int)) ∧ w'.cell? ⟨B8, 3, none⟩ = some (.int .u32 (kk : Int)) ∧ w'.cell? ⟨b, off + k * 4, none⟩ = some (.int .u16 (c : Int)) ∧ w'.cell? ⟨b, off + k * 4 + 1, none⟩ = some (.int .u8 (jt : Int)) ∧ w'.cell? ⟨b, off + k * 4 + 2, none⟩ = some (.int .u8 (jf : Int)) ∧ w'.cell? ⟨b, off + k * 4 + 3, none⟩ = some (.int .u32 (kk : Int)) ∧ Below W0.heap.size W0 w') (first | exact ⟨c0, c1, c2, c3, d0, d1, d2, d3, (Below.refl _ W0).drew⟩ | exact keepL8 (by assumption) hbx | go_keep) (first | (go_at_call 9; refine (of3_any _ _ _ _ _).mono ?_; rintro e wx ⟨rfl, hbx⟩))
      have hfin : Below W0.heap.size W0 wx := (show wx.cell? ⟨B8, 0, none⟩ = some (.int .u16 (c : Int)) ∧ wx.cell? ⟨B8, 1, none⟩ = some (.int .u8 (jt : Int)) ∧ wx.cell? ⟨B8, 2, none⟩ = some (.int .u8 (jf : Int)) ∧ wx.cell? ⟨B8, 3, none⟩ = some (.int .u32 (kk : Int)) ∧ wx.cell? ⟨b, off + k * 4, none⟩ = some (.int .u16 (c : Int)) ∧ wx.cell? ⟨b, off + k * 4 + 1, none⟩ = some (.int .u8 (jt : Int)) ∧ wx.cell? ⟨b, off + k * 4 + 2, none⟩ = some (.int .u8 (jf : Int)) ∧ wx.cell? ⟨b, off + k * 4 + 3, none⟩ = some (.int .u32 (kk : Int)) ∧ Below W0.heap.size W0 wx by assumption).2.2.2.2.2.2.2.2
      have HBX : Hid (Below w.heap.size w wx) := HB3.out.trans (hfin.mono HB3.out.size)
      clear hfin
      go_wp2
      go_roundw
      case rel => exact ⟨k + 1, by omega, by go_num, HBX⟩
      case measure => simp [intOf]; omega
    · obtain rfl : k = n := by omega
      go_wp2_with fail
      refine (HAL.out _ _ (HV.out.below HB.out)).mono ?_
      rintro e w1 ⟨v1, rfl, ho1, hb1⟩
      have HB1 := belB HB hb1
      have HO1 := Lib.hid ho1
      clear ho1 hb1 HB HAL
      go_wp2_with fail
      refine (HTX.out v1 _ _ (HT.out.below HB1.out) (HP.out.below HB1.out) HO1.out).mono ?_
      rintro e w2 ⟨rfl, hb2⟩
      have HB2 := belB HB1 hb2
      clear HO1 hb2 HB1 HTX
      go_wp2_with fail
      refine (HPR.out _ (HT.out.below HB2.out)).mono ?_
      rintro e w3 ⟨v3, rfl, ho3, hb3⟩
      have HB3 := belB HB2 hb3
      rw [← HN.out] at ho3
      have hv3 := InssV.own ho3
      obtain ⟨a3, cp3, rfl, _⟩ := id hv3
      rw [HN.out] at hv3 ⊢
      have HV3 := Lib.hid hv3
      clear ho3 hb3 HB2 HPR hv3
      go_upto_region 13 with fail
      go_loopw [9] (fun s9 wr => ∃ j : Nat, j ≤ k ∧ s9 = .int .i64 j ∧ Hid (Below w3.heap.size w3 wr)) (fun s9 _ => k - (intOf s9).toNat)
      case atStart => exact ⟨0, Nat.zero_le _, rfl, Below.refl _ _⟩
      case round =>
        obtain ⟨j, hj, rfl, HBw⟩ := hrel
        have hj0 : (0 : Int) ≤ (j : Int) := by omega
        by_cases hltj : j < k
        · have hltz : (j : Int) < (k : Int) := by omega
          obtain ⟨x, hx⟩ : ∃ x, l[j]? = some x := ⟨_, List.getElem?_eq_getElem (by rw [HN.out]; exact hltj)⟩
          obtain ⟨b, off, rfl, hcl⟩ := HV.out.at hx
          obtain ⟨b3, off3, rfl, hcl3⟩ := HV3.out.at hx
          obtain ⟨c, jt, jf, kk⟩ := x
          have HBW := Lib.hid (HB3.out.trans (HBw.out.mono HB3.out.size))
          have c0 := lcell HBw.out (hcl3 0 _ rfl)
          have c1 := lcell HBw.out (hcl3 1 _ rfl)
          have c2 := lcell HBw.out (hcl3 2 _ rfl)
          have c3 := lcell HBw.out (hcl3 3 _ rfl)
          have d0 := lcell HBW.out (hcl 0 _ rfl)
          have d1 := lcell HBW.out (hcl 1 _ rfl)
          have d2 := lcell HBW.out (hcl 2 _ rfl)
          have d3 := lcell HBW.out (hcl 3 _ rfl)
          simp only [Nat.add_zero] at c0 d0
          clear hcl hcl3 hx
          go_upto_region 15 with fail
          obtain ⟨W0, hW0⟩ : ∃ W0, W0 = wr := ⟨_, rfl⟩
          subst hW0
          go_region_held3 (fun w' => w'.cell? ⟨b3, off3 + j * 4, none⟩ = some (.int .u16 (c : Int)) ∧ w'.cell? ⟨b3, off3 + j * 4 + 1, none⟩ = some (.int .u8 (jt : Int)) ∧ w'.cell? ⟨b3, off3 + j * 4 + 2, none⟩ = some (.int .u8 (jf : Int)) ∧ w'.cell? ⟨b3, off3 + j * 4 + 3, none⟩ = some (.int .u32 (kk : Int)) ∧ w'.cell? ⟨b, off + j * 4, none⟩ = some (.int .u16 (c : Int)) ∧ w'.cell? ⟨b, off + j * 4 + 1, none⟩ = some (.int .u8 (jt : Int)) ∧ w'.cell? ⟨b, off + j * 4 + 2, none⟩ = some (.int .u8 (jf : Int)) ∧ w'.cell? ⟨b, off + j * 4 + 3, none⟩ = some (.int .u32 (kk : Int)) ∧ Below W0.heap.size W0 w') (first | exact ⟨c0, c1, c2, c3, d0, d1, d2, d3, (Below.refl _ W0).drew⟩ | exact keepL8 (by assumption) hbx | go_keep) (first | (go_at_call 9; refine (of3_any _ _ _ _ _).mono ?_; rintro e wx ⟨rfl, hbx⟩))
          have hfin : Below W0.heap.size W0 wx := (show wx.cell? ⟨b3, off3 + j * 4, none⟩ = some (.int .u16 (c : Int)) ∧ wx.cell? ⟨b3, off3 + j * 4 + 1, none⟩ = some (.int .u8 (jt : Int)) ∧ wx.cell? ⟨b3, off3 + j * 4 + 2, none⟩ = some (.int .u8 (jf : Int)) ∧ wx.cell? ⟨b3, off3 + j * 4 + 3, none⟩ = some (.int .u32 (kk : Int)) ∧ wx.cell? ⟨b, off + j * 4, none⟩ = some (.int .u16 (c : Int)) ∧ wx.cell? ⟨b, off + j * 4 + 1, none⟩ = some (.int .u8 (jt : Int)) ∧ wx.cell? ⟨b, off + j * 4 + 2, none⟩ = some (.int .u8 (jf : Int)) ∧ wx.cell? ⟨b, off + j * 4 + 3, none⟩ = some (.int .u32 (kk : Int)) ∧ Below W0.heap.size W0 wx by assumption).2.2.2.2.2.2.2.2
          have HBX : Hid (Below w3.heap.size w3 wx) := HBw.out.trans (hfin.mono HBw.out.size)
          clear hfin
          go_wp2
          go_roundw
          case rel => exact ⟨j + 1, by omega, by go_num, HBX⟩
          case measure => simp [intOf]; omega
        · obtain rfl : j = k := by omega
          have HBW := Lib.hid (HB3.out.trans (HBw.out.mono HB3.out.size))
          go_wp2_with fail
          refine (awake03_any _ (HT.out.below HBW.out) (HP.out.below HBW.out)).mono ?_
          rintro e w5 ⟨rfl, hb5⟩
          go_wp2
          go_ret
          exact ⟨rfl, HBW.out.trans (hb5.mono HBW.out.size)⟩
end Go.Proofs.YtokehnclakedeaaGreatDoor
