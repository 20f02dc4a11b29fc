/- strainerlaw12.MuxCalls: it answers true. -/
import Derived.Test.YtakmbmlpgmppiaaMuxLaw
import Derived.Deep.RegionHeld3
import Derived.Deep.DeepCutAuto
namespace Go.Proofs.Ytakmbmlpgmppiaa
open Go Go.Proofs Go.RowKit

theorem belA {n : Nat} {a w : World} {o : Obj} (h : Below n a w) (hn : n ≤ a.heap.size) : Below n a (w.alloc o) := h.alloc (Nat.le_trans hn h.size) o
theorem belT {n : Nat} {a w w' : World} (h : Below n a w) (h' : Below w.heap.size w w') (hn : n ≤ a.heap.size) : Below n a w' := h.trans (h'.mono (Nat.le_trans hn h.size))
theorem belS {n : Nat} {a w : World} {B j : Nat} {v : Value} (h : Below n a w) (hB : n ≤ B) : Below n a (w.setCell ⟨B, j, none⟩ v) := h.setCell (p := ⟨B, j, none⟩) hB v
theorem belS4 {n : Nat} {a w : World} {B : Nat} {j0 j1 j2 j3 : Nat} {v0 v1 v2 v3 : Value} (h : Below n a w) (hB : n ≤ B) : Below n a ((((w.setCell ⟨B, j0, none⟩ v0).setCell ⟨B, j1, none⟩ v1).setCell ⟨B, j2, none⟩ v2).setCell ⟨B, j3, none⟩ v3) := belS (belS (belS (belS h hB) hB) hB) hB
set_option maxRecDepth 100000 in
set_option maxHeartbeats 3000000 in
theorem calls_any (num arch ptr a0 a1 a2 a3 a4 a5 : Int) (h0 : 0 ≤ num) (h1 : num < 4294967296) (g0 : 0 ≤ a0) (g1 : a0 < 18446744073709551616) (sv : Value) (l : List SRow) (w : World) (hR : RowsV w sv l) :
    Calls Try.prog 4 #[sv, .agg #[.int .u32 num, .int .u32 arch, .int .u64 ptr, .int .u64 a0, .int .u64 a1, .int .u64 a2, .int .u64 a3, .int .u64 a4, .int .u64 a5]] w fun e w' => e = .returned (.bool true) ∧ Below w.heap.size w w' := by
  have hB0 := (Below.refl _ w).alloc (Nat.le_refl _) (.cells #[.int .u32 num, .int .u32 arch, .int .u64 ptr, .int .u64 a0, .int .u64 a1, .int .u64 a2, .int .u64 a3, .int .u64 a4, .int .u64 a5] 51)
  have hR0 := hR.below hB0
  have hlight := light12_any sv l _ hR0
  have hK := Blk.new w 51 #[.int .u32 num, .int .u32 arch, .int .u64 ptr, .int .u64 a0, .int .u64 a1, .int .u64 a2, .int .u64 a3, .int .u64 a4, .int .u64 a5]
  have HB0 := Lib.hid hB0
  have HK := Lib.hid hK
  have HR := Lib.hid hR0
  have HLt := Lib.hid hlight
  have HH : Hid (0 ≤ num ∧ num < 4294967296 ∧ 0 ≤ a0 ∧ a0 < 18446744073709551616) := ⟨h0, h1, g0, g1⟩
  clear hR hR0 hlight h0 h1 g0 g1 hK hB0
  obtain ⟨ad, cp, rfl, hx⟩ := HR.out
  obtain ⟨n, hn⟩ : ∃ n, l.length = n := ⟨_, rfl⟩
  simp only [hn] at HR HLt ⊢
  have HX := Lib.hid hx
  have HN := Lib.hid hn
  clear hx hn
  go_enter Try.func4, Try.ntmps4
  go_wp2_with fail
  generalize hW0 : w.alloc (.cells #[.int .u32 num, .int .u32 arch, .int .u64 ptr, .int .u64 a0, .int .u64 a1, .int .u64 a2, .int .u64 a3, .int .u64 a4, .int .u64 a5] 51) = W0 at *
  clear hW0
  refine HLt.out.mono ?_
  rintro e w1 ⟨b, rfl, hT, hb1⟩
  clear HLt
  cases b with
  | false =>
    go_wp2
    go_ret
    exact ⟨rfl, HB0.out.trans (hb1.mono HB0.out.size)⟩
  | true =>
    have HT := Lib.hid (hT rfl).1
    have HL := Lib.hid (hT rfl).2
    have HB1 := Lib.hid hb1
    clear hT hb1
    have hK1 := HK.out.below HB1.out HK.out.lt
    generalize w.heap.size = B at HK hK1
    have hmk : ∀ W, Below w1.heap.size w1 W → (W.cell? ⟨B, 0, none⟩ = some (.int .u32 num) ∧ W.cell? ⟨B, 1, none⟩ = some (.int .u32 arch) ∧ W.cell? ⟨B, 2, none⟩ = some (.int .u64 ptr) ∧ W.cell? ⟨B, 3, none⟩ = some (.int .u64 a0) ∧ W.cell? ⟨B, 4, none⟩ = some (.int .u64 a1) ∧ W.cell? ⟨B, 5, none⟩ = some (.int .u64 a2) ∧ W.cell? ⟨B, 6, none⟩ = some (.int .u64 a3) ∧ W.cell? ⟨B, 7, none⟩ = some (.int .u64 a4) ∧ W.cell? ⟨B, 8, none⟩ = some (.int .u64 a5) ∧ Below w1.heap.size w1 W) := fun W hW => by
      have h := hK1.below hW hK1.lt
      exact ⟨h.cell 0, h.cell 1, h.cell 2, h.cell 3, h.cell 4, h.cell 5, h.cell 6, h.cell 7, h.cell 8, hW⟩
    have MkS := Lib.hid hmk
    clear hmk hK1 HK
    have hv : ∃ (vs vm : Bool) (va : Int) (vn : ByteArray), muxV l num arch a0 = .agg #[.bool vs, .int .i64 va, .string vn, .bool vm] ∧ ((ref12 l num arch a0).1 < 0 → vs = false ∧ va = 0 ∧ vn = ⟨#[]⟩ ∧ vm = false) ∧ (¬ (ref12 l num arch a0).1 < 0 → vs = true ∧ va = (ref12 l num arch a0).1 ∧ vn = name12 l (ref12 l num arch a0).2.1 ∧ vm = (ref12 l num arch a0).2.2) := by
      rw [muxV_ref HT.out]
      by_cases h : (ref12 l num arch a0).1 < 0
      · rw [if_pos h]
        exact ⟨false, false, 0, ⟨#[]⟩, rfl, fun _ => ⟨rfl, rfl, rfl, rfl⟩, fun h' => absurd h h'⟩
      · rw [if_neg h]
        exact ⟨_, _, _, _, rfl, fun h' => absurd h' h, fun _ => ⟨rfl, rfl, rfl, rfl⟩⟩
    obtain ⟨vs, vm, va, vn, hv1, hv2, hv3⟩ := hv
    have HV2 := Lib.hid hv2
    have HV3 := Lib.hid hv3
    have hR1 := HR.out.below HB1.out
    have h2 : ∀ W, Below w1.heap.size w1 W → Calls Try.prog 22 #[.slice ad n cp] W fun e w' => ∃ v, e = .returned v ∧ RowsV w' v l ∧ Below W.heap.size W w' := fun W hW => (of12_any _ l W (by have := HL.out; omega) (hR1.below hW)).mono (fun e w' ⟨v, h1, h2, h3⟩ => ⟨v, h1, (rowsV_owned h2).1, h3⟩)
    have h4 : ∀ v W, RowsV W v l → Calls Try.prog 21 #[v, .agg #[.int .u32 num, .int .u32 arch, .int .u64 ptr, .int .u64 a0, .int .u64 a1, .int .u64 a2, .int .u64 a3, .int .u64 a4, .int .u64 a5]] W fun e w' => e = .returned (.agg #[.bool vs, .int .i64 va, .string vn, .bool vm]) ∧ Below W.heap.size W w' := fun v W hW => by
      have := muxOf_any num arch ptr a0 a1 a2 a3 a4 a5 HH.out.1 HH.out.2.1 HH.out.2.2.1 HH.out.2.2.2 v l W (by have := HL.out; omega) hW
      rw [hv1] at this
      exact this
    have H2 := Lib.hid h2
    have H4 := Lib.hid h4
    have HR1 := Lib.hid hR1
    have hb0 := (Below.refl w1.heap.size w1).drew
    have S0 := MkS.out _ hb0
    have bX0 : Blk (w1.drew.alloc (.cells #[.bool false, .int .i64 0, .string ⟨#[]⟩, .bool false] 53)) w1.heap.size 53 #[.bool false, .int .i64 0, .string ⟨#[]⟩, .bool false] := Blk.new w1.drew _ _
    have hbA := belA (o := .cells #[.bool false, .int .i64 0, .string ⟨#[]⟩, .bool false] 53) hb0 (Nat.le_refl _)
    clear hv1 hv2 hv3 h2 h4 hR1
    go_upto_region 3 with fail
    go_cut [5] (fun s5 wx => ∃ X : Nat, s5 = .pointer (some ⟨X, 0, none⟩) ∧ Hid (Blk wx X 53 #[.bool vs, .int .i64 va, .string vn, .bool vm]) ∧ Hid (Below w1.heap.size w1 wx))
    case first =>
      go_region_held3 (fun W => W.cell? ⟨B, 0, none⟩ = some (.int .u32 num) ∧ W.cell? ⟨B, 1, none⟩ = some (.int .u32 arch) ∧ W.cell? ⟨B, 2, none⟩ = some (.int .u64 ptr) ∧ W.cell? ⟨B, 3, none⟩ = some (.int .u64 a0) ∧ W.cell? ⟨B, 4, none⟩ = some (.int .u64 a1) ∧ W.cell? ⟨B, 5, none⟩ = some (.int .u64 a2) ∧ W.cell? ⟨B, 6, none⟩ = some (.int .u64 a3) ∧ W.cell? ⟨B, 7, none⟩ = some (.int .u64 a4) ∧ W.cell? ⟨B, 8, none⟩ = some (.int .u64 a5) ∧ Below w1.heap.size w1 W)
        (first | assumption | exact MkS.out _ hb0 | exact MkS.out _ hb3 | exact MkS.out _ hb7 | exact MkS.out _ hb9 | exact MkS.out _ (belA hb0 (Nat.le_refl _)) | exact MkS.out _ (belA hb3 (Nat.le_refl _)) | exact MkS.out _ (belA hb7 (Nat.le_refl _)) | exact MkS.out _ (belA hb9 (Nat.le_refl _)) | exact MkS.out _ (belS4 hb9 hb7.size) | exact MkS.out _ (belS4 hb9 hb3.size) | exact MkS.out _ (belS4 hb9 (Nat.le_refl _)) | exact MkS.out _ (belS4 hb9 hb0.size) | exact MkS.out _ (belS4 hb9 hb9.size) | exact MkS.out _ (belS4 (belA hb9 (Nat.le_refl _)) hb9.size))
        (first
          | (go_at_call 23; refine (record_any _ _ _ _ _ _ _ _ _ _).mono ?_; rintro e w7 ⟨rfl, hc7⟩; have hb7 : Below w1.heap.size w1 w7 := belT (by first | assumption | exact belA (by assumption) (Nat.le_refl _)) hc7 (Nat.le_refl _); (try have bX := bX.below hc7 bX.lt); (try have bX := (Blk.new _ 53 #[.bool false, .int .i64 0, .string ⟨#[]⟩, .bool false]).below hc7 (Blk.new _ _ _).lt))
          | (go_at_call 21; refine (H4.out _ _ (by first | exact HR3.out.below (by first | assumption | exact (Below.refl _ _).alloc (Nat.le_refl _) _) | exact (HR3.out.below hc7).below ((Below.refl _ _).alloc (Nat.le_refl _) _) | exact (HR3.out.below ((Below.refl _ _).alloc (Nat.le_refl _) _)).below hc7)).mono ?_; rintro e w9 ⟨rfl, hc9⟩; have hb9 : Below w1.heap.size w1 w9 := belT (by first | assumption | exact belA (by assumption) (Nat.le_refl _)) hc9 (Nat.le_refl _); (try have bX := bX.below hc9 bX.lt); (try have bX := (Blk.new _ 53 #[.bool false, .int .i64 0, .string ⟨#[]⟩, .bool false]).below hc9 (Blk.new _ _ _).lt); (try (have y0 := bX.cell 0; have y1 := bX.cell 1; have y2 := bX.cell 2; have y3 := bX.cell 3; simp only [List.getElem?_toArray, List.getElem?_cons_zero, List.getElem?_cons_succ] at y0 y1 y2 y3; have z0 := bX.frozen 0; have z1 := bX.frozen 1; have z2 := bX.frozen 2; have z3 := bX.frozen 3)))
          | (go_at_call 22; refine (H2.out _ (by first | assumption | exact belA (by assumption) (Nat.le_refl _))).mono ?_; rintro e w3 ⟨v3, rfl, hr3, hc3⟩; have hb3 : Below w1.heap.size w1 w3 := belT (by first | assumption | exact belA (by assumption) (Nat.le_refl _)) hc3 (Nat.le_refl _); have HR3 := Lib.hid hr3; (try have bX := bX0.below hc3 bX0.lt); (try have bXXX := (Blk.new _ 53 #[.bool false, .int .i64 0, .string ⟨#[]⟩, .bool false]).below hc3 (Blk.new _ _ _).lt)))
      all_goals go_wp2_with fail
      all_goals go_meet
      · exact ⟨_, rfl, (Blk.new w9 _ _), belA hb9 (Nat.le_refl _)⟩
      · exact ⟨_, rfl, ((((bX.set 0 _).set 1 _).set 2 _).set 3 _), belS4 hb9 hb7.size⟩
      · exact ⟨_, rfl, ((((bX.set 0 _).set 1 _).set 2 _).set 3 _), belS4 hb9 hb3.size⟩
      · exact ⟨_, rfl, ((((bX.set 0 _).set 1 _).set 2 _).set 3 _), belS4 hb9 (Nat.le_refl _)⟩
    case rest =>
      obtain ⟨X, rfl, HBX, HBW⟩ := hcut
      have hbw := HBW.out
      revert HBX HBW
      intro HBX HBW
      obtain ⟨c0, c1, c2, c3, c4, c5, c6, c7, c8, _⟩ := MkS.out _ HBW.out
      have href := ref12Of_any num arch ptr a0 a1 a2 a3 a4 a5 HH.out.1 HH.out.2.1 HH.out.2.2.1 HH.out.2.2.2 (.slice ad n cp) l _ (by have := HL.out; omega) (HR1.out.below HBW.out)
      have hat := ref12_at l num arch a0
      generalize ref12 l num arch a0 = r at *
      obtain ⟨ra, rat, rm⟩ := r
      unfold ref12V at href
      have Href := Lib.hid href
      have HAt := Lib.hid hat
      clear href hat S0 hb0 H2 H4
      go_wp2_with fail
      refine Href.out.mono ?_
      rintro e w11 ⟨rfl, hb11⟩
      have HBX1 := Lib.hid (HBX.out.below hb11 HBX.out.lt)
      have HBW1 := Lib.hid (HBW.out.trans (hb11.mono HBW.out.size))
      have bY := Blk.new w11 58 #[.int .i64 ra, .int .i64 rat, .bool rm]
      have bXX := HBX1.out.alloc (.cells #[.int .i64 ra, .int .i64 rat, .bool rm] 58)
      have HBF := Lib.hid (HBW1.out.alloc HBW1.out.size (.cells #[.int .i64 ra, .int .i64 rat, .bool rm] 58))
      have g0 := bY.cell 0
      have g1 := bY.cell 1
      have g2 := bY.cell 2
      have y0 := bXX.cell 0
      have y1 := bXX.cell 1
      have y2 := bXX.cell 2
      have y3 := bXX.cell 3
      simp only [List.getElem?_toArray, List.getElem?_cons_zero, List.getElem?_cons_succ] at g0 g1 g2 y0 y1 y2 y3
      clear c0 c1 c2 c3 c4 c5 c6 c7 c8 bY bXX hb11 Href HBX HBW HBX1 HBW1
      by_cases hneg : ra < 0
      · obtain ⟨rfl, rfl, rfl, rfl⟩ := HV2.out hneg
        clear HV2 HV3
        go_upto_region 6 with fail
        go_wp2_with fail
        refine (awake12_any _).mono ?_
        rintro e wa ⟨rfl, hba⟩
        go_wp2
        go_ret
        exact ⟨rfl, (HB0.out.trans (HB1.out.mono HB0.out.size)).trans ((Below.mono HBF.out (Nat.le_trans HB0.out.size HB1.out.size)).trans (hba.mono (Nat.le_trans (Nat.le_trans HB0.out.size HB1.out.size) HBF.out.size)))⟩
      · obtain ⟨rfl, rfl, rfl, rfl⟩ := HV3.out (by omega)
        clear HV2 HV3
        by_cases hat : rat < 0
        · have hat0 : ¬ 0 ≤ rat := by omega
          have hnm : name12 l rat = ⟨#[]⟩ := by unfold name12; rw [if_pos hat]
          rw [hnm] at y2
          clear hnm
          go_upto_region 10 with fail
          go_wp2_with fail
          refine (awake12_any _).mono ?_
          rintro e wa ⟨rfl, hba⟩
          go_wp2
          go_ret
          exact ⟨rfl, (HB0.out.trans (HB1.out.mono HB0.out.size)).trans ((Below.mono HBF.out (Nat.le_trans HB0.out.size HB1.out.size)).trans (hba.mono (Nat.le_trans (Nat.le_trans HB0.out.size HB1.out.size) HBF.out.size)))⟩
        · obtain ⟨j, rfl⟩ : ∃ j : Nat, rat = (j : Int) := ⟨rat.toNat, by omega⟩
          have hj : j < l.length := by rcases HAt.out with h | ⟨_, h⟩ <;> omega
          have hjn : (j : Int) < (n : Int) := by rw [← HN.out]; omega
          have hj0 : (0 : Int) ≤ (j : Int) := by omega
          have hnm : name12 l (j : Int) = (l[j]!).name := by unfold name12; rw [if_neg hat]; simp
          rw [hnm] at y2
          clear hnm
          rcases HX.out with h | ⟨b, off, rfl, hb, hrw⟩
          · rw [h] at hj; exact absurd hj (by simp)
          have hcell := (((hrw.below HB1.out hb).below HBF.out (Nat.lt_of_lt_of_le hb HB1.out.size)) j hj) 0 _ rfl
          simp only [Nat.add_zero] at hcell
          generalize (l[j]!).name = nm at *
          clear hrw
          go_upto_region 10 with fail
          go_wp2_with fail
          refine (awake12_any _).mono ?_
          rintro e wa ⟨rfl, hba⟩
          go_wp2
          go_ret
          exact ⟨rfl, (HB0.out.trans (HB1.out.mono HB0.out.size)).trans ((Below.mono HBF.out (Nat.le_trans HB0.out.size HB1.out.size)).trans (hba.mono (Nat.le_trans (Nat.le_trans HB0.out.size HB1.out.size) HBF.out.size)))⟩
end Go.Proofs.Ytakmbmlpgmppiaa
