/- strainerlaw12.MuxBlind: it answers true. -/
import Derived.Test.YtakmbmlpgmppiaaMuxCalls
namespace Go.Proofs.Ytakmbmlpgmppiaa
open Go Go.Proofs Go.RowKit

theorem muxV_args (l : List SRow) (num arch a0 d0 : Int) (vs vm : Bool) (va : Int) (vn : ByteArray) (h : muxV l num arch a0 = .agg #[.bool vs, .int .i64 va, .string vn, .bool vm]) (h2 : va ≠ 2) : muxV l num arch d0 = .agg #[.bool vs, .int .i64 va, .string vn, .bool vm] := by
  unfold muxV at h ⊢
  split at h
  · rename_i h1; rw [if_pos h1]; exact h
  · rename_i h1
    rw [if_neg h1]
    split at h
    · simp at h; omega
    · rename_i h3
      rw [if_neg h3]
      split at h
      · simp at h; omega
      · rename_i h4
        rw [if_neg h4]; exact h

theorem fin {B : Nat} {w w1 W : World} (h0 : Below B w w1) (h1 : Below w1.heap.size w1 W) (hB : w.heap.size = B) : Below w.heap.size w W := by
  subst hB
  exact h0.trans (h1.mono h0.size)
theorem mux_all {l : List SRow} (hT : TableOk l) (num arch a0 d0 : Int) : ∃ (vs vm : Bool) (va : Int) (vn : ByteArray), muxV l num arch a0 = .agg #[.bool vs, .int .i64 va, .string vn, .bool vm] ∧ (va ≠ 2 → muxV l num arch d0 = .agg #[.bool vs, .int .i64 va, .string vn, .bool vm]) := by
  have : ∃ (vs vm : Bool) (va : Int) (vn : ByteArray), muxV l num arch a0 = .agg #[.bool vs, .int .i64 va, .string vn, .bool vm] := by
    rw [muxV_ref hT]
    split
    · exact ⟨false, false, 0, ⟨#[]⟩, rfl⟩
    · exact ⟨_, _, _, _, rfl⟩
  obtain ⟨vs, vm, va, vn, h⟩ := this
  exact ⟨vs, vm, va, vn, h, muxV_args l num arch a0 d0 vs vm va vn h⟩

set_option maxRecDepth 100000 in
set_option maxHeartbeats 3000000 in
theorem blind_any (num arch ptr a0 a1 a2 a3 a4 a5 pt d0 d1 d2 d3 d4 d5 : Int) (h0 : 0 ≤ num) (h1 : num < 4294967296) (g0 : 0 ≤ a0) (g1 : a0 < 18446744073709551616) (k0 : 0 ≤ d0) (k1 : d0 < 18446744073709551616) (ad : Option Addr) (n cp : Nat) (l : List SRow) (w : World) (hn : l.length = n) (hR : RowsV w (.slice ad n cp) l) :
    Calls Try.prog 5 #[.agg #[.slice ad n cp, .int .u32 num, .int .u32 arch, .int .u64 ptr, .int .u64 a0, .int .u64 a1, .int .u64 a2, .int .u64 a3, .int .u64 a4, .int .u64 a5, .int .u64 pt, .int .u64 d0, .int .u64 d1, .int .u64 d2, .int .u64 d3, .int .u64 d4, .int .u64 d5]] w fun e w' => e = .returned (.bool true) ∧ Below w.heap.size w w' := by
  have hB0 := (Below.refl _ w).alloc (Nat.le_refl _) (.cells #[.slice ad n cp, .int .u32 num, .int .u32 arch, .int .u64 ptr, .int .u64 a0, .int .u64 a1, .int .u64 a2, .int .u64 a3, .int .u64 a4, .int .u64 a5, .int .u64 pt, .int .u64 d0, .int .u64 d1, .int .u64 d2, .int .u64 d3, .int .u64 d4, .int .u64 d5] 62)
  have hK := Blk.new w 62 #[.slice ad n cp, .int .u32 num, .int .u32 arch, .int .u64 ptr, .int .u64 a0, .int .u64 a1, .int .u64 a2, .int .u64 a3, .int .u64 a4, .int .u64 a5, .int .u64 pt, .int .u64 d0, .int .u64 d1, .int .u64 d2, .int .u64 d3, .int .u64 d4, .int .u64 d5]
  have HH : Hid (0 ≤ num ∧ num < 4294967296 ∧ 0 ≤ a0 ∧ a0 < 18446744073709551616 ∧ 0 ≤ d0 ∧ d0 < 18446744073709551616) := ⟨h0, h1, g0, g1, k0, k1⟩
  have HB0 := Lib.hid hB0
  have HK := Lib.hid hK
  have HR := Lib.hid (hR.below hB0)
  have HN := Lib.hid hn
  clear h0 h1 g0 g1 k0 k1 hB0 hK hR hn
  go_enter Try.func5, Try.ntmps5
  go_upto_region 1 with fail
  generalize w.alloc (.cells #[.slice ad n cp, .int .u32 num, .int .u32 arch, .int .u64 ptr, .int .u64 a0, .int .u64 a1, .int .u64 a2, .int .u64 a3, .int .u64 a4, .int .u64 a5, .int .u64 pt, .int .u64 d0, .int .u64 d1, .int .u64 d2, .int .u64 d3, .int .u64 d4, .int .u64 d5] 62) = w1 at *
  generalize hBd : w.heap.size = B at *
  have HBd := Lib.hid hBd
  clear hBd
  have hmk : ∀ W, Below w1.heap.size w1 W → (W.cell? ⟨B, 0, none⟩ = some (.slice ad n cp) ∧ W.cell? ⟨B, 1, none⟩ = some (.int .u32 num) ∧ W.cell? ⟨B, 2, none⟩ = some (.int .u32 arch) ∧ W.cell? ⟨B, 3, none⟩ = some (.int .u64 ptr) ∧ W.cell? ⟨B, 4, none⟩ = some (.int .u64 a0) ∧ W.cell? ⟨B, 5, none⟩ = some (.int .u64 a1) ∧ W.cell? ⟨B, 6, none⟩ = some (.int .u64 a2) ∧ W.cell? ⟨B, 7, none⟩ = some (.int .u64 a3) ∧ W.cell? ⟨B, 8, none⟩ = some (.int .u64 a4) ∧ W.cell? ⟨B, 9, none⟩ = some (.int .u64 a5) ∧ W.cell? ⟨B, 10, none⟩ = some (.int .u64 pt) ∧ W.cell? ⟨B, 11, none⟩ = some (.int .u64 d0) ∧ W.cell? ⟨B, 12, none⟩ = some (.int .u64 d1) ∧ W.cell? ⟨B, 13, none⟩ = some (.int .u64 d2) ∧ W.cell? ⟨B, 14, none⟩ = some (.int .u64 d3) ∧ W.cell? ⟨B, 15, none⟩ = some (.int .u64 d4) ∧ W.cell? ⟨B, 16, none⟩ = some (.int .u64 d5) ∧ Below w1.heap.size w1 W) := fun W hW => by
    have h := HK.out.below hW HK.out.lt
    exact ⟨h.cell 0, h.cell 1, h.cell 2, h.cell 3, h.cell 4, h.cell 5, h.cell 6, h.cell 7, h.cell 8, h.cell 9, h.cell 10, h.cell 11, h.cell 12, h.cell 13, h.cell 14, h.cell 15, h.cell 16, hW⟩
  have MkS := Lib.hid hmk
  clear hmk
  have hb0 := (Below.refl w1.heap.size w1).drew
  go_cut [3, 4, 5, 6] (fun s3 s4 s5 s6 wx => s3 = .slice ad n cp ∧ s5 = .int .u64 pt ∧ ∃ X Y : Nat, s4 = .pointer (some ⟨X, 0, none⟩) ∧ s6 = .pointer (some ⟨Y, 0, none⟩) ∧ X ≠ Y ∧ Hid (w1.heap.size ≤ X ∧ w1.heap.size ≤ Y) ∧ Hid (Blk wx X 51 #[.int .u32 num, .int .u32 arch, .int .u64 ptr, .int .u64 a0, .int .u64 a1, .int .u64 a2, .int .u64 a3, .int .u64 a4, .int .u64 a5]) ∧ Hid (Blk wx Y 49 #[.int .u64 d0, .int .u64 d1, .int .u64 d2, .int .u64 d3, .int .u64 d4, .int .u64 d5]) ∧ Hid (Below w1.heap.size w1 wx))
  case first =>
    go_region_held3 (fun W => W.cell? ⟨B, 0, none⟩ = some (.slice ad n cp) ∧ W.cell? ⟨B, 1, none⟩ = some (.int .u32 num) ∧ W.cell? ⟨B, 2, none⟩ = some (.int .u32 arch) ∧ W.cell? ⟨B, 3, none⟩ = some (.int .u64 ptr) ∧ W.cell? ⟨B, 4, none⟩ = some (.int .u64 a0) ∧ W.cell? ⟨B, 5, none⟩ = some (.int .u64 a1) ∧ W.cell? ⟨B, 6, none⟩ = some (.int .u64 a2) ∧ W.cell? ⟨B, 7, none⟩ = some (.int .u64 a3) ∧ W.cell? ⟨B, 8, none⟩ = some (.int .u64 a4) ∧ W.cell? ⟨B, 9, none⟩ = some (.int .u64 a5) ∧ W.cell? ⟨B, 10, none⟩ = some (.int .u64 pt) ∧ W.cell? ⟨B, 11, none⟩ = some (.int .u64 d0) ∧ W.cell? ⟨B, 12, none⟩ = some (.int .u64 d1) ∧ W.cell? ⟨B, 13, none⟩ = some (.int .u64 d2) ∧ W.cell? ⟨B, 14, none⟩ = some (.int .u64 d3) ∧ W.cell? ⟨B, 15, none⟩ = some (.int .u64 d4) ∧ W.cell? ⟨B, 16, none⟩ = some (.int .u64 d5) ∧ Below w1.heap.size w1 W)
      (first | assumption | exact MkS.out _ hb0 | exact MkS.out _ (belA hb0 (Nat.le_refl _)) | exact MkS.out _ (belA (belA hb0 (Nat.le_refl _)) (Nat.le_refl _)))
      (fail)
    all_goals go_wp2_with fail
    all_goals go_meet
    · exact ⟨rfl, rfl, w1.heap.size, w1.heap.size + 1, rfl, rfl, by omega, ⟨Nat.le_refl _, by omega⟩, (Blk.new w1 _ _).alloc _, Blk.at _ _ _ (by simp), (((Below.refl _ w1).alloc (Nat.le_refl _) _).alloc (by simp) _).drew⟩
    · exact ⟨rfl, rfl, w1.heap.size + 1, w1.heap.size, rfl, rfl, by omega, ⟨by omega, Nat.le_refl _⟩, Blk.at _ _ _ (by simp), (Blk.new w1 _ _).alloc _, (((Below.refl _ w1).alloc (Nat.le_refl _) _).alloc (by simp) _).drew⟩
  case rest =>
    obtain ⟨rfl, rfl, X, Y, rfl, rfl, hXY, HXY, HBX, HBY, HBW⟩ := hcut
    clear MkS hb0 HK
    have HLt := Lib.hid (light12_any (.slice ad n cp) l _ (HR.out.below HBW.out))
    go_wp2_with fail
    refine HLt.out.mono ?_
    rintro e w2 ⟨b, rfl, hT, hc2⟩
    have HB2 := Lib.hid (HBW.out.trans (hc2.mono HBW.out.size))
    have HBX2 := Lib.hid (HBX.out.below hc2 HBX.out.lt)
    have HBY2 := Lib.hid (HBY.out.below hc2 HBY.out.lt)
    clear HLt HBX HBY HBW hc2
    cases b with
    | false =>
      go_wp2
      go_ret
      exact ⟨rfl, fin HB0.out HB2.out HBd.out⟩
    | true =>
      have HT := Lib.hid (hT rfl).1
      have HL := Lib.hid (hT rfl).2
      clear hT
      obtain ⟨vs, vm, va, vn, hv1, hv4⟩ := mux_all HT.out num arch a0 d0
      have HV4 := Lib.hid hv4
      have HR2 := Lib.hid (HR.out.below HB2.out)
      have h2 : ∀ W, Below w2.heap.size w2 W → Calls Try.prog 22 #[.slice ad n cp] W fun e w' => ∃ v, e = .returned v ∧ RowsV w' v l ∧ Below W.heap.size W w' := fun W hW => (of12_any _ l W (by have := HL.out; have := HN.out; omega) (HR2.out.below hW)).mono (fun e w' ⟨v, h1, h2, h3⟩ => ⟨v, h1, (rowsV_owned h2).1, h3⟩)
      have h4 : ∀ v W, RowsV W v l → Calls Try.prog 21 #[v, .agg #[.int .u32 num, .int .u32 arch, .int .u64 ptr, .int .u64 a0, .int .u64 a1, .int .u64 a2, .int .u64 a3, .int .u64 a4, .int .u64 a5]] W fun e w' => e = .returned (.agg #[.bool vs, .int .i64 va, .string vn, .bool vm]) ∧ Below W.heap.size W w' := fun v W hW => by
        have := muxOf_any num arch ptr a0 a1 a2 a3 a4 a5 HH.out.1 HH.out.2.1 HH.out.2.2.1 HH.out.2.2.2.1 v l W (by have := HL.out; have := HN.out; omega) hW
        rw [hv1] at this
        exact this
      have H2 := Lib.hid h2
      have H4 := Lib.hid h4
      have HV1 := Lib.hid hv1
      have hmk : ∀ W, Below w2.heap.size w2 W → (W.cell? ⟨X, 0, none⟩ = some (.int .u32 num) ∧ W.cell? ⟨X, 1, none⟩ = some (.int .u32 arch) ∧ W.cell? ⟨X, 2, none⟩ = some (.int .u64 ptr) ∧ W.cell? ⟨X, 3, none⟩ = some (.int .u64 a0) ∧ W.cell? ⟨X, 4, none⟩ = some (.int .u64 a1) ∧ W.cell? ⟨X, 5, none⟩ = some (.int .u64 a2) ∧ W.cell? ⟨X, 6, none⟩ = some (.int .u64 a3) ∧ W.cell? ⟨X, 7, none⟩ = some (.int .u64 a4) ∧ W.cell? ⟨X, 8, none⟩ = some (.int .u64 a5) ∧ Below w2.heap.size w2 W) := fun W hW => by
        have h := HBX2.out.below hW HBX2.out.lt
        exact ⟨h.cell 0, h.cell 1, h.cell 2, h.cell 3, h.cell 4, h.cell 5, h.cell 6, h.cell 7, h.cell 8, hW⟩
      have MkS := Lib.hid hmk
      have hb0 := (Below.refl w2.heap.size w2).drew
      have S0 := MkS.out _ hb0
      have bX0 : Blk (w2.drew.alloc (.cells #[.bool false, .int .i64 0, .string ⟨#[]⟩, .bool false] 53)) w2.heap.size 53 #[.bool false, .int .i64 0, .string ⟨#[]⟩, .bool false] := Blk.new w2.drew _ _
      have hbA := belA (o := .cells #[.bool false, .int .i64 0, .string ⟨#[]⟩, .bool false] 53) hb0 (Nat.le_refl _)
      clear hv1 hv4 h2 h4 hmk
      go_upto_region 4 with fail
      go_cut [7] (fun s7 wx => ∃ V : Nat, s7 = .pointer (some ⟨V, 0, none⟩) ∧ Hid (w2.heap.size ≤ V) ∧ Hid (Blk wx V 53 #[.bool vs, .int .i64 va, .string vn, .bool vm]) ∧ Hid (Below w2.heap.size w2 wx))
      case first =>
        go_region_held3 (fun W => W.cell? ⟨X, 0, none⟩ = some (.int .u32 num) ∧ W.cell? ⟨X, 1, none⟩ = some (.int .u32 arch) ∧ W.cell? ⟨X, 2, none⟩ = some (.int .u64 ptr) ∧ W.cell? ⟨X, 3, none⟩ = some (.int .u64 a0) ∧ W.cell? ⟨X, 4, none⟩ = some (.int .u64 a1) ∧ W.cell? ⟨X, 5, none⟩ = some (.int .u64 a2) ∧ W.cell? ⟨X, 6, none⟩ = some (.int .u64 a3) ∧ W.cell? ⟨X, 7, none⟩ = some (.int .u64 a4) ∧ W.cell? ⟨X, 8, none⟩ = some (.int .u64 a5) ∧ Below w2.heap.size w2 W)
          (first | assumption | exact MkS.out _ hb0 | exact MkS.out _ hb3 | exact MkS.out _ hb7 | exact MkS.out _ hb9 | exact MkS.out _ (belA hb0 (Nat.le_refl _)) | exact MkS.out _ (belA hb3 (Nat.le_refl _)) | exact MkS.out _ (belA hb7 (Nat.le_refl _)) | exact MkS.out _ (belA hb9 (Nat.le_refl _)) | exact MkS.out _ (belS4 hb9 hb7.size) | exact MkS.out _ (belS4 hb9 hb3.size) | exact MkS.out _ (belS4 hb9 (Nat.le_refl _)))
          (first
            | (go_at_call 23; refine (record_any _ _ _ _ _ _ _ _ _ _).mono ?_; rintro e w7 ⟨rfl, hc7⟩; have hb7 : Below w2.heap.size w2 w7 := belT (by first | assumption | exact belA (by assumption) (Nat.le_refl _)) hc7 (Nat.le_refl _); (try have bX := bX.below hc7 bX.lt); (try have bX := (Blk.new _ 53 #[.bool false, .int .i64 0, .string ⟨#[]⟩, .bool false]).below hc7 (Blk.new _ _ _).lt))
              | (go_at_call 21; refine (H4.out _ _ (by first | exact HR3.out.below (by first | assumption | exact (Below.refl _ _).alloc (Nat.le_refl _) _) | exact (HR3.out.below hc7).below ((Below.refl _ _).alloc (Nat.le_refl _) _) | exact (HR3.out.below ((Below.refl _ _).alloc (Nat.le_refl _) _)).below hc7)).mono ?_; rintro e w9 ⟨rfl, hc9⟩; have hb9 : Below w2.heap.size w2 w9 := belT (by first | assumption | exact belA (by assumption) (Nat.le_refl _)) hc9 (Nat.le_refl _); (try have bX := bX.below hc9 bX.lt); (try have bX := (Blk.new _ 53 #[.bool false, .int .i64 0, .string ⟨#[]⟩, .bool false]).below hc9 (Blk.new _ _ _).lt); (try (have y0 := bX.cell 0; have y1 := bX.cell 1; have y2 := bX.cell 2; have y3 := bX.cell 3; simp only [List.getElem?_toArray, List.getElem?_cons_zero, List.getElem?_cons_succ] at y0 y1 y2 y3; have z0 := bX.frozen 0; have z1 := bX.frozen 1; have z2 := bX.frozen 2; have z3 := bX.frozen 3)))
              | (go_at_call 22; refine (H2.out _ (by first | assumption | exact belA (by assumption) (Nat.le_refl _))).mono ?_; rintro e w3 ⟨v3, rfl, hr3, hc3⟩; have hb3 : Below w2.heap.size w2 w3 := belT (by first | assumption | exact belA (by assumption) (Nat.le_refl _)) hc3 (Nat.le_refl _); have HR3 := Lib.hid hr3; (try have bX := bX0.below hc3 bX0.lt); (try have bXXX := (Blk.new _ 53 #[.bool false, .int .i64 0, .string ⟨#[]⟩, .bool false]).below hc3 (Blk.new _ _ _).lt)))
        all_goals go_wp2_with fail
        all_goals go_meet
        · exact ⟨_, rfl, hb9.size, (Blk.new w9 _ _), belA hb9 (Nat.le_refl _)⟩
        · exact ⟨_, rfl, hb7.size, ((((bX.set 0 _).set 1 _).set 2 _).set 3 _), belS4 hb9 hb7.size⟩
        · exact ⟨_, rfl, hb3.size, ((((bX.set 0 _).set 1 _).set 2 _).set 3 _), belS4 hb9 hb3.size⟩
        · exact ⟨_, rfl, Nat.le_refl _, ((((bX.set 0 _).set 1 _).set 2 _).set 3 _), belS4 hb9 (Nat.le_refl _)⟩
      case rest =>
        obtain ⟨V, rfl, HV, HBV, HB3⟩ := hcut
        have HBX3 := Lib.hid (HBX2.out.below HB3.out HBX2.out.lt)
        have HBY3 := Lib.hid (HBY2.out.below HB3.out HBY2.out.lt)
        have HXV : Hid (X ≠ V) := (show X ≠ V by have := HBX2.out.lt; have := HV.out; omega)
        clear MkS S0 bX0 hbA hb0 H2 H4 HBX2 HBY2
        have y0 := HBV.out.cell 0
        have y1 := HBV.out.cell 1
        have y2 := HBV.out.cell 2
        have y3 := HBV.out.cell 3
        have x2 := HBX3.out.cell 2
        have f2 := HBX3.out.frozen 2
        simp only [List.getElem?_toArray, List.getElem?_cons_zero, List.getElem?_cons_succ] at y0 y1 y2 y3 x2
        have hVX : V ≠ X := fun e => HXV.out e.symm
        have hYX : Y ≠ X := fun e => hXY e.symm
        have hs5 : Hid (Blk _ X 51 #[.int .u32 num, .int .u32 arch, .int .u64 pt, .int .u64 a0, .int .u64 a1, .int .u64 a2, .int .u64 a3, .int .u64 a4, .int .u64 a5]) := HBX3.out.set 2 (.int .u64 pt)
        have hs6 : Hid (Blk _ V 53 _) := HBV.out.other hVX 2 (.int .u64 pt)
        have hs7 : Hid (Blk _ Y 49 _) := HBY3.out.other hYX 2 (.int .u64 pt)
        have hs8 : Hid (Below w1.heap.size w1 _) := (HB2.out.trans (HB3.out.mono HB2.out.size)).setCell (p := ⟨X, 2, none⟩) HXY.out.1 (.int .u64 pt)
        clear HBX3 HBV HBY3 HB3 HR2
        have HVX := Lib.hid hVX
        clear hVX hYX hXY
        go_upto_region 6 with fail
        clear y0 y1 y2 y3 x2 f2
        generalize hW5 : World.setCell _ (⟨X, 2, none⟩ : Addr) (Value.int .u64 pt) = w5 at *
        clear hW5
        have hX5 := hs5.out
        have hV5 := hs6.out
        have hY5 := hs7.out
        have hB5 := hs8.out
        clear hs5 hs6 hs7 hs8
        have y1 := hV5.cell 1
        simp only [List.getElem?_toArray, List.getElem?_cons_zero, List.getElem?_cons_succ] at y1
        by_cases h2 : va = 2
        · subst h2
          go_upto_region 8 with fail
          clear y1
          have HB6 := Lib.hid hB5
          have HX6 := Lib.hid hX5
          have HV6 := Lib.hid hV5
          have HR6 := Lib.hid (HR.out.below HB6.out)
          have h2 : ∀ W, Below w5.heap.size w5 W → Calls Try.prog 22 #[.slice ad n cp] W fun e w' => ∃ v, e = .returned v ∧ RowsV w' v l ∧ Below W.heap.size W w' := fun W hW => (of12_any _ l W (by have := HL.out; have := HN.out; omega) (HR6.out.below hW)).mono (fun e w' ⟨v, h1, h2, h3⟩ => ⟨v, h1, (rowsV_owned h2).1, h3⟩)
          have h4 : ∀ v W, RowsV W v l → Calls Try.prog 21 #[v, .agg #[.int .u32 num, .int .u32 arch, .int .u64 pt, .int .u64 a0, .int .u64 a1, .int .u64 a2, .int .u64 a3, .int .u64 a4, .int .u64 a5]] W fun e w' => e = .returned (.agg #[.bool vs, .int .i64 2, .string vn, .bool vm]) ∧ Below W.heap.size W w' := fun v W hW => by
            have := muxOf_any num arch pt a0 a1 a2 a3 a4 a5 HH.out.1 HH.out.2.1 HH.out.2.2.1 HH.out.2.2.2.1 v l W (by have := HL.out; have := HN.out; omega) hW
            rw [HV1.out] at this
            exact this
          have H2 := Lib.hid h2
          have H4 := Lib.hid h4
          have hmk : ∀ W, Below w5.heap.size w5 W → (W.cell? ⟨X, 0, none⟩ = some (.int .u32 num) ∧ W.cell? ⟨X, 1, none⟩ = some (.int .u32 arch) ∧ W.cell? ⟨X, 2, none⟩ = some (.int .u64 pt) ∧ W.cell? ⟨X, 3, none⟩ = some (.int .u64 a0) ∧ W.cell? ⟨X, 4, none⟩ = some (.int .u64 a1) ∧ W.cell? ⟨X, 5, none⟩ = some (.int .u64 a2) ∧ W.cell? ⟨X, 6, none⟩ = some (.int .u64 a3) ∧ W.cell? ⟨X, 7, none⟩ = some (.int .u64 a4) ∧ W.cell? ⟨X, 8, none⟩ = some (.int .u64 a5) ∧ W.cell? ⟨V, 0, none⟩ = some (.bool vs) ∧ W.cell? ⟨V, 1, none⟩ = some (.int .i64 2) ∧ W.cell? ⟨V, 2, none⟩ = some (.string vn) ∧ W.cell? ⟨V, 3, none⟩ = some (.bool vm) ∧ Below w5.heap.size w5 W) := fun W hW => by
            have h := HX6.out.below hW HX6.out.lt
            have h' := HV6.out.below hW HV6.out.lt
            exact ⟨h.cell 0, h.cell 1, h.cell 2, h.cell 3, h.cell 4, h.cell 5, h.cell 6, h.cell 7, h.cell 8, h'.cell 0, h'.cell 1, h'.cell 2, h'.cell 3, hW⟩
          have MkS := Lib.hid hmk
          have hb0 := (Below.refl w5.heap.size w5).drew
          have S0 := MkS.out _ hb0
          clear h2 h4 hmk
          clear hB5 hX5 hV5
          go_region_held3 (fun W => W.cell? ⟨X, 0, none⟩ = some (.int .u32 num) ∧ W.cell? ⟨X, 1, none⟩ = some (.int .u32 arch) ∧ W.cell? ⟨X, 2, none⟩ = some (.int .u64 pt) ∧ W.cell? ⟨X, 3, none⟩ = some (.int .u64 a0) ∧ W.cell? ⟨X, 4, none⟩ = some (.int .u64 a1) ∧ W.cell? ⟨X, 5, none⟩ = some (.int .u64 a2) ∧ W.cell? ⟨X, 6, none⟩ = some (.int .u64 a3) ∧ W.cell? ⟨X, 7, none⟩ = some (.int .u64 a4) ∧ W.cell? ⟨X, 8, none⟩ = some (.int .u64 a5) ∧ W.cell? ⟨V, 0, none⟩ = some (.bool vs) ∧ W.cell? ⟨V, 1, none⟩ = some (.int .i64 2) ∧ W.cell? ⟨V, 2, none⟩ = some (.string vn) ∧ W.cell? ⟨V, 3, none⟩ = some (.bool vm) ∧ Below w5.heap.size w5 W)
            (first | assumption | exact MkS.out _ hb0 | exact MkS.out _ hb3 | exact MkS.out _ hb7 | exact MkS.out _ hb9 | exact MkS.out _ hb8)
            (first
              | (go_at_call 23; refine (record_any _ _ _ _ _ _ _ _ _ _).mono ?_; rintro e w7 ⟨rfl, hc7⟩; have hb7 : Below w5.heap.size w5 w7 := belT (by assumption) hc7 (Nat.le_refl _))
              | (go_at_call 21; refine (H4.out _ _ (HR3.out.below hc7)).mono ?_; rintro e w9 ⟨rfl, hc9⟩; have hb9 : Below w5.heap.size w5 w9 := belT (by assumption) hc9 (Nat.le_refl _))
              | (go_at_call 25; refine (awake12_any _).mono ?_; rintro e w8 ⟨rfl, hc8⟩; have hb8 : Below w5.heap.size w5 w8 := belT (by assumption) hc8 (Nat.le_refl _))
              | (go_at_call 22; refine (H2.out _ (by assumption)).mono ?_; rintro e w3 ⟨v3, rfl, hr3, hc3⟩; have hb3 : Below w5.heap.size w5 w3 := belT (by assumption) hc3 (Nat.le_refl _); have HR3 := Lib.hid hr3))
          all_goals go_wp2_with fail
          all_goals go_ret
          all_goals exact ⟨rfl, fin HB0.out (HB6.out.trans (hb8.mono HB6.out.size)) HBd.out⟩
        · have x3 := hX5.cell 3
          have x4 := hX5.cell 4
          have x5 := hX5.cell 5
          have x6 := hX5.cell 6
          have x7 := hX5.cell 7
          have x8 := hX5.cell 8
          have f3 := hX5.frozen 3
          have f4 := hX5.frozen 4
          have f5 := hX5.frozen 5
          have f6 := hX5.frozen 6
          have f7 := hX5.frozen 7
          have f8 := hX5.frozen 8
          have p0 := hY5.cell 0
          have p1 := hY5.cell 1
          have p2 := hY5.cell 2
          have p3 := hY5.cell 3
          have p4 := hY5.cell 4
          have p5 := hY5.cell 5
          simp only [List.getElem?_toArray, List.getElem?_cons_zero, List.getElem?_cons_succ] at x3 x4 x5 x6 x7 x8 p0 p1 p2 p3 p4 p5
          have HX5 := Lib.hid hX5
          have HV5 := Lib.hid hV5
          have HB5 := Lib.hid hB5
          have HVV := Lib.hid (HV4.out h2)
          clear hX5 hV5 hY5 hB5
          go_upto_region 8 with fail
          clear x3 x4 x5 x6 x7 x8 f3 f4 f5 f6 f7 f8 p0 p1 p2 p3 p4 p5 y1
          have hVX := HVX.out
          have hX5 := HX5.out
          have hV5 := HV5.out
          have hB5 := HB5.out
          have hs5 : Hid (Blk _ X 51 #[.int .u32 num, .int .u32 arch, .int .u64 pt, .int .u64 d0, .int .u64 d1, .int .u64 d2, .int .u64 d3, .int .u64 d4, .int .u64 d5]) := ((((((hX5.set 3 (.int .u64 d0)).set 4 (.int .u64 d1)).set 5 (.int .u64 d2)).set 6 (.int .u64 d3)).set 7 (.int .u64 d4)).set 8 (.int .u64 d5))
          have hs6 : Hid (Blk _ V 53 _) := ((((((hV5.other hVX 3 (.int .u64 d0)).other hVX 4 (.int .u64 d1)).other hVX 5 (.int .u64 d2)).other hVX 6 (.int .u64 d3)).other hVX 7 (.int .u64 d4)).other hVX 8 (.int .u64 d5))
          have hs8 : Hid (Below w1.heap.size w1 _) := ((((((hB5.setCell (p := ⟨X, 3, none⟩) HXY.out.1 (.int .u64 d0)).setCell (p := ⟨X, 4, none⟩) HXY.out.1 (.int .u64 d1)).setCell (p := ⟨X, 5, none⟩) HXY.out.1 (.int .u64 d2)).setCell (p := ⟨X, 6, none⟩) HXY.out.1 (.int .u64 d3)).setCell (p := ⟨X, 7, none⟩) HXY.out.1 (.int .u64 d4)).setCell (p := ⟨X, 8, none⟩) HXY.out.1 (.int .u64 d5))
          clear hVX hX5 hV5 hB5 HX5 HV5 HB5
          generalize hW6 : ((((((w5.setCell ⟨X, 3, none⟩ (.int .u64 d0)).setCell ⟨X, 4, none⟩ (.int .u64 d1)).setCell ⟨X, 5, none⟩ (.int .u64 d2)).setCell ⟨X, 6, none⟩ (.int .u64 d3)).setCell ⟨X, 7, none⟩ (.int .u64 d4)).setCell ⟨X, 8, none⟩ (.int .u64 d5)) = w6 at *
          clear hW6
          have hX6 := hs5.out
          have hV6 := hs6.out
          have hB6 := hs8.out
          clear hs5 hs6 hs8
          have HB6 := Lib.hid hB6
          have HX6 := Lib.hid hX6
          have HV6 := Lib.hid hV6
          have HR6 := Lib.hid (HR.out.below HB6.out)
          have h2 : ∀ W, Below w6.heap.size w6 W → Calls Try.prog 22 #[.slice ad n cp] W fun e w' => ∃ v, e = .returned v ∧ RowsV w' v l ∧ Below W.heap.size W w' := fun W hW => (of12_any _ l W (by have := HL.out; have := HN.out; omega) (HR6.out.below hW)).mono (fun e w' ⟨v, h1, h2, h3⟩ => ⟨v, h1, (rowsV_owned h2).1, h3⟩)
          have h4 : ∀ v W, RowsV W v l → Calls Try.prog 21 #[v, .agg #[.int .u32 num, .int .u32 arch, .int .u64 pt, .int .u64 d0, .int .u64 d1, .int .u64 d2, .int .u64 d3, .int .u64 d4, .int .u64 d5]] W fun e w' => e = .returned (.agg #[.bool vs, .int .i64 va, .string vn, .bool vm]) ∧ Below W.heap.size W w' := fun v W hW => by
            have := muxOf_any num arch pt d0 d1 d2 d3 d4 d5 HH.out.1 HH.out.2.1 HH.out.2.2.2.2.1 HH.out.2.2.2.2.2 v l W (by have := HL.out; have := HN.out; omega) hW
            rw [HVV.out] at this
            exact this
          have H2 := Lib.hid h2
          have H4 := Lib.hid h4
          have hmk : ∀ W, Below w6.heap.size w6 W → (W.cell? ⟨X, 0, none⟩ = some (.int .u32 num) ∧ W.cell? ⟨X, 1, none⟩ = some (.int .u32 arch) ∧ W.cell? ⟨X, 2, none⟩ = some (.int .u64 pt) ∧ W.cell? ⟨X, 3, none⟩ = some (.int .u64 d0) ∧ W.cell? ⟨X, 4, none⟩ = some (.int .u64 d1) ∧ W.cell? ⟨X, 5, none⟩ = some (.int .u64 d2) ∧ W.cell? ⟨X, 6, none⟩ = some (.int .u64 d3) ∧ W.cell? ⟨X, 7, none⟩ = some (.int .u64 d4) ∧ W.cell? ⟨X, 8, none⟩ = some (.int .u64 d5) ∧ W.cell? ⟨V, 0, none⟩ = some (.bool vs) ∧ W.cell? ⟨V, 1, none⟩ = some (.int .i64 va) ∧ W.cell? ⟨V, 2, none⟩ = some (.string vn) ∧ W.cell? ⟨V, 3, none⟩ = some (.bool vm) ∧ Below w6.heap.size w6 W) := fun W hW => by
            have h := HX6.out.below hW HX6.out.lt
            have h' := HV6.out.below hW HV6.out.lt
            exact ⟨h.cell 0, h.cell 1, h.cell 2, h.cell 3, h.cell 4, h.cell 5, h.cell 6, h.cell 7, h.cell 8, h'.cell 0, h'.cell 1, h'.cell 2, h'.cell 3, hW⟩
          have MkS := Lib.hid hmk
          have hb0 := (Below.refl w6.heap.size w6).drew
          have S0 := MkS.out _ hb0
          clear h2 h4 hmk
          clear hB6 hX6 hV6
          go_region_held3 (fun W => W.cell? ⟨X, 0, none⟩ = some (.int .u32 num) ∧ W.cell? ⟨X, 1, none⟩ = some (.int .u32 arch) ∧ W.cell? ⟨X, 2, none⟩ = some (.int .u64 pt) ∧ W.cell? ⟨X, 3, none⟩ = some (.int .u64 d0) ∧ W.cell? ⟨X, 4, none⟩ = some (.int .u64 d1) ∧ W.cell? ⟨X, 5, none⟩ = some (.int .u64 d2) ∧ W.cell? ⟨X, 6, none⟩ = some (.int .u64 d3) ∧ W.cell? ⟨X, 7, none⟩ = some (.int .u64 d4) ∧ W.cell? ⟨X, 8, none⟩ = some (.int .u64 d5) ∧ W.cell? ⟨V, 0, none⟩ = some (.bool vs) ∧ W.cell? ⟨V, 1, none⟩ = some (.int .i64 va) ∧ W.cell? ⟨V, 2, none⟩ = some (.string vn) ∧ W.cell? ⟨V, 3, none⟩ = some (.bool vm) ∧ Below w6.heap.size w6 W)
            (first | assumption | exact MkS.out _ hb0 | exact MkS.out _ hb3 | exact MkS.out _ hb7 | exact MkS.out _ hb9 | exact MkS.out _ hb8)
            (first
              | (go_at_call 23; refine (record_any _ _ _ _ _ _ _ _ _ _).mono ?_; rintro e w7 ⟨rfl, hc7⟩; have hb7 : Below w6.heap.size w6 w7 := belT (by assumption) hc7 (Nat.le_refl _))
              | (go_at_call 21; refine (H4.out _ _ (HR3.out.below hc7)).mono ?_; rintro e w9 ⟨rfl, hc9⟩; have hb9 : Below w6.heap.size w6 w9 := belT (by assumption) hc9 (Nat.le_refl _))
              | (go_at_call 25; refine (awake12_any _).mono ?_; rintro e w8 ⟨rfl, hc8⟩; have hb8 : Below w6.heap.size w6 w8 := belT (by assumption) hc8 (Nat.le_refl _))
              | (go_at_call 22; refine (H2.out _ (by assumption)).mono ?_; rintro e w3 ⟨v3, rfl, hr3, hc3⟩; have hb3 : Below w6.heap.size w6 w3 := belT (by assumption) hc3 (Nat.le_refl _); have HR3 := Lib.hid hr3))
          all_goals go_wp2_with fail
          all_goals go_ret
          all_goals exact ⟨rfl, fin HB0.out (HB6.out.trans (hb8.mono HB6.out.size)) HBd.out⟩
end Go.Proofs.Ytakmbmlpgmppiaa
