/- slices.Grow, slices.Concat, systab.Builtin. -/
import Derived.Test.YtakmbmlpgmppiaaDoorSysTab
namespace Go.Proofs.YtakmbmlpgmppiaaDoor
open Go Go.Proofs Go.RowKit

set_option maxRecDepth 100000 in
set_option maxHeartbeats 1000000 in
theorem grow_any (w : World) :
    Calls Tryd.prog 38 #[.slice none 0 0, .int .i64 83] w fun e w' => ∃ v, e = .returned v ∧ w'.ownsRow w.heap.size 36 8 v 0 [] ∧ Below w.heap.size w w' := by
  obtain ⟨i0, hi, hz0, hz1, hz2⟩ := info_parts infoRow
  have hrun := Lib.run_append_nil_zeros (P := Tryd.prog) w 27 3 27 36 i0 _ .i64 .i64 Tryd.underlying27 Tryd.underlying3 hi hz0 83 (by decide) (by omega) (by decide) (by rw [hz2]; decide)
  have hge := grownCap_ge w 83 0 36
  have hle := grownCap_le_maxLen w 83 0 36 (by decide)
  generalize hc : grownCap w 83 0 36 = c at hrun hge hle
  clear hc
  have hown : ∀ cur : Array Value, cur.size = c * 8 → ((w.drew).alloc (.cells cur 36)).ownsRow w.heap.size 36 8 (.slice (some ⟨w.heap.size, 0, none⟩) 0 c) 0 [] := fun cur h => World.ownsRow_made (w.drew) cur c (Nat.le_refl _) hle h
  have hO := hown (Builtin.zeroCells (Value.agg #[.string ⟨#[]⟩, .int .i64 0, .int .i64 0, .int .i64 0, .int .i64 0, .int .i64 0, .int .i64 0, .int .i64 0]).cells 83 ++ Builtin.zeroCells (Value.agg #[.string ⟨#[]⟩, .int .i64 0, .int .i64 0, .int .i64 0, .int .i64 0, .int .i64 0, .int .i64 0, .int .i64 0]).cells (c - 83)) (by rw [Array.size_append, size_zeroCells, size_zeroCells]; simp [Value.cells]; omega)
  have hB : Below w.heap.size w ((w.drew).alloc (.cells (Builtin.zeroCells (Value.agg #[.string ⟨#[]⟩, .int .i64 0, .int .i64 0, .int .i64 0, .int .i64 0, .int .i64 0, .int .i64 0, .int .i64 0]).cells 83 ++ Builtin.zeroCells (Value.agg #[.string ⟨#[]⟩, .int .i64 0, .int .i64 0, .int .i64 0, .int .i64 0, .int .i64 0, .int .i64 0, .int .i64 0]).cells (c - 83)) 36)) := (Below.refl _ w).drew.alloc (Nat.le_refl _) _
  generalize (w.drew).alloc (.cells (Builtin.zeroCells (Value.agg #[.string ⟨#[]⟩, .int .i64 0, .int .i64 0, .int .i64 0, .int .i64 0, .int .i64 0, .int .i64 0, .int .i64 0]).cells 83 ++ Builtin.zeroCells (Value.agg #[.string ⟨#[]⟩, .int .i64 0, .int .i64 0, .int .i64 0, .int .i64 0, .int .i64 0, .int .i64 0, .int .i64 0]).cells (c - 83)) 36) = w1 at hrun hO hB
  have HO := Lib.hid hO
  have HR := Lib.hid hrun
  clear hO hown hrun
  go_enter Tryd.func38, Tryd.ntmps38
  go_wp2_with (at_builtin; refine Lib.wpList_append_run _ rfl _ _ _ _ rfl _ _ rfl rfl _ _ HR.out ?_)
  go_ret
  exact ⟨_, rfl, HO.out, hB⟩

def catDone (l1 l2 : List SRow) : Nat → List SRow
  | 0 => []
  | 1 => l1
  | _ => l1 ++ l2
def catN : Nat → Nat
  | 0 => 0
  | 1 => 30
  | _ => 83
theorem flat_one (l : List SRow) : ∀ u ∈ flat l, u.oneCell' = true := by
  intro u hu
  obtain ⟨r, _, hu⟩ := List.mem_flatMap.1 hu
  exact one8 r u hu
theorem flat_app (a b : List SRow) : flat (a ++ b) = flat a ++ flat b := by simp [flat]

set_option maxRecDepth 100000 in
set_option maxHeartbeats 1000000 in
theorem concat_any (l1 l2 : List SRow) (b1 b2 B : Nat) (w : World) (hl1 : l1.length = 30) (hl2 : l2.length = 53) (h1 : Blk w b1 36 (flat l1).toArray) (h2 : Blk w b2 36 (flat l2).toArray)
    (h3 : Blk w B 27 #[.slice (some ⟨b1, 0, none⟩) 30 30, .slice (some ⟨b2, 0, none⟩) 53 53]) :
    Calls Tryd.prog 24 #[.slice (some ⟨B, 0, none⟩) 2 2] w fun e w' => ∃ v, e = .returned v ∧ w'.ownsRow w.heap.size 36 8 v 83 (flat (l1 ++ l2)) ∧ Below w.heap.size w w' := by
  obtain ⟨i0, hi, hz0, hz1, hz2⟩ := info_parts infoRow
  have HL1 : Hid ((flat l1).length = 30 * 8) := (flat_len l1).trans (by rw [hl1])
  have HL2 : Hid ((flat l2).length = 53 * 8) := (flat_len l2).trans (by rw [hl2])
  have H1 := Lib.hid h1
  have H2 := Lib.hid h2
  have H3 := Lib.hid h3
  have k0 := h3.cell 0
  have k1 := h3.cell 1
  simp only [List.getElem?_toArray, List.getElem?_cons_zero, List.getElem?_cons_succ] at k0 k1
  clear h1 h2 h3 hl1 hl2
  go_enter Tryd.func24, Tryd.ntmps24
  go_wp2
  go_loop [3, 11] (fun s3 s11 => (s3 = .int .i64 0 ∧ s11 = .int .i64 0) ∨ (s3 = .int .i64 30 ∧ s11 = .int .i64 1) ∨ (s3 = .int .i64 83 ∧ s11 = .int .i64 2)) (fun _ i => 2 - (intOf i).toNat)
  case atStart => exact .inl ⟨rfl, rfl⟩
  case round =>
    rcases hrel with ⟨rfl, rfl⟩ | ⟨rfl, rfl⟩ | ⟨rfl, rfl⟩
    · go_wp2
      go_round
      case rel => exact .inr (.inl ⟨rfl, rfl⟩)
      case measure => simp [intOf]
    · go_wp2
      go_round
      case rel => exact .inr (.inr ⟨rfl, rfl⟩)
      case measure => simp [intOf]
    · go_wp2_with fail
      refine (grow_any _).mono ?_
      rintro e w1 ⟨v, rfl, hown, hb⟩
      have HO := Lib.hid hown
      have HB := Lib.hid hb
      clear hown hb
      go_wp2
      go_loopg [6, 27] 2 (fun gg s6 s27 wr => ∃ kk : Nat, kk ≤ 2 ∧ 2 - kk ≤ gg ∧ s27 = .int .i64 kk ∧ Hid (Below w.heap.size w wr) ∧ Hid (wr.ownsRow w.heap.size 36 8 s6 (catN kk) (flat (catDone l1 l2 kk))))
      case atStart => exact ⟨0, by omega, by omega, rfl, HB, HO⟩
      case round =>
        obtain ⟨kk, hkk, hg, rfl, BW, OW⟩ := hrel
        rcases kk with _ | _ | _ | kk
        · have OW0 : wr.ownsRow w.heap.size 36 8 u6 0 [] := OW.out
          have c0 := (BW.out.cell (p := ⟨B, 0, none⟩) H3.out.lt).trans k0
          have hnews := World.news_of_block (H1.out.below BW.out H1.out.lt)
          clear OW
          go_wp2_with (at_builtin; refine wpList_append_own _ rfl _ _ 27 rfl w.heap.size 36 i0 _ 8 72 Tryd.underlying27 hi hz0 hz1 hz2 rfl (by decide) _ 0 _ rfl OW0 ⟨b1, 0, none⟩ 30 30 (flat l1) rfl HL1.out hnews (flat_one l1) (by decide) (by decide) BW.out.size ?_; intro v' w' hown' hgrow _)
          have hBn := BW.out.grown hgrow BW.out.size (fun k hk => (OW0.lt k hk).1)
          have HO' : Hid (w'.ownsRow w.heap.size 36 8 v' 30 (flat l1)) := hown'
          clear hown' hgrow OW0 hnews
          go_wp2
          go_roundg 1
          case measure => omega
          case rel => exact ⟨1, by omega, by omega, rfl, hBn, HO'⟩
        · have OW0 : wr.ownsRow w.heap.size 36 8 u6 30 (flat l1) := OW.out
          have c1 := (BW.out.cell (p := ⟨B, 1, none⟩) H3.out.lt).trans k1
          have hnews := World.news_of_block (H2.out.below BW.out H2.out.lt)
          clear OW
          go_wp2_with (at_builtin; refine wpList_append_own _ rfl _ _ 27 rfl w.heap.size 36 i0 _ 8 72 Tryd.underlying27 hi hz0 hz1 hz2 rfl (by decide) _ 30 _ rfl OW0 ⟨b2, 0, none⟩ 53 53 (flat l2) rfl HL2.out hnews (flat_one l2) (by decide) (by decide) BW.out.size ?_; intro v' w' hown' hgrow _)
          have hBn := BW.out.grown hgrow BW.out.size (fun k hk => (OW0.lt k hk).1)
          rw [← flat_app] at hown'
          have HO' : Hid (w'.ownsRow w.heap.size 36 8 v' 83 (flat (l1 ++ l2))) := hown'
          clear hown' hgrow OW0 hnews
          go_wp2
          go_roundg 0
          case measure => omega
          case rel => exact ⟨2, by omega, by omega, rfl, hBn, HO'⟩
        · go_wp2
          go_ret
          exact ⟨_, rfl, OW.out, BW.out⟩
        · omega

def builtinL : List SRow := earlyL ++ lateL
set_option maxRecDepth 100000 in
set_option maxHeartbeats 1000000 in
theorem builtin_any (w : World) :
    Calls Tryd.prog 14 #[] w fun e w' => ∃ v, e = .returned v ∧ RowsV w' v builtinL ∧ Below w.heap.size w w' := by
  have b1 := Blk.new w 36 (flat earlyL).toArray
  generalize hA : (flat earlyL).toArray = A at b1
  have b1' := (b1.alloc (.cells (flat lateL).toArray 36)).alloc (.cells #[.slice (some ⟨w.heap.size, 0, none⟩) 30 30, .slice (some ⟨w.heap.size + 1, 0, none⟩) 53 53] 27)
  have b2 := (Blk.new (w.alloc (.cells A 36)) 36 (flat lateL).toArray).alloc (.cells #[.slice (some ⟨w.heap.size, 0, none⟩) 30 30, .slice (some ⟨w.heap.size + 1, 0, none⟩) 53 53] 27)
  generalize hC : (flat lateL).toArray = C at b1' b2
  have b3 := Blk.new ((w.alloc (.cells A 36)).alloc (.cells C 36)) 27 #[.slice (some ⟨w.heap.size, 0, none⟩) 30 30, .slice (some ⟨w.heap.size + 1, 0, none⟩) 53 53]
  have hB : Below w.heap.size w (((w.alloc (.cells A 36)).alloc (.cells C 36)).alloc (.cells #[.slice (some ⟨w.heap.size, 0, none⟩) 30 30, .slice (some ⟨w.heap.size + 1, 0, none⟩) 53 53] 27)) := (((Below.refl _ w).alloc (Nat.le_refl _) _).alloc (by simp) _).alloc (by simp; omega) _
  simp only [World.size_alloc] at b1' b2 b3
  have hcat := concat_any earlyL lateL w.heap.size (w.heap.size + 1) (w.heap.size + 1 + 1) _ rfl rfl (by rw [hA]; exact b1') (by rw [hC]; exact b2) b3
  have he := early_any w
  have hl := late_any (w.alloc (.cells A 36))
  rw [hA] at he
  rw [hC] at hl
  have Hcat := Lib.hid hcat
  have He := Lib.hid he
  have Hl := Lib.hid hl
  have HB := Lib.hid hB
  clear hcat he hl hB b1 b1' b2 b3 hA hC
  go_enter Tryd.func14, Tryd.ntmps14
  go_wp2_with fail
  refine He.out.mono ?_
  rintro e w1 ⟨rfl, rfl⟩
  go_wp2_with fail
  refine Hl.out.mono ?_
  rintro e w1 ⟨rfl, rfl⟩
  go_wp2_with fail
  refine Hcat.out.mono ?_
  rintro e w1 ⟨v, rfl, ho, hb⟩
  have HR : Hid (RowsV w1 v builtinL) := (rowsV_owned (l := earlyL ++ lateL) ho).1
  have HB2 := Lib.hid (HB.out.trans (hb.mono (by simp; omega)))
  clear ho hb
  go_wp2
  go_ret
  exact ⟨_, rfl, HR.out, HB2.out⟩
end Go.Proofs.YtakmbmlpgmppiaaDoor
