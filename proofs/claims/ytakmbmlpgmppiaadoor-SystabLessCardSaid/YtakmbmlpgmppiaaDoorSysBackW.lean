/- strainerlaw11.SystabBack: the walk. -/
import Derived.Test.YtakmbmlpgmppiaaDoorSysBack
import Derived.Deep.RegionHeld3
namespace Go.Proofs.YtakmbmlpgmppiaaDoor
open Go Go.Proofs Go.RowKit

set_option maxRecDepth 100000 in
set_option maxHeartbeats 3000000 in
theorem back_any (a : Int) (ha0 : 0 ≤ a) (ha1 : a ≤ 255) (sv : Value) (l : List SRow) (w : World) (hR : RowsV w sv l) :
    Calls Tryd.prog 8 #[sv, .int .u8 a] w fun e w' => e = .returned (.bool true) ∧ Below w.heap.size w w' := by
  have hlight := light_any sv l w hR
  have HR := Lib.hid hR
  have HLt := Lib.hid hlight
  clear hR hlight
  go_enter Tryd.func8, Tryd.ntmps8
  go_wp2_with fail
  refine HLt.out.mono ?_
  rintro e w1 ⟨rfl, m1, rfl⟩
  clear HLt
  cases hl : lightB l with
  | false =>
    clear hl
    go_wp2
    go_ret
    exact ⟨rfl, bdnR (Below.refl _ w) _⟩
  | true =>
    have HL := Lib.hid (light_facts hl)
    clear hl
    have HB1 := Lib.hid (bdnR (Below.refl w.heap.size w) m1)
    generalize w.drewN m1 = W1 at *
    have Hof := Lib.hid (of_any sv l W1 (by have := HL.out.1; omega) (HR.out.below HB1.out))
    go_wp2_with fail
    refine Hof.out.mono ?_
    rintro e w3 ⟨xv, rfl, hown, hb3⟩
    clear Hof
    have HX := Lib.hid (rowsV_owned hown).1
    have HB3 := Lib.hid (HB1.out.trans (hb3.mono HB1.out.size))
    clear hown hb3 HB1 HR
    have Hright := Lib.hid (right_any xv l w3 (by have := HL.out.1; omega) HX.out (fun r hr => by have := HL.out.2 r hr; omega))
    go_wp2_with fail
    refine Hright.out.mono ?_
    rintro e W5 ⟨x, v, rfl, hs, hb4⟩
    clear Hright
    have HS := Lib.hid hs
    have HB5 := Lib.hid (HB3.out.trans (hb4.mono HB3.out.size))
    have HXX := Lib.hid (HX.out.below hb4)
    clear hs hb4 HB3 HX
    by_cases hv : v = 0
    case neg =>
      have hv' : (v != 0) = true := by simpa using hv
      clear hv
      go_wp2_with (go_at_call 13; refine (awake_any _).mono ?_; rintro e wa ⟨rfl, hba⟩)
      go_ret
      exact ⟨rfl, HB5.out.trans (hba.mono HB5.out.size)⟩
    subst hv
    have HT : Hid (TableOk l) := by
      rcases HS.out with h | ⟨_, ⟨i, _, _, h, _⟩ | ⟨_, _, h⟩⟩
      · omega
      · exact absurd rfl h
      · exact h
    clear HS
    obtain ⟨ad, cp, rfl, hx⟩ := HXX.out
    have HX2 := Lib.hid hx
    clear hx
    obtain ⟨n, hn⟩ : ∃ n, l.length = n := ⟨_, rfl⟩
    rw [hn] at HXX
    have h40 : n ≤ 40 := by rw [← hn]; exact HL.out.1
    simp only [hn]
    have HN := Lib.hid hn
    clear hn
    have HXR : Hid (∀ W, Below W5.heap.size W5 W → RowsV W (.slice ad n cp) l) := fun W hW => HXX.out.below hW
    clear HXX
    obtain ⟨k, hk⟩ : ∃ k : Nat, a % 5 = (k : Int) := ⟨(a % 5).toNat, by omega⟩
    have k5 : k < 5 := by omega
    have hkt : a.tmod 5 = (k : Int) := by rw [Int.tmod_eq_emod_of_nonneg ha0, hk]
    have HK := Lib.hid hk
    clear hk
    go_wp2_with fail
    rcases HX2.out with hnil | ⟨b, off, rfl, hlt2, hrw⟩
    · obtain rfl : n = 0 := by rw [← HN.out, hnil]; rfl
      clear hnil
      go_loop [9] (fun s => s = .int .i64 0) (fun _ => 0)
      case atStart => rfl
      case round =>
        obtain rfl := hrel
        go_wp2_with (go_at_call 13; refine (awake_any _).mono ?_; rintro e wa ⟨rfl, hba⟩)
        go_ret
        exact ⟨rfl, HB5.out.trans (hba.mono HB5.out.size)⟩
    · clear hrw HX2
      have HRA : Hid (∀ W, Below W5.heap.size W5 W → RowsAt W b off l) := by
        intro W hW
        obtain ⟨x, c, hx, h⟩ := HXR.out W hW
        simp only [Value.slice.injEq] at hx
        rcases h with h | ⟨b', off', h1, _, h3⟩
        · exact fun j hj => by rw [h] at hj; simp at hj
        · rw [h1] at hx
          simp only [Option.some.injEq, Addr.mk.injEq, and_true] at hx
          obtain ⟨⟨rfl, rfl⟩, _, _⟩ := hx
          exact h3
      go_loopg [9] n (fun gg s10 wr => ∃ kk : Nat, kk ≤ n ∧ n - kk ≤ gg ∧ s10 = .int .i64 kk ∧ Hid (Below W5.heap.size W5 wr))
      case atStart => exact ⟨0, Nat.zero_le _, by omega, rfl, Below.refl _ W5⟩
      case round =>
        obtain ⟨kk, hkk, hg, rfl, BW⟩ := hrel
        by_cases hlt : kk < n
        case neg =>
          have hltz : ¬ (kk : Int) < (n : Int) := by omega
          obtain rfl : kk = n := by omega
          go_wp2_with (go_at_call 13; refine (awake_any _).mono ?_; rintro e wa ⟨rfl, hba⟩)
          go_ret
          exact ⟨rfl, HB5.out.trans ((Below.mono BW.out HB5.out.size).trans (hba.mono (Nat.le_trans HB5.out.size BW.out.size)))⟩
        have hltz : (kk : Int) < (n : Int) := by omega
        have hil : kk < l.length := by rw [HN.out]; exact hlt
        have hna := numAns_self HT.out hil k
        have haa := atAns_self HT.out hil k5
        have hsa := rsubAns_self HT.out hil
        have hin := num_in HT.out hil k5
        have hrn : rnum l k kk = if 0 ≤ (l[kk]!).num k then (l[kk]!).num k else -1 - (kk : Int) := rfl
        have cell : ∀ W, Below W5.heap.size W5 W → ∀ i v, (l[kk]!).cells[i]? = some v → W.cell? ⟨b, off + kk * 8 + i, none⟩ = some v := fun W hW => (HRA.out W hW) kk hil
        generalize hy : l[kk]! = y at hna haa hsa hin hrn cell
        clear hy
        have Hcell := Lib.hid cell
        have d0 := cell wr BW.out 0 _ rfl
        simp only [Nat.add_zero] at d0
        clear cell
        generalize rnum l k kk = u at hna haa hrn
        have h1 : ∀ W, Below W5.heap.size W5 W → Calls Tryd.prog 17 #[.slice (some ⟨b, off, none⟩) n cp, .int .i64 k, .string y.name] W fun e w' => e = .returned (.tuple #[.int .i64 u, .int .i64 0]) ∧ Below W.heap.size W w' := fun W hW => by
          have := number_ok y.name _ l k k5 W (by have := HL.out.1; omega) (HXR.out W hW) HT.out
          rw [hna] at this
          exact this
        have h2 : ∀ W, Below W5.heap.size W5 W → Calls Tryd.prog 18 #[.slice (some ⟨b, off, none⟩) n cp, .int .i64 k, .int .i64 u] W fun e w' => e = .returned (.tuple #[.string y.name, .int .i64 0]) ∧ Below W.heap.size W w' := fun W hW => by
          have := name_ok _ l k k5 u W (by have := HL.out.1; omega) (HXR.out W hW) HT.out
          rw [haa] at this
          exact this
        have h3 : ∃ (nm : ByteArray) (is : Bool), (is = decide (0 < y.mux)) ∧ (is = true → nm = y.name) ∧ ∀ W, Below W5.heap.size W5 W → Calls Tryd.prog 19 #[.slice (some ⟨b, off, none⟩) n cp, .int .i64 y.mux, .int .i64 y.sub] W fun e w' => e = .returned (.tuple #[.string nm, .bool is]) ∧ Below W.heap.size W w' := by
          by_cases h0 : 0 < y.mux
          · refine ⟨y.name, true, (decide_eq_true h0).symm, fun _ => rfl, fun W hW => ?_⟩
            have := sub_ok y.mux y.sub _ l W (by have := HL.out.1; omega) (HXR.out W hW) HT.out
            rw [hsa h0] at this
            exact this
          · refine ⟨⟨#[]⟩, false, (decide_eq_false h0).symm, (fun h => by cases h), fun W hW => ?_⟩
            have := sub_ok y.mux y.sub _ l W (by have := HL.out.1; omega) (HXR.out W hW) HT.out
            rw [rsubAns_none l _ _ h0] at this
            exact this
        obtain ⟨nm, is, hi1, hi2, h3⟩ := h3
        have H1 := Lib.hid h1
        have H2 := Lib.hid h2
        have H3 := Lib.hid h3
        have hu : decide (u < 0) = decide (y.num k < 0) := by
          rw [Bool.eq_iff_iff, decide_eq_true_eq, decide_eq_true_eq, hrn]
          split <;> omega
        have HU := Lib.hid hu
        have HI1 := Lib.hid hi1
        have HI2 := Lib.hid hi2
        clear h1 h2 h3 hna haa hsa hin hrn hu hi1 hi2
        go_wp2_with fail
        refine (H1.out _ BW.out).mono ?_
        rintro e w6 ⟨rfl, hb6⟩
        have BW6 := Lib.hid (BW.out.trans (hb6.mono BW.out.size))
        clear hb6 d0 BW
        go_wp2_with fail
        refine (H2.out _ BW6.out).mono ?_
        rintro e w7 ⟨rfl, hb7⟩
        have BW7 := Lib.hid (BW6.out.trans (hb7.mono BW6.out.size))
        clear hb7 BW6
        have d0 := Hcell.out w7 BW7.out 0 _ rfl
        have dk : w7.cell? ⟨b, off + kk * 8 + 1 + k, none⟩ = some (.int .i64 (y.num k)) := by
          have := Hcell.out w7 BW7.out (1 + k) _ (cells_num y k k5)
          rw [← Nat.add_assoc] at this
          exact this
        have d0' := d0
        simp only [Nat.add_zero] at d0
        have k5z : (k : Int) < 5 := by omega
        have hu := HU.out
        generalize y.num k = v at dk hu
        generalize hd1 : decide (u < 0) = du at hu
        have hd2 := hu.symm
        clear hu
        go_upto_region 15 with fail
        have e1 := Hcell.out w7 BW7.out 6 _ rfl
        have e2 := Hcell.out w7 BW7.out 7 _ rfl
        go_region_held3 (fun w' => w'.cell? ⟨b, off + kk * 8 + 6, none⟩ = some (.int .i64 y.mux) ∧ w'.cell? ⟨b, off + kk * 8 + 7, none⟩ = some (.int .i64 y.sub) ∧ w'.cell? ⟨b, off + kk * 8 + 0, none⟩ = some (.string y.name) ∧ Below W5.heap.size W5 w') (first | exact ⟨e1, e2, d0', Below.drew BW7.out⟩ | exact ⟨f1, f4, f2, f3⟩ | assumption) (first | (go_at_call 19; refine (H3.out _ (Below.drew BW7.out)).mono ?_; rintro e w8 ⟨rfl, hb8⟩; have f3 := (Below.drew BW7.out).trans (hb8.mono (Below.drew BW7.out).size); have f1 := Hcell.out w8 f3 6 _ rfl; have f4 := Hcell.out w8 f3 7 _ rfl; have f2 := Hcell.out w8 f3 0 _ rfl))
        clear e1 e2 dk d0 d0' hd1 hd2
        have HF3 := Lib.hid f3
        clear f3 hb8
        have f2' := f2
        simp only [Nat.add_zero] at f2'
        cases is with
        | true =>
          have hm : 0 < y.mux := by have := HI1.out; simpa using this.symm
          obtain rfl := HI2.out rfl
          go_upto_region 16 with fail
          go_wp2_with fail
          go_roundg (n - (kk + 1))
          case measure => omega
          refine ⟨kk + 1, by omega, by omega, ?_, HF3⟩
          first | rfl | (simp)
        | false =>
          have hm : ¬ 0 < y.mux := by have := HI1.out; simpa using this.symm
          go_upto_region 16 with fail
          go_wp2_with fail
          go_roundg (n - (kk + 1))
          case measure => omega
          refine ⟨kk + 1, by omega, by omega, ?_, HF3⟩
          first | rfl | (simp)
end Go.Proofs.YtakmbmlpgmppiaaDoor
