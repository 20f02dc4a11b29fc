/- strainerlaw11.SystabPseudo: the walk. -/
import Derived.Test.YtakmbmlpgmppiaaDoorSysPs
import Derived.Test.YtakmbmlpgmppiaaDoorSysBackW
import Derived.Deep.RegionHeld3
namespace Go.Proofs.YtakmbmlpgmppiaaDoor
open Go Go.Proofs Go.RowKit

theorem below_grown {n : Nat} {a w w' : World} (h : Below n a w) (hg : w.grownBy w' (some n)) (hs : n ≤ a.heap.size) : Below n a w' := by
  refine ⟨?_, ?_, ?_, Nat.le_trans h.size hg.size, fun i hi => ?_⟩
  · first | exact h.os.trans hg.os | exact h.os.trans hg.os.symm | exact hg.os.trans h.os
  · first | exact h.tape.trans hg.tape | exact h.tape.trans hg.tape.symm | exact hg.tape.trans h.tape
  · first | exact h.output.trans hg.output | exact h.output.trans hg.output.symm | exact hg.output.trans h.output
  · exact (hg.block i (by have := h.size; omega) (fun e => by simp only [Option.some.injEq] at e; omega)).trans (h.block i hi)

set_option maxRecDepth 100000 in
set_option maxHeartbeats 3000000 in
theorem pseudo_any (a m : Int) (ha0 : 0 ≤ a) (ha1 : a ≤ 255) (hm : In64I m) (sv : Value) (l : List SRow) (w : World) (hR : RowsV w sv l) :
    Calls Tryd.prog 7 #[sv, .int .u8 a, .int .i64 m] w fun e w' => e = .returned (.bool true) ∧ Below w.heap.size w w' := by
  have HMI := Lib.hid hm
  clear hm
  have hlight := light_any sv l w hR
  have HR := Lib.hid hR
  have HLt := Lib.hid hlight
  clear hR hlight
  go_enter Tryd.func7, Tryd.ntmps7
  go_wp2_with fail
  refine HLt.out.mono ?_
  rintro e w1 ⟨rfl, m1, rfl⟩
  clear HLt
  cases hl : lightB l with
  | false =>
    clear hl
    go_wp2
    go_ret
    exact ⟨rfl, bdnR (Below.refl _ w) _⟩
  | true =>
    have HL := Lib.hid (light_facts hl)
    clear hl
    have HB1 := Lib.hid (bdnR (Below.refl w.heap.size w) m1)
    generalize w.drewN m1 = W1 at *
    have Hof := Lib.hid (of_any sv l W1 (by have := HL.out.1; omega) (HR.out.below HB1.out))
    go_wp2_with fail
    refine Hof.out.mono ?_
    rintro e w3 ⟨xv, rfl, hown, hb3⟩
    clear Hof
    have HX := Lib.hid (rowsV_owned hown).1
    have HB3 := Lib.hid (HB1.out.trans (hb3.mono HB1.out.size))
    clear hown hb3 HB1 HR
    have Hright := Lib.hid (right_any xv l w3 (by have := HL.out.1; omega) HX.out (fun r hr => by have := HL.out.2 r hr; omega))
    go_wp2_with fail
    refine Hright.out.mono ?_
    rintro e W5 ⟨x, v, rfl, hs, hb4⟩
    clear Hright
    have HS := Lib.hid hs
    have HB5 := Lib.hid (HB3.out.trans (hb4.mono HB3.out.size))
    have HXX := Lib.hid (HX.out.below hb4)
    clear hs hb4 HB3 HX
    by_cases hv : v = 0
    case neg =>
      have hv' : (v != 0) = true := by simpa using hv
      clear hv
      go_wp2_with (go_at_call 13; refine (awake_any _).mono ?_; rintro e wa ⟨rfl, hba⟩)
      go_ret
      exact ⟨rfl, HB5.out.trans (hba.mono HB5.out.size)⟩
    subst hv
    have HT : Hid (TableOk l) := by
      rcases HS.out with h | ⟨_, ⟨i, _, _, h, _⟩ | ⟨_, _, h⟩⟩
      · omega
      · exact absurd rfl h
      · exact h
    clear HS
    obtain ⟨ad, cp, rfl, hx⟩ := HXX.out
    have HX2 := Lib.hid hx
    clear hx
    obtain ⟨n, hn⟩ : ∃ n, l.length = n := ⟨_, rfl⟩
    rw [hn] at HXX
    have h40 : n ≤ 40 := by rw [← hn]; exact HL.out.1
    simp only [hn]
    have HN := Lib.hid hn
    clear hn
    have HXR : Hid (∀ W, Below W5.heap.size W5 W → RowsV W (.slice ad n cp) l) := fun W hW => HXX.out.below hW
    clear HXX
    obtain ⟨k, hk⟩ : ∃ k : Nat, a % 5 = (k : Int) := ⟨(a % 5).toNat, by omega⟩
    have k5 : k < 5 := by omega
    have hkt : a.tmod 5 = (k : Int) := by rw [Int.tmod_eq_emod_of_nonneg ha0, hk]
    have HK := Lib.hid hk
    clear hk
    have hmm := @run_makeMap Tryd.prog
    have HMade := Lib.hid (MapI.made W5)
    have hBl := Lib.hid ((Below.refl _ W5).alloc (Nat.le_refl _) (.map #[] 0))
    go_wp2_with fail
    go_loopg [12] n (fun gg s10 wr => ∃ kk : Nat, kk ≤ n ∧ n - kk ≤ gg ∧ s10 = .int .i64 kk ∧ Hid (Below W5.heap.size W5 wr) ∧ Hid (∃ S, MapI wr W5.heap.size S ∧ SeenI l k kk S))
    case atStart => exact ⟨0, Nat.zero_le _, by omega, rfl, hBl.out, [], HMade.out, SeenI.nil l k⟩
    case round =>
      obtain ⟨kk, hkk, hg, rfl, BW, HQ⟩ := hrel
      clear HMade hBl hmm
      obtain ⟨S, hS1, hS2⟩ := HQ.out
      by_cases hlt : kk < n
      case neg =>
        have hltz : ¬ (kk : Int) < (n : Int) := by omega
        obtain rfl : kk = n := by omega
        have hend := ps_end hS2 HN.out HT.out k5 m
        have h2 := name_ok (.slice ad kk cp) l k k5 m wr (by have := HL.out.1; omega) (HXR.out wr BW.out) HT.out
        have H2 := Lib.hid h2
        have HEnd := Lib.hid hend
        have HS1 := Lib.hid hS1
        clear h2 hend hS1 hS2 HQ
        go_wp2_with fail
        refine H2.out.mono ?_
        rintro e w6 ⟨rfl, hb6⟩
        have hl := mapI_look (HS1.out.below hb6 HS1.out.lt) m HMI.out
        unfold keyI at hl
        have BW6 := Lib.hid (BW.out.trans (hb6.mono BW.out.size))
        clear hb6 HS1 H2 BW
        rcases HEnd.out with ⟨hd, s, hs, hans⟩ | ⟨hd, hans⟩
        · rw [hd] at hl
          rw [hans]
          have hs4 : ¬ s.toList = [] := fun e => hs (by
            rw [ByteArray.toList_eq] at e
            cases s; simp at e; simp [e])
          have HS6 : Hid (s.toList.isEmpty = false) := by
            show s.toList.isEmpty = false
            simpa using hs4
          clear HEnd hd hans hs
          go_wp2_with fail
          refine (awake_any _).mono ?_
          rintro e wa ⟨rfl, hba⟩
          go_wp2
          go_ret
          refine ⟨?_, HB5.out.trans ((Below.mono BW6.out HB5.out.size).trans (hba.mono (Nat.le_trans HB5.out.size BW6.out.size)))⟩
          show Ending.returned (.bool (!s.toList.isEmpty)) = _
          rw [HS6.out]
          rfl
        · rw [hd] at hl
          rw [hans]
          clear HEnd hd hans
          go_wp2_with fail
          refine (awake_any _).mono ?_
          rintro e wa ⟨rfl, hba⟩
          go_wp2
          go_ret
          exact ⟨rfl, HB5.out.trans ((Below.mono BW6.out HB5.out.size).trans (hba.mono (Nat.le_trans HB5.out.size BW6.out.size)))⟩
      have hltz : (kk : Int) < (n : Int) := by omega
      rcases HX2.out with hnil | ⟨b, off, rfl, hlt2, hrw⟩
      · rw [hnil] at HN
        exact absurd HN.out (by simp; omega)
      clear hrw HX2
      have HRA : Hid (∀ W, Below W5.heap.size W5 W → RowsAt W b off l) := by
        intro W hW
        obtain ⟨x, c, hx, h⟩ := HXR.out W hW
        simp only [Value.slice.injEq] at hx
        rcases h with h | ⟨b', off', h1, _, h3⟩
        · exact fun j hj => by rw [h] at hj; simp at hj
        · rw [h1] at hx
          simp only [Option.some.injEq, Addr.mk.injEq, and_true] at hx
          obtain ⟨⟨rfl, rfl⟩, _, _⟩ := hx
          exact h3
      have hil : kk < l.length := by rw [HN.out]; exact hlt
      have hna := numAns_self HT.out hil k
      have d0 := (HRA.out wr BW.out) kk hil 0 _ rfl
      simp only [Nat.add_zero] at d0
      have hfr := hS2.fresh HT.out hil k5
      have hui := rnum_in HT.out hil (by have := HL.out.1; omega) k5
      have hadd := hS2.add
      generalize hu : rnum l k kk = u at hna hfr hui hadd
      clear hu
      generalize hy : (l[kk]!).name = nm at hna d0
      clear hy
      have h1 : Calls Tryd.prog 17 #[.slice (some ⟨b, off, none⟩) n cp, .int .i64 k, .string nm] wr fun e w' => e = .returned (.tuple #[.int .i64 u, .int .i64 0]) ∧ Below wr.heap.size wr w' := by
        have := number_ok nm _ l k k5 wr (by have := HL.out.1; omega) (HXR.out wr BW.out) HT.out
        rw [hna] at this
        exact this
      have H1 := Lib.hid h1
      have HS1 := Lib.hid hS1
      have HFr := Lib.hid hfr
      have HUI := Lib.hid hui
      have HAdd := Lib.hid hadd
      clear h1 hS1 hS2 hfr hui hadd hna HQ
      go_wp2_with fail
      refine H1.out.mono ?_
      rintro e w6 ⟨rfl, hb6⟩
      have hs6 := HS1.out.below hb6 HS1.out.lt
      have hl := mapI_look hs6 u HUI.out
      rw [HFr.out] at hl
      obtain ⟨w7, hup, hs7, hg7⟩ := mapI_upd hs6 u HUI.out
      unfold keyI at hl hup
      have BW6 := Lib.hid (BW.out.trans (hb6.mono BW.out.size))
      have HS7 : Hid (∃ S, MapI w7 W5.heap.size S ∧ SeenI l k (kk + 1) S) := ⟨_, hs7, HAdd.out⟩
      have HG7 := Lib.hid hg7
      clear hb6 hs6 hs7 hg7 H1 HS1 HFr HAdd BW d0
      go_upto_region 15 with fail
      go_wp2_with fail
      go_roundg (n - (kk + 1))
      case measure => omega
      refine ⟨kk + 1, by omega, by omega, ?_, ?_, HS7⟩
      · go_num
      · exact below_grown BW6.out HG7.out (Nat.le_refl _)
end Go.Proofs.YtakmbmlpgmppiaaDoor
