/- systab.Right answers as the reference's. -/
import Derived.Test.YtakmbmlpgmppiaaDoorSysSeen
import Derived.Test.YtakmbmlpgmppiaaDoorSysLaw
import Derived.Deep.DeepCutAuto
namespace Go.Proofs.YtakmbmlpgmppiaaDoor
open Go Go.Proofs Go.RowKit

theorem leq_iff (a b : List UInt8) : (Op.bytesLess a b = true ∨ a = b) ↔ Op.bytesLess b a = false := by
  rw [← cb_lt, ← cb_eq, Bool.eq_false_iff, Ne, ← cb_gt]
  omega
theorem bdnR {B : Nat} {a w : World} (h : Below B a w) (q : Nat) : Below B a (w.drewN q) := ⟨h.os, h.tape, h.output, h.size, h.block⟩

set_option maxRecDepth 100000 in
set_option maxHeartbeats 3000000 in
theorem right_at (b off c : Nat) (l : List SRow) (w : World) (hbig : l.length ≤ 1000000) (hb : b < w.heap.size) (hr : RowsAt w b off l) (hsz : ∀ r ∈ l, r.name.size ≤ 9223372036854775807) :
    Calls Tryd.prog 10 #[.slice (some ⟨b, off, none⟩) l.length c] w (RightPost l w) := by
  have Hr := Lib.hid hr
  have hszi : ∀ i, i < l.length → (l[i]!).name.size ≤ 9223372036854775807 := fun i hi => hsz _ (by simp [hi])
  have Hsz := Lib.hid hszi
  clear hr hsz hszi
  show Calls _ _ _ _ (RightPostN l.length l w)
  obtain ⟨n, hn⟩ : ∃ n, l.length = n := ⟨_, rfl⟩
  rw [hn] at hbig Hsz ⊢
  have Hn := Lib.hid hn
  clear hn
  by_cases h4 : 400 < n
  · have h4z : (400 : Int) < (n : Int) := by omega
    go_enter Tryd.func10, Tryd.ntmps10
    go_wp2
    go_ret2
    exact ⟨_, _, rfl, .inl ⟨h4, rfl, rfl⟩, Below.refl _ w⟩
  · have h4z : ¬ (400 : Int) < (n : Int) := by omega
    have hmade := MapS.made w
    have HMade := Lib.hid hmade
    have hmm := @run_makeMap Tryd.prog
    clear hmade
    go_enter Tryd.func10, Tryd.ntmps10
    go_wp2
    go_loopg [16] n (fun gg s16 wr => ∃ kk : Nat, kk ≤ n ∧ n - kk ≤ gg ∧ s16 = .int .i64 kk ∧ Hid (Below w.heap.size w wr) ∧ Hid (∃ S, MapS wr w.heap.size S ∧ Seen l kk S) ∧ Hid (∀ j, j < kk → RowSaid l j 0))
    case atStart => exact ⟨0, Nat.zero_le _, by omega, rfl, (Below.refl _ w).alloc (Nat.le_refl _) _, ⟨[], HMade.out, Seen.nil l⟩, fun j hj => absurd hj (Nat.not_lt_zero _)⟩
    case round =>
      obtain ⟨kk, hkk, hg, rfl, HBW, HQ, HA⟩ := hrel
      clear HMade hmm
      by_cases hlt : kk < n
      · have hltz : (kk : Int) < (n : Int) := by omega
        have hR := (Hr.out.below HBW.out hb) kk (by rw [Hn.out]; exact hlt)
        have c0 := hR 0 _ rfl
        have c1 := hR 1 _ rfl
        have c2 := hR 2 _ rfl
        have c3 := hR 3 _ rfl
        have c4 := hR 4 _ rfl
        have c5 := hR 5 _ rfl
        have c6 := hR 6 _ rfl
        have c7 := hR 7 _ rfl
        simp only [Nat.add_zero] at c0
        clear hR
        have hsy := Hsz.out kk hlt
        generalize hy : l[kk]! = y at c0 c1 c2 c3 c4 c5 c6 c7 hsy
        have HY := Lib.hid hy
        clear hy
        have bX := Blk.new wr 36 #[.string y.name, .int .i64 y.n0, .int .i64 y.n1, .int .i64 y.n2, .int .i64 y.n3, .int .i64 y.n4, .int .i64 y.mux, .int .i64 y.sub]
        have HB0 := Lib.hid (HBW.out.alloc HBW.out.size (.cells #[.string y.name, .int .i64 y.n0, .int .i64 y.n1, .int .i64 y.n2, .int .i64 y.n3, .int .i64 y.n4, .int .i64 y.mux, .int .i64 y.sub] 36))
        have HQ0 : Hid (∃ S, MapS (wr.alloc (.cells #[.string y.name, .int .i64 y.n0, .int .i64 y.n1, .int .i64 y.n2, .int .i64 y.n3, .int .i64 y.n4, .int .i64 y.mux, .int .i64 y.sub] 36)) w.heap.size S ∧ Seen l kk S) := by
          obtain ⟨S, h1, h2⟩ := HQ.out
          exact ⟨S, h1.alloc _, h2⟩
        have hne : w.heap.size < wr.heap.size := by
          obtain ⟨S, h1, h2⟩ := HQ.out
          exact h1.lt
        have HBX := Lib.hid bX
        have hnm := named_any y.name (wr.alloc (.cells #[.string y.name, .int .i64 y.n0, .int .i64 y.n1, .int .i64 y.n2, .int .i64 y.n3, .int .i64 y.n4, .int .i64 y.mux, .int .i64 y.sub] 36)) hsy
        have Hnm := Lib.hid hnm
        clear bX hnm HQ hsy HBW
        go_wp2_with fail
        refine Hnm.out.mono ?_
        rintro e w1 ⟨v, rfl, hv, hb1⟩
        clear Hnm c0 c1 c2 c3 c4 c5 c6 c7
        have HBW := Lib.hid (HB0.out.trans (hb1.mono HB0.out.size))
        have HBX1 := Lib.hid (HBX.out.below hb1 HBX.out.lt)
        have HQ : Hid (∃ S, MapS w1 w.heap.size S ∧ Seen l kk S) := by
          obtain ⟨S, h1, h2⟩ := HQ0.out
          exact ⟨S, h1.below hb1 h1.lt, h2⟩
        clear HB0 HQ0 HBX hb1
        obtain ⟨X, hX⟩ : ∃ X, wr.heap.size = X := ⟨_, rfl⟩
        rw [hX] at hne HBX1
        simp only [hX]
        have HBX := HBX1
        clear HBX1 hX
        cases v with
        | false =>
          have HV : Hid (¬ refNameP y.name) := fun h => absurd (hv.2 h) (by simp)
          clear hv
          go_wp2
          go_ret2
          exact ⟨_, _, rfl, .inr ⟨by omega, .inl ⟨kk, hlt, rfl, by omega, .inl ⟨rfl, by rw [HY.out]; exact HV.out⟩, HA.out⟩⟩, HBW.out⟩
        | true =>
          have HV : Hid (refNameP y.name) := hv.1 rfl
          clear hv
          go_upto_region 10 with fail
          go_cut [30] (fun s30 wx => ∃ v : Bool, s30 = .bool v ∧ Hid (v = true ↔ nameGe l kk) ∧ Hid (∃ q, wx = w1.drewN q))
          case first =>
            have t0 := HBX.out.cell 0
            have t1 := HBX.out.cell 1
            have t2 := HBX.out.cell 2
            have t3 := HBX.out.cell 3
            have t4 := HBX.out.cell 4
            have t5 := HBX.out.cell 5
            have t6 := HBX.out.cell 6
            have t7 := HBX.out.cell 7
            simp only [List.getElem?_toArray, List.getElem?_cons_zero, List.getElem?_cons_succ] at t0 t1 t2 t3 t4 t5 t6 t7
            by_cases hi0 : kk = 0
            · subst hi0
              have g0 : decide ((0 : Int) < 0) = false := rfl
              go_quiet (fail)
              go_wp2_with fail
              go_meet
              exact ⟨_, rfl, ⟨fun h => (by cases h), fun h => absurd h.1 (Nat.lt_irrefl 0)⟩, ⟨nq, rfl⟩⟩
            · obtain ⟨j, hj⟩ : ∃ j, kk = j + 1 := ⟨kk - 1, by omega⟩
              have g0 : decide ((0 : Int) < (kk : Int)) = true := decide_eq_true (by omega)
              have hip : 0 < kk := by omega
              have g0n : decide (0 < kk) = true := decide_eq_true hip
              have hidx : (kk : Int) - 1 = (j : Int) := by omega
              have j0 : (0 : Int) ≤ (j : Int) := by omega
              have j1 : (j : Int) < (n : Int) := by omega
              have hprev := (Hr.out.below HBW.out hb).nameCell (j := j) (by rw [Hn.out]; omega)
              generalize hpn : (l[j]!).name = pn at hprev
              have hge : nameGe l kk ↔ Op.bytesLess pn.toList y.name.toList = false := by
                unfold nameGe
                rw [show kk - 1 = j by omega, hpn, HY.out]
                exact ⟨fun h => h.2, fun h => ⟨by omega, h⟩⟩
              have HGE := Lib.hid hge
              clear hj hge hpn
              go_quiet (fail)
              go_wp2_with fail
              go_meet
              refine ⟨_, rfl, (show Hid _ from ?_), ⟨nq, rfl⟩⟩
              rw [HGE.out, ← leq_iff]
              simp
              try exact trivial
          case rest =>
            obtain ⟨v, rfl, HGE, hw⟩ := hcut
            obtain ⟨q, rfl⟩ := hw.out
            have HB2 := Lib.hid (bdnR HBW.out q)
            have HQ2 : Hid (∃ S, MapS (w1.drewN q) w.heap.size S ∧ Seen l kk S) := HQ.out
            have HBX2 : Hid (Blk (w1.drewN q) X 36 #[.string y.name, .int .i64 y.n0, .int .i64 y.n1, .int .i64 y.n2, .int .i64 y.n3, .int .i64 y.n4, .int .i64 y.mux, .int .i64 y.sub]) := HBX.out
            clear hw HBW HQ HBX
            generalize w1.drewN q = W2 at *
            cases v with
            | true =>
              go_wp2
              go_ret2
              exact ⟨_, _, rfl, .inr ⟨by omega, .inl ⟨kk, hlt, rfl, by omega, .inr ⟨by rw [HY.out]; exact HV.out, .inl ⟨rfl, HGE.out.1 (by simp)⟩⟩, HA.out⟩⟩, HB2.out⟩
            | false =>
              have HG : Hid (¬ nameGe l kk) := fun h => absurd (HGE.out.2 h) (by simp)
              clear HGE
              have t0 := HBX2.out.cell 0
              have t1 := HBX2.out.cell 1
              have t2 := HBX2.out.cell 2
              have t3 := HBX2.out.cell 3
              have t4 := HBX2.out.cell 4
              have t5 := HBX2.out.cell 5
              have t6 := HBX2.out.cell 6
              have t7 := HBX2.out.cell 7
              simp only [List.getElem?_toArray, List.getElem?_cons_zero, List.getElem?_cons_succ] at t0 t1 t2 t3 t4 t5 t6 t7
              have hrg := ranged_any y W2
              have Hrg := Lib.hid hrg
              clear hrg
              go_wp2_with fail
              refine Hrg.out.mono ?_
              rintro e w3 ⟨v, rfl, hv, hb3⟩
              clear t0 t1 t2 t3 t4 t5 t6 t7 Hrg
              have HBW := Lib.hid (HB2.out.trans (hb3.mono HB2.out.size))
              have HBX := Lib.hid (HBX2.out.below hb3 HBX2.out.lt)
              have HQ : Hid (∃ S, MapS w3 w.heap.size S ∧ Seen l kk S) := by
                obtain ⟨S, h1, h2⟩ := HQ2.out
                exact ⟨S, h1.below hb3 h1.lt, h2⟩
              clear HB2 HQ2 HBX2 hb3
              cases v with
              | false =>
                have HRG : Hid (¬ rngOk y) := fun h => absurd (hv.2 h) (by simp)
                clear hv
                go_wp2
                go_ret2
                exact ⟨_, _, rfl, .inr ⟨by omega, .inl ⟨kk, hlt, rfl, by omega, .inr ⟨by rw [HY.out]; exact HV.out, .inr ⟨HG.out, .inl ⟨rfl, by rw [HY.out]; exact HRG.out⟩⟩⟩, HA.out⟩⟩, HBW.out⟩
              | true =>
                have HRG : Hid (rngOk y) := hv.1 rfl
                clear hv
                by_cases n1 : y.n2 = 102
                · have n1' : (y.n2 == 102) = true := by simpa using n1
                  have HN : Hid (muxNo y) := .inl n1
                  clear n1
                  go_wp2
                  go_ret2
                  exact ⟨_, _, rfl, .inr ⟨by omega, .inl ⟨kk, hlt, rfl, by omega, .inr ⟨by rw [HY.out]; exact HV.out, .inr ⟨HG.out, .inr ⟨by rw [HY.out]; exact HRG.out, .inl ⟨rfl, by rw [HY.out]; exact HN.out⟩⟩⟩⟩, HA.out⟩⟩, HBW.out⟩
                have n1' : (y.n2 == 102) = false := by simpa using n1
                by_cases n2 : y.n2 = 117
                · have n2' : (y.n2 == 117) = true := by simpa using n2
                  have HN : Hid (muxNo y) := .inr n2
                  clear n1 n2
                  go_wp2
                  go_ret2
                  exact ⟨_, _, rfl, .inr ⟨by omega, .inl ⟨kk, hlt, rfl, by omega, .inr ⟨by rw [HY.out]; exact HV.out, .inr ⟨HG.out, .inr ⟨by rw [HY.out]; exact HRG.out, .inl ⟨rfl, by rw [HY.out]; exact HN.out⟩⟩⟩⟩, HA.out⟩⟩, HBW.out⟩
                have n2' : (y.n2 == 117) = false := by simpa using n2
                have HN : Hid (¬ muxNo y) := fun h => h.elim n1 n2
                clear n1 n2
                have t0 := HBX.out.cell 0
                have t1 := HBX.out.cell 1
                have t2 := HBX.out.cell 2
                have t3 := HBX.out.cell 3
                have t4 := HBX.out.cell 4
                have t5 := HBX.out.cell 5
                have t6 := HBX.out.cell 6
                have t7 := HBX.out.cell 7
                simp only [List.getElem?_toArray, List.getElem?_cons_zero, List.getElem?_cons_succ] at t0 t1 t2 t3 t4 t5 t6 t7
                have HQX : Hid (∃ S, MapS w3 w.heap.size S ∧ SeenAt l kk y 0 S) := by
                  obtain ⟨S, h1, h2⟩ := HQ.out
                  exact ⟨S, h1, h2.start y⟩
                have HQ := HQX
                clear HQX
                go_wp2
                clear t0 t1 t2 t3 t4 t5 t6 t7
                obtain ⟨wo, hwo⟩ : ∃ wo : World, wo = w3 := ⟨_, rfl⟩
                go_loopg [60] 5 (fun gg s60 wr => ∃ k2 : Nat, k2 ≤ 5 ∧ 5 - k2 ≤ gg ∧ s60 = .int .i64 k2 ∧ Hid (Below w.heap.size w wr) ∧ Hid (∃ S, MapS wr w.heap.size S ∧ SeenAt l kk y k2 S) ∧ Hid (Blk wr X 36 #[.string y.name, .int .i64 y.n0, .int .i64 y.n1, .int .i64 y.n2, .int .i64 y.n3, .int .i64 y.n4, .int .i64 y.mux, .int .i64 y.sub]) ∧ Hid (∀ k, k < kk → ∀ a, a < k2 → 0 ≤ y.num a → ¬ (l[k]!).num a = y.num a))
                case atStart => exact ⟨0, by omega, by omega, rfl, HBW, HQ, HBX, fun k hk a ha => absurd ha (Nat.not_lt_zero _)⟩
                case round =>
                  clear HBW HQ HBX
                  obtain ⟨k2, hk2, hg2, rfl, HBW, HQ, HBX, HCL⟩ := hrel
                  clear hwo
                  rcases k2 with _ | _ | _ | _ | _ | _ | k2
                  · skip
                    have ik : ∀ W, (Instr.index 34 (.agg #[.int .i64 y.n0, .int .i64 y.n1, .int .i64 y.n2, .int .i64 y.n3, .int .i64 y.n4]) (.int .i64 0)).run Tryd.prog W = .ok (.int .i64 y.n0) W := fun _ => by kernel_rfl
                    have hin : inR y.n0 := HRG.out.1 0 (by omega)
                    by_cases z1 : y.n0 = -1
                    · have z1' : (y.n0 != -1) = false := by simp [z1]
                      have HQ' : Hid (∃ S, MapS wr w.heap.size S ∧ SeenAt l kk y 1 S) := by
                        obtain ⟨S, h1, h2⟩ := HQ.out
                        exact ⟨S, h1, h2.skip z1⟩
                      have HCL' : Hid (∀ k, k < kk → ∀ a, a < 1 → 0 ≤ y.num a → ¬ (l[k]!).num a = y.num a) := fun k hk a ha h0 => by
                        by_cases e : a = 0
                        · subst e; exact absurd h0 (by show ¬ 0 ≤ y.n0; omega)
                        · exact HCL.out k hk a (by omega) h0
                      clear z1 hin
                      go_wp2
                      go_roundg (5 - 1)
                      case measure => omega
                      case rel => exact ⟨1, by omega, by omega, rfl, HBW, HQ', HBX, HCL'⟩
                    · have z1' : (y.n0 != -1) = true := by simpa using z1
                      have z0 : 0 ≤ y.n0 := by unfold inR at hin; omega
                      have hwf : In64 ((0 : Int), y.n0) := ⟨(by decide : (Lit.int .i64 0).wf = true), WalkArith.wf_i64 (by unfold inR at hin; omega)⟩
                      obtain ⟨S, hS1, hS2⟩ := HQ.out
                      have hmet := met_any w.heap.size S ((0 : Int), y.n0) wr hS1 hwf
                      have hiff := hS2.num (a := 0) (by omega) z0
                      have HS2 := Lib.hid hS2
                      have HZ := Lib.hid z0
                      clear hS1 hS2 z0 z1 hin hwf HQ
                      cases hd : decide (((0 : Int), y.n0) ∈ S) with
                      | true =>
                        have HC : Hid (∃ k, k < kk ∧ clash l[k]! y) := by
                          obtain ⟨k, h1, h2⟩ := hiff.1 (of_decide_eq_true hd)
                          exact ⟨k, h1, .inl ⟨0, by omega, HZ.out, h2⟩⟩
                        have Hm := Lib.hid (hmet.mono fun e w' h => h.kept)
                        rw [hd] at Hm
                        clear hmet hiff hd
                        go_wp2_with fail
                        refine Hm.out.mono ?_
                        rintro e w' ⟨rfl, hM, hK⟩
                        have HBF := Lib.hid (hK.below HBW.out (Nat.le_refl _) HBW.out.size)
                        clear hM hK
                        go_wp2
                        go_ret2
                        exact ⟨_, _, rfl, .inr ⟨by omega, .inl ⟨kk, hlt, rfl, by omega, .inr ⟨by rw [HY.out]; exact HV.out, .inr ⟨HG.out, .inr ⟨by rw [HY.out]; exact HRG.out, .inr ⟨by rw [HY.out]; exact HN.out, .inl ⟨rfl, by rw [HY.out]; exact HC.out⟩⟩⟩⟩⟩, HA.out⟩⟩, HBF.out⟩
                      | false =>
                        have HC : Hid (∀ k, k < kk → ¬ (l[k]!).num 0 = y.num 0) := fun k h1 h2 => absurd (hiff.2 ⟨k, h1, h2⟩) (of_decide_eq_false hd)
                        have Hm := Lib.hid (hmet.mono fun e w' h => h.kept)
                        rw [hd] at Hm
                        clear hmet hiff hd
                        go_wp2_with fail
                        refine Hm.out.mono ?_
                        rintro e w' ⟨rfl, hM, hK⟩
                        have HBF := Lib.hid (hK.below HBW.out (Nat.le_refl _) HBW.out.size)
                        have HQ' : Hid (∃ S, MapS w' w.heap.size S ∧ SeenAt l kk y 1 S) := ⟨_, hM, HS2.out.add (a := 0) (by omega) HZ.out⟩
                        have HBX' := Lib.hid (hK.blk HBX.out (by omega))
                        have HCL' : Hid (∀ k, k < kk → ∀ a, a < 1 → 0 ≤ y.num a → ¬ (l[k]!).num a = y.num a) := fun k hk a ha h0 => by
                          by_cases e : a = 0
                          · subst e; exact HC.out k hk
                          · exact HCL.out k hk a (by omega) h0
                        clear hM hK
                        go_wp2
                        go_roundg (5 - 1)
                        case measure => omega
                        case rel => exact ⟨1, by omega, by omega, rfl, HBF, HQ', HBX', HCL'⟩
                  · skip
                    have ik : ∀ W, (Instr.index 34 (.agg #[.int .i64 y.n0, .int .i64 y.n1, .int .i64 y.n2, .int .i64 y.n3, .int .i64 y.n4]) (.int .i64 1)).run Tryd.prog W = .ok (.int .i64 y.n1) W := fun _ => by kernel_rfl
                    have hin : inR y.n1 := HRG.out.1 1 (by omega)
                    by_cases z1 : y.n1 = -1
                    · have z1' : (y.n1 != -1) = false := by simp [z1]
                      have HQ' : Hid (∃ S, MapS wr w.heap.size S ∧ SeenAt l kk y 2 S) := by
                        obtain ⟨S, h1, h2⟩ := HQ.out
                        exact ⟨S, h1, h2.skip z1⟩
                      have HCL' : Hid (∀ k, k < kk → ∀ a, a < 2 → 0 ≤ y.num a → ¬ (l[k]!).num a = y.num a) := fun k hk a ha h0 => by
                        by_cases e : a = 1
                        · subst e; exact absurd h0 (by show ¬ 0 ≤ y.n1; omega)
                        · exact HCL.out k hk a (by omega) h0
                      clear z1 hin
                      go_wp2
                      go_roundg (5 - 2)
                      case measure => omega
                      case rel => exact ⟨2, by omega, by omega, rfl, HBW, HQ', HBX, HCL'⟩
                    · have z1' : (y.n1 != -1) = true := by simpa using z1
                      have z0 : 0 ≤ y.n1 := by unfold inR at hin; omega
                      have hwf : In64 ((1 : Int), y.n1) := ⟨(by decide : (Lit.int .i64 1).wf = true), WalkArith.wf_i64 (by unfold inR at hin; omega)⟩
                      obtain ⟨S, hS1, hS2⟩ := HQ.out
                      have hmet := met_any w.heap.size S ((1 : Int), y.n1) wr hS1 hwf
                      have hiff := hS2.num (a := 1) (by omega) z0
                      have HS2 := Lib.hid hS2
                      have HZ := Lib.hid z0
                      clear hS1 hS2 z0 z1 hin hwf HQ
                      cases hd : decide (((1 : Int), y.n1) ∈ S) with
                      | true =>
                        have HC : Hid (∃ k, k < kk ∧ clash l[k]! y) := by
                          obtain ⟨k, h1, h2⟩ := hiff.1 (of_decide_eq_true hd)
                          exact ⟨k, h1, .inl ⟨1, by omega, HZ.out, h2⟩⟩
                        have Hm := Lib.hid (hmet.mono fun e w' h => h.kept)
                        rw [hd] at Hm
                        clear hmet hiff hd
                        go_wp2_with fail
                        refine Hm.out.mono ?_
                        rintro e w' ⟨rfl, hM, hK⟩
                        have HBF := Lib.hid (hK.below HBW.out (Nat.le_refl _) HBW.out.size)
                        clear hM hK
                        go_wp2
                        go_ret2
                        exact ⟨_, _, rfl, .inr ⟨by omega, .inl ⟨kk, hlt, rfl, by omega, .inr ⟨by rw [HY.out]; exact HV.out, .inr ⟨HG.out, .inr ⟨by rw [HY.out]; exact HRG.out, .inr ⟨by rw [HY.out]; exact HN.out, .inl ⟨rfl, by rw [HY.out]; exact HC.out⟩⟩⟩⟩⟩, HA.out⟩⟩, HBF.out⟩
                      | false =>
                        have HC : Hid (∀ k, k < kk → ¬ (l[k]!).num 1 = y.num 1) := fun k h1 h2 => absurd (hiff.2 ⟨k, h1, h2⟩) (of_decide_eq_false hd)
                        have Hm := Lib.hid (hmet.mono fun e w' h => h.kept)
                        rw [hd] at Hm
                        clear hmet hiff hd
                        go_wp2_with fail
                        refine Hm.out.mono ?_
                        rintro e w' ⟨rfl, hM, hK⟩
                        have HBF := Lib.hid (hK.below HBW.out (Nat.le_refl _) HBW.out.size)
                        have HQ' : Hid (∃ S, MapS w' w.heap.size S ∧ SeenAt l kk y 2 S) := ⟨_, hM, HS2.out.add (a := 1) (by omega) HZ.out⟩
                        have HBX' := Lib.hid (hK.blk HBX.out (by omega))
                        have HCL' : Hid (∀ k, k < kk → ∀ a, a < 2 → 0 ≤ y.num a → ¬ (l[k]!).num a = y.num a) := fun k hk a ha h0 => by
                          by_cases e : a = 1
                          · subst e; exact HC.out k hk
                          · exact HCL.out k hk a (by omega) h0
                        clear hM hK
                        go_wp2
                        go_roundg (5 - 2)
                        case measure => omega
                        case rel => exact ⟨2, by omega, by omega, rfl, HBF, HQ', HBX', HCL'⟩
                  · skip
                    have ik : ∀ W, (Instr.index 34 (.agg #[.int .i64 y.n0, .int .i64 y.n1, .int .i64 y.n2, .int .i64 y.n3, .int .i64 y.n4]) (.int .i64 2)).run Tryd.prog W = .ok (.int .i64 y.n2) W := fun _ => by kernel_rfl
                    have hin : inR y.n2 := HRG.out.1 2 (by omega)
                    by_cases z1 : y.n2 = -1
                    · have z1' : (y.n2 != -1) = false := by simp [z1]
                      have HQ' : Hid (∃ S, MapS wr w.heap.size S ∧ SeenAt l kk y 3 S) := by
                        obtain ⟨S, h1, h2⟩ := HQ.out
                        exact ⟨S, h1, h2.skip z1⟩
                      have HCL' : Hid (∀ k, k < kk → ∀ a, a < 3 → 0 ≤ y.num a → ¬ (l[k]!).num a = y.num a) := fun k hk a ha h0 => by
                        by_cases e : a = 2
                        · subst e; exact absurd h0 (by show ¬ 0 ≤ y.n2; omega)
                        · exact HCL.out k hk a (by omega) h0
                      clear z1 hin
                      go_wp2
                      go_roundg (5 - 3)
                      case measure => omega
                      case rel => exact ⟨3, by omega, by omega, rfl, HBW, HQ', HBX, HCL'⟩
                    · have z1' : (y.n2 != -1) = true := by simpa using z1
                      have z0 : 0 ≤ y.n2 := by unfold inR at hin; omega
                      have hwf : In64 ((2 : Int), y.n2) := ⟨(by decide : (Lit.int .i64 2).wf = true), WalkArith.wf_i64 (by unfold inR at hin; omega)⟩
                      obtain ⟨S, hS1, hS2⟩ := HQ.out
                      have hmet := met_any w.heap.size S ((2 : Int), y.n2) wr hS1 hwf
                      have hiff := hS2.num (a := 2) (by omega) z0
                      have HS2 := Lib.hid hS2
                      have HZ := Lib.hid z0
                      clear hS1 hS2 z0 z1 hin hwf HQ
                      cases hd : decide (((2 : Int), y.n2) ∈ S) with
                      | true =>
                        have HC : Hid (∃ k, k < kk ∧ clash l[k]! y) := by
                          obtain ⟨k, h1, h2⟩ := hiff.1 (of_decide_eq_true hd)
                          exact ⟨k, h1, .inl ⟨2, by omega, HZ.out, h2⟩⟩
                        have Hm := Lib.hid (hmet.mono fun e w' h => h.kept)
                        rw [hd] at Hm
                        clear hmet hiff hd
                        go_wp2_with fail
                        refine Hm.out.mono ?_
                        rintro e w' ⟨rfl, hM, hK⟩
                        have HBF := Lib.hid (hK.below HBW.out (Nat.le_refl _) HBW.out.size)
                        clear hM hK
                        go_wp2
                        go_ret2
                        exact ⟨_, _, rfl, .inr ⟨by omega, .inl ⟨kk, hlt, rfl, by omega, .inr ⟨by rw [HY.out]; exact HV.out, .inr ⟨HG.out, .inr ⟨by rw [HY.out]; exact HRG.out, .inr ⟨by rw [HY.out]; exact HN.out, .inl ⟨rfl, by rw [HY.out]; exact HC.out⟩⟩⟩⟩⟩, HA.out⟩⟩, HBF.out⟩
                      | false =>
                        have HC : Hid (∀ k, k < kk → ¬ (l[k]!).num 2 = y.num 2) := fun k h1 h2 => absurd (hiff.2 ⟨k, h1, h2⟩) (of_decide_eq_false hd)
                        have Hm := Lib.hid (hmet.mono fun e w' h => h.kept)
                        rw [hd] at Hm
                        clear hmet hiff hd
                        go_wp2_with fail
                        refine Hm.out.mono ?_
                        rintro e w' ⟨rfl, hM, hK⟩
                        have HBF := Lib.hid (hK.below HBW.out (Nat.le_refl _) HBW.out.size)
                        have HQ' : Hid (∃ S, MapS w' w.heap.size S ∧ SeenAt l kk y 3 S) := ⟨_, hM, HS2.out.add (a := 2) (by omega) HZ.out⟩
                        have HBX' := Lib.hid (hK.blk HBX.out (by omega))
                        have HCL' : Hid (∀ k, k < kk → ∀ a, a < 3 → 0 ≤ y.num a → ¬ (l[k]!).num a = y.num a) := fun k hk a ha h0 => by
                          by_cases e : a = 2
                          · subst e; exact HC.out k hk
                          · exact HCL.out k hk a (by omega) h0
                        clear hM hK
                        go_wp2
                        go_roundg (5 - 3)
                        case measure => omega
                        case rel => exact ⟨3, by omega, by omega, rfl, HBF, HQ', HBX', HCL'⟩
                  · skip
                    have ik : ∀ W, (Instr.index 34 (.agg #[.int .i64 y.n0, .int .i64 y.n1, .int .i64 y.n2, .int .i64 y.n3, .int .i64 y.n4]) (.int .i64 3)).run Tryd.prog W = .ok (.int .i64 y.n3) W := fun _ => by kernel_rfl
                    have hin : inR y.n3 := HRG.out.1 3 (by omega)
                    by_cases z1 : y.n3 = -1
                    · have z1' : (y.n3 != -1) = false := by simp [z1]
                      have HQ' : Hid (∃ S, MapS wr w.heap.size S ∧ SeenAt l kk y 4 S) := by
                        obtain ⟨S, h1, h2⟩ := HQ.out
                        exact ⟨S, h1, h2.skip z1⟩
                      have HCL' : Hid (∀ k, k < kk → ∀ a, a < 4 → 0 ≤ y.num a → ¬ (l[k]!).num a = y.num a) := fun k hk a ha h0 => by
                        by_cases e : a = 3
                        · subst e; exact absurd h0 (by show ¬ 0 ≤ y.n3; omega)
                        · exact HCL.out k hk a (by omega) h0
                      clear z1 hin
                      go_wp2
                      go_roundg (5 - 4)
                      case measure => omega
                      case rel => exact ⟨4, by omega, by omega, rfl, HBW, HQ', HBX, HCL'⟩
                    · have z1' : (y.n3 != -1) = true := by simpa using z1
                      have z0 : 0 ≤ y.n3 := by unfold inR at hin; omega
                      have hwf : In64 ((3 : Int), y.n3) := ⟨(by decide : (Lit.int .i64 3).wf = true), WalkArith.wf_i64 (by unfold inR at hin; omega)⟩
                      obtain ⟨S, hS1, hS2⟩ := HQ.out
                      have hmet := met_any w.heap.size S ((3 : Int), y.n3) wr hS1 hwf
                      have hiff := hS2.num (a := 3) (by omega) z0
                      have HS2 := Lib.hid hS2
                      have HZ := Lib.hid z0
                      clear hS1 hS2 z0 z1 hin hwf HQ
                      cases hd : decide (((3 : Int), y.n3) ∈ S) with
                      | true =>
                        have HC : Hid (∃ k, k < kk ∧ clash l[k]! y) := by
                          obtain ⟨k, h1, h2⟩ := hiff.1 (of_decide_eq_true hd)
                          exact ⟨k, h1, .inl ⟨3, by omega, HZ.out, h2⟩⟩
                        have Hm := Lib.hid (hmet.mono fun e w' h => h.kept)
                        rw [hd] at Hm
                        clear hmet hiff hd
                        go_wp2_with fail
                        refine Hm.out.mono ?_
                        rintro e w' ⟨rfl, hM, hK⟩
                        have HBF := Lib.hid (hK.below HBW.out (Nat.le_refl _) HBW.out.size)
                        clear hM hK
                        go_wp2
                        go_ret2
                        exact ⟨_, _, rfl, .inr ⟨by omega, .inl ⟨kk, hlt, rfl, by omega, .inr ⟨by rw [HY.out]; exact HV.out, .inr ⟨HG.out, .inr ⟨by rw [HY.out]; exact HRG.out, .inr ⟨by rw [HY.out]; exact HN.out, .inl ⟨rfl, by rw [HY.out]; exact HC.out⟩⟩⟩⟩⟩, HA.out⟩⟩, HBF.out⟩
                      | false =>
                        have HC : Hid (∀ k, k < kk → ¬ (l[k]!).num 3 = y.num 3) := fun k h1 h2 => absurd (hiff.2 ⟨k, h1, h2⟩) (of_decide_eq_false hd)
                        have Hm := Lib.hid (hmet.mono fun e w' h => h.kept)
                        rw [hd] at Hm
                        clear hmet hiff hd
                        go_wp2_with fail
                        refine Hm.out.mono ?_
                        rintro e w' ⟨rfl, hM, hK⟩
                        have HBF := Lib.hid (hK.below HBW.out (Nat.le_refl _) HBW.out.size)
                        have HQ' : Hid (∃ S, MapS w' w.heap.size S ∧ SeenAt l kk y 4 S) := ⟨_, hM, HS2.out.add (a := 3) (by omega) HZ.out⟩
                        have HBX' := Lib.hid (hK.blk HBX.out (by omega))
                        have HCL' : Hid (∀ k, k < kk → ∀ a, a < 4 → 0 ≤ y.num a → ¬ (l[k]!).num a = y.num a) := fun k hk a ha h0 => by
                          by_cases e : a = 3
                          · subst e; exact HC.out k hk
                          · exact HCL.out k hk a (by omega) h0
                        clear hM hK
                        go_wp2
                        go_roundg (5 - 4)
                        case measure => omega
                        case rel => exact ⟨4, by omega, by omega, rfl, HBF, HQ', HBX', HCL'⟩
                  · skip
                    have ik : ∀ W, (Instr.index 34 (.agg #[.int .i64 y.n0, .int .i64 y.n1, .int .i64 y.n2, .int .i64 y.n3, .int .i64 y.n4]) (.int .i64 4)).run Tryd.prog W = .ok (.int .i64 y.n4) W := fun _ => by kernel_rfl
                    have hin : inR y.n4 := HRG.out.1 4 (by omega)
                    by_cases z1 : y.n4 = -1
                    · have z1' : (y.n4 != -1) = false := by simp [z1]
                      have HQ' : Hid (∃ S, MapS wr w.heap.size S ∧ SeenAt l kk y 5 S) := by
                        obtain ⟨S, h1, h2⟩ := HQ.out
                        exact ⟨S, h1, h2.skip z1⟩
                      have HCL' : Hid (∀ k, k < kk → ∀ a, a < 5 → 0 ≤ y.num a → ¬ (l[k]!).num a = y.num a) := fun k hk a ha h0 => by
                        by_cases e : a = 4
                        · subst e; exact absurd h0 (by show ¬ 0 ≤ y.n4; omega)
                        · exact HCL.out k hk a (by omega) h0
                      clear z1 hin
                      go_wp2
                      go_roundg (5 - 5)
                      case measure => omega
                      case rel => exact ⟨5, by omega, by omega, rfl, HBW, HQ', HBX, HCL'⟩
                    · have z1' : (y.n4 != -1) = true := by simpa using z1
                      have z0 : 0 ≤ y.n4 := by unfold inR at hin; omega
                      have hwf : In64 ((4 : Int), y.n4) := ⟨(by decide : (Lit.int .i64 4).wf = true), WalkArith.wf_i64 (by unfold inR at hin; omega)⟩
                      obtain ⟨S, hS1, hS2⟩ := HQ.out
                      have hmet := met_any w.heap.size S ((4 : Int), y.n4) wr hS1 hwf
                      have hiff := hS2.num (a := 4) (by omega) z0
                      have HS2 := Lib.hid hS2
                      have HZ := Lib.hid z0
                      clear hS1 hS2 z0 z1 hin hwf HQ
                      cases hd : decide (((4 : Int), y.n4) ∈ S) with
                      | true =>
                        have HC : Hid (∃ k, k < kk ∧ clash l[k]! y) := by
                          obtain ⟨k, h1, h2⟩ := hiff.1 (of_decide_eq_true hd)
                          exact ⟨k, h1, .inl ⟨4, by omega, HZ.out, h2⟩⟩
                        have Hm := Lib.hid (hmet.mono fun e w' h => h.kept)
                        rw [hd] at Hm
                        clear hmet hiff hd
                        go_wp2_with fail
                        refine Hm.out.mono ?_
                        rintro e w' ⟨rfl, hM, hK⟩
                        have HBF := Lib.hid (hK.below HBW.out (Nat.le_refl _) HBW.out.size)
                        clear hM hK
                        go_wp2
                        go_ret2
                        exact ⟨_, _, rfl, .inr ⟨by omega, .inl ⟨kk, hlt, rfl, by omega, .inr ⟨by rw [HY.out]; exact HV.out, .inr ⟨HG.out, .inr ⟨by rw [HY.out]; exact HRG.out, .inr ⟨by rw [HY.out]; exact HN.out, .inl ⟨rfl, by rw [HY.out]; exact HC.out⟩⟩⟩⟩⟩, HA.out⟩⟩, HBF.out⟩
                      | false =>
                        have HC : Hid (∀ k, k < kk → ¬ (l[k]!).num 4 = y.num 4) := fun k h1 h2 => absurd (hiff.2 ⟨k, h1, h2⟩) (of_decide_eq_false hd)
                        have Hm := Lib.hid (hmet.mono fun e w' h => h.kept)
                        rw [hd] at Hm
                        clear hmet hiff hd
                        go_wp2_with fail
                        refine Hm.out.mono ?_
                        rintro e w' ⟨rfl, hM, hK⟩
                        have HBF := Lib.hid (hK.below HBW.out (Nat.le_refl _) HBW.out.size)
                        have HQ' : Hid (∃ S, MapS w' w.heap.size S ∧ SeenAt l kk y 5 S) := ⟨_, hM, HS2.out.add (a := 4) (by omega) HZ.out⟩
                        have HBX' := Lib.hid (hK.blk HBX.out (by omega))
                        have HCL' : Hid (∀ k, k < kk → ∀ a, a < 5 → 0 ≤ y.num a → ¬ (l[k]!).num a = y.num a) := fun k hk a ha h0 => by
                          by_cases e : a = 4
                          · subst e; exact HC.out k hk
                          · exact HCL.out k hk a (by omega) h0
                        clear hM hK
                        go_wp2
                        go_roundg (5 - 5)
                        case measure => omega
                        case rel => exact ⟨5, by omega, by omega, rfl, HBF, HQ', HBX', HCL'⟩
                  · skip
                    have t6 := HBX.out.cell 6
                    have t7 := HBX.out.cell 7
                    simp only [List.getElem?_toArray, List.getElem?_cons_zero, List.getElem?_cons_succ] at t6 t7
                    have hm := HRG.out.2
                    unfold muxOk at hm
                    have hm0 : 0 ≤ y.mux := hm.1
                    have hm2 : y.mux ≤ 2 := hm.2.1
                    have hms : 0 < y.mux → 1 ≤ y.sub ∧ y.sub ≤ 255 := hm.2.2.2
                    clear hm
                    obtain ⟨S, hS1, hS2⟩ := HQ.out
                    have HNC : Hid (∀ k, k < kk → ∀ a, a < 5 → 0 ≤ y.num a → ¬ (l[k]!).num a = y.num a) := HCL
                    clear HQ HCL
                    by_cases z1 : y.mux = 0
                    · have z1' : (y.mux != 0) = false := by simp [z1]
                      have HQ' : Hid (∃ S, MapS wr w.heap.size S ∧ Seen l (kk + 1) S) := ⟨S, hS1, hS2.done HY.out (by omega)⟩
                      have HRS : Hid (RowSaid l kk 0) := .inr ⟨by rw [HY.out]; exact HV.out, .inr ⟨HG.out, .inr ⟨by rw [HY.out]; exact HRG.out, .inr ⟨by rw [HY.out]; exact HN.out, .inr ⟨rfl, fun k hk hc => by
                        rw [HY.out] at hc
                        rcases hc with ⟨a, h1, h2, h3⟩ | ⟨h1, _⟩
                        · exact HNC.out k hk a h1 h2 h3
                        · omega⟩⟩⟩⟩⟩
                      clear z1 hS1 hS2 hms
                      go_wp2
                      go_roundg (n - (kk + 1))
                      case measure => omega
                      case rel =>
                        refine ⟨kk + 1, by omega, by omega, by go_num, HBW, HQ', (show Hid _ from fun j hj => ?_)⟩
                        by_cases e : j = kk
                        · subst e; exact HRS.out
                        · exact HA.out j (by omega)
                    · have z1' : (y.mux != 0) = true := by simpa using z1
                      have z0 : 0 < y.mux := by omega
                      obtain ⟨s1, s2⟩ := hms z0
                      have hwf : In64 (5 + y.mux, y.sub) := ⟨WalkArith.wf_i64 (by show _ ≤ 5 + y.mux ∧ 5 + y.mux ≤ _; omega), WalkArith.wf_i64 (by show _ ≤ y.sub ∧ y.sub ≤ _; omega)⟩
                      have hmet := met_any w.heap.size S (5 + y.mux, y.sub) wr hS1 hwf
                      have hiff := hS2.mux z0
                      have HS2 := Lib.hid hS2
                      have HZ := Lib.hid z0
                      clear hS1 hS2 z0 z1 hwf hms s1 s2
                      cases hd : decide ((5 + y.mux, y.sub) ∈ S) with
                      | true =>
                        have HC : Hid (∃ k, k < kk ∧ clash l[k]! y) := by
                          obtain ⟨k, h1, h2, h3⟩ := hiff.1 (of_decide_eq_true hd)
                          exact ⟨k, h1, .inr ⟨HZ.out, h2, h3⟩⟩
                        have Hm := Lib.hid (hmet.mono fun e w' h => h.kept)
                        rw [hd] at Hm
                        clear hmet hiff hd
                        go_wp2_with fail
                        refine Hm.out.mono ?_
                        rintro e w' ⟨rfl, hM, hK⟩
                        have HBF := Lib.hid (hK.below HBW.out (Nat.le_refl _) HBW.out.size)
                        clear hM hK
                        go_wp2
                        go_ret2
                        exact ⟨_, _, rfl, .inr ⟨by omega, .inl ⟨kk, hlt, rfl, by omega, .inr ⟨by rw [HY.out]; exact HV.out, .inr ⟨HG.out, .inr ⟨by rw [HY.out]; exact HRG.out, .inr ⟨by rw [HY.out]; exact HN.out, .inl ⟨rfl, by rw [HY.out]; exact HC.out⟩⟩⟩⟩⟩, HA.out⟩⟩, HBF.out⟩
                      | false =>
                        have HC : Hid (∀ k, k < kk → ¬ ((l[k]!).mux = y.mux ∧ (l[k]!).sub = y.sub)) := fun k h1 h2 => absurd (hiff.2 ⟨k, h1, h2⟩) (of_decide_eq_false hd)
                        have Hm := Lib.hid (hmet.mono fun e w' h => h.kept)
                        rw [hd] at Hm
                        clear hmet hiff hd
                        go_wp2_with fail
                        refine Hm.out.mono ?_
                        rintro e w' ⟨rfl, hM, hK⟩
                        have HBF := Lib.hid (hK.below HBW.out (Nat.le_refl _) HBW.out.size)
                        have HQ' : Hid (∃ S, MapS w' w.heap.size S ∧ Seen l (kk + 1) S) := ⟨_, hM, HS2.out.doneMux HY.out HZ.out⟩
                        have HRS : Hid (RowSaid l kk 0) := .inr ⟨by rw [HY.out]; exact HV.out, .inr ⟨HG.out, .inr ⟨by rw [HY.out]; exact HRG.out, .inr ⟨by rw [HY.out]; exact HN.out, .inr ⟨rfl, fun k hk hc => by
                          rw [HY.out] at hc
                          rcases hc with ⟨a, h1, h2, h3⟩ | ⟨_, h2, h3⟩
                          · exact HNC.out k hk a h1 h2 h3
                          · exact HC.out k hk ⟨h2, h3⟩⟩⟩⟩⟩⟩
                        clear hM hK
                        go_wp2
                        go_roundg (n - (kk + 1))
                        case measure => omega
                        case rel =>
                          refine ⟨kk + 1, by omega, by omega, by go_num, HBF, HQ', (show Hid _ from fun j hj => ?_)⟩
                          by_cases e : j = kk
                          · subst e; exact HRS.out
                          · exact HA.out j (by omega)
                  · omega
      · have hltz : ¬ (kk : Int) < (n : Int) := by omega
        obtain rfl : kk = n := by omega
        go_wp2
        go_ret2
        exact ⟨_, _, rfl, .inr ⟨by omega, .inr ⟨rfl, rfl, HA.out⟩⟩, HBW.out⟩
end Go.Proofs.YtakmbmlpgmppiaaDoor
