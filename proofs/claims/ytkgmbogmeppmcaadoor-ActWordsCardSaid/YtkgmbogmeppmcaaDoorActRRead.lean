/- strainerref09.Read: the action that words begin with. -/
import Derived.Test.YtkgmbogmeppmcaaDoorActRead
namespace Go.Proofs.YtkgmbogmeppmcaaDoor
open Go Go.Proofs Go.RowKit

theorem keep1 {a W wx : World} {p : Addr} {u : Value} (h : W.cell? p = some u ∧ Below a.heap.size a W) (hb : Below W.heap.size W wx) : wx.cell? p = some u ∧ Below a.heap.size a wx :=
  ⟨cellLater hb h.1, h.2.trans (hb.mono h.2.size)⟩

set_option maxRecDepth 100000 in
set_option maxHeartbeats 2000000 in
theorem refRead_any (sv : Value) (ws : List ByteArray) (hbig : ws.length ≤ 1000000) (w : World) (hW : WordsV w sv ws) :
    Calls Tryd.prog 28 #[sv] w fun e w' => e = .returned (readV (readAns ws)) ∧ Below w.heap.size w w' := by
  obtain ⟨ad, c, rfl, hx⟩ := hW
  have bZ := Blk.new w 23 #[.int .i64 0, .int .i64 0]
  have hb1 := (Below.refl w.heap.size w).alloc (Nat.le_refl _) (.cells #[.int .i64 0, .int .i64 0] 23)
  have HZ := Lib.hid bZ
  have HB := Lib.hid hb1
  clear bZ hb1
  cases ws with
  | nil =>
    clear hx HZ
    go_enter Tryd.func28, Tryd.ntmps28
    go_wp2
    refine bodyPost_ret (v := .tuple #[.agg #[.int .i64 0, .int .i64 0], .int .i64 0, .int .i64 4]) (by simp [results, Tryd.results28, go_sem]) rfl ⟨rfl, ?_⟩
    exact HB.out
  | cons s r =>
    obtain ⟨b, off, rfl, hlt, hcells⟩ := hx.resolve_left (fun h => by cases h)
    have HS : Hid (∀ W, Below w.heap.size w W → ∀ j t, (s :: r)[j]? = some t → W.cell? ⟨b, off + j, none⟩ = some (.string t)) := fun W hW j t ht => cellLater hW (hcells j t ht)
    obtain ⟨n, hn⟩ : ∃ n, (s :: r).length = n := ⟨_, rfl⟩
    have hn0 : 0 < n := by rw [← hn]; simp
    rw [hn] at hbig ⊢
    have hn0z : ¬ (n : Int) = 0 := by omega
    have hn0b : ((n : Int) == 0) = false := by simpa using hn0z
    have hn0p : (0 : Int) < (n : Int) := by omega
    have HN := Lib.hid hn
    clear hx hcells hlt hn
    go_enter Tryd.func28, Tryd.ntmps28
    go_upto_region 4 with fail
    go_loopg [5] 8 (fun gg s5 wr => ∃ kk : Nat, kk ≤ 8 ∧ 8 - kk ≤ gg ∧ s5 = .int .i64 ((kk : Int) + 1) ∧ Hid (Below w.heap.size w wr) ∧ Hid (Blk wr w.heap.size 23 #[.int .i64 0, .int .i64 0]) ∧ Hid (∀ j, j < kk → wordB s j = false))
    case atStart => exact ⟨0, Nat.zero_le _, by omega, rfl, HB, HZ, fun j hj => absurd hj (Nat.not_lt_zero _)⟩
    case round =>
      obtain ⟨kk, hkk, hg, rfl, BW, ZW, A⟩ := hrel
      obtain ⟨K, hK⟩ : ∃ K : Int, (kk : Int) + 1 = K := ⟨_, rfl⟩
      rw [hK]
      have HK := Lib.hid hK
      clear HB HZ
      by_cases hlt : kk < 8
      · have hK1 : 1 ≤ K := by omega
        have hK8 : K ≤ 8 := by omega
        have Hw := Lib.hid (fun W => word_any K hK1 hK8 W)
        have q0 := HS.out wr BW.out 0 s rfl
        simp only [Nat.add_zero] at q0
        have w3 : IntKind.i64.wrap (K + 1) = K + 1 := IntWalk.i64_in _ (by omega)
        have hwd : wordB s kk = ((actWord K).toList == s.toList) := by unfold wordB; rw [hK]
        have HWD := Lib.hid hwd
        clear hwd hK
        cases hq : ((actWord K).toList == s.toList) with
        | false =>
          have hq2 : ((actWord K).toList != s.toList) = true := by simp [bne, hq]
          have HF : Hid (wordB s kk = false) := HWD.out.trans hq
          go_upto_region 6 with fail
          go_region_held3 (fun w' => w'.cell? ⟨b, off, none⟩ = some (.string s) ∧ Below wr.heap.size wr w') (first | exact ⟨q0, (Below.refl _ wr).drew⟩ | exact keep1 (by assumption) hbx | go_keep) (first | (go_at_call 37; refine (Hw.out _).mono ?_; rintro e wx ⟨rfl, hbx⟩))
          have hbw : Below wr.heap.size wr wx := (show wx.cell? ⟨b, off, none⟩ = some (.string s) ∧ Below wr.heap.size wr wx by assumption).2
          have ZX := blkB ZW hbw
          have BX := belB BW hbw
          clear q0
          go_wp2
          go_roundg (8 - (kk + 1))
          case measure => omega
          case rel =>
            refine ⟨kk + 1, by omega, by omega, by rw [← HK.out]; go_num, BX, ZX, (show Hid _ from fun j hj => ?_)⟩
            by_cases e : j = kk
            · subst e; exact HF.out
            · exact A.out j (by omega)
        | true =>
          have hq2 : ((actWord K).toList != s.toList) = false := by simp [bne, hq]
          have hF : firstN (wordB s) = (kk : Int) := firstN_hit _ kk hlt A.out (HWD.out.trans hq)
          have HFK : Hid (firstN (wordB s) + 1 = K) := by show _ + 1 = K; rw [hF]; exact HK.out
          have HNE : Hid (¬ firstN (wordB s) = -1) := by show ¬ _ = _; rw [hF]; omega
          clear hF
          by_cases h46 : K = 4 ∨ K = 6
          case neg =>
            have hk4 : (K != 4) = true := by simpa using fun h => h46 (.inl h)
            have hk6 : (K != 6) = true := by simpa using fun h => h46 (.inr h)
            have HV : Hid (readV (readAns (s :: r)) = .tuple #[.agg #[.int .i64 K, .int .i64 0], .int .i64 1, .int .i64 0]) := by
              show readV (readAns (s :: r)) = _
              unfold readAns
              dsimp only
              rw [if_neg HNE.out, HFK.out, if_pos h46]
              rfl
            clear h46
            go_upto_region 6 with fail
            go_region_held3 (fun w' => w'.cell? ⟨b, off, none⟩ = some (.string s) ∧ Below wr.heap.size wr w') (first | exact ⟨q0, (Below.refl _ wr).drew⟩ | exact keep1 (by assumption) hbx | go_keep) (first | (go_at_call 37; refine (Hw.out _).mono ?_; rintro e wx ⟨rfl, hbx⟩))
            have hbw : Below wr.heap.size wr wx := (show wx.cell? ⟨b, off, none⟩ = some (.string s) ∧ Below wr.heap.size wr wx by assumption).2
            have ZX := blkB ZW hbw
            have BX := belB BW hbw
            have z0 := ZX.out.frozen 0
            have z1 := ZX.out.frozen 1
            have y0 := ZX.out.cell 0
            have y1 := ZX.out.cell 1
            simp only [List.getElem?_toArray, List.getElem?_cons_zero, List.getElem?_cons_succ] at y0 y1
            clear q0
            go_wp2
            have bF := ((ZX.out.set 0 (.int .i64 K)).set 1 (.int .i64 0))
            have e0 := bF.cell 0
            have e1 := bF.cell 1
            simp at e0 e1
            refine bodyPost_ret (v := .tuple #[.agg #[.int .i64 K, .int .i64 0], .int .i64 1, .int .i64 0]) (by simp [results, Tryd.results28, go_sem, e0, e1]) rfl ⟨congrArg Ending.returned HV.out.symm, ?_⟩
            exact (BX.out.setCell (p := ⟨w.heap.size, 0, none⟩) (Nat.le_refl _) _).setCell (p := ⟨w.heap.size, 1, none⟩) (Nat.le_refl _) _
          case pos =>
            have HV0 : Hid (readAns (s :: r) = readRest K r) := by
              show readAns (s :: r) = _
              unfold readAns
              dsimp only
              rw [if_neg HNE.out, HFK.out, if_neg (fun h => h h46)]
            have hk : (K != 4) = false ∨ ((K != 4) = true ∧ (K != 6) = false) := by rcases h46 with rfl | rfl <;> simp
            clear h46
            cases r with
            | nil =>
              have hn1 : (n : Int) < 2 := by have := HN.out; simp at this; omega
              have HV : Hid (readV (readAns [s]) = .tuple #[.agg #[.int .i64 0, .int .i64 0], .int .i64 0, .int .i64 13]) := by show readV (readAns [s]) = _; rw [HV0.out]; rfl
              rcases hk with hk4 | ⟨hk4, hk6⟩
              all_goals
                go_upto_region 6 with fail
                go_region_held3 (fun w' => w'.cell? ⟨b, off, none⟩ = some (.string s) ∧ Below wr.heap.size wr w') (first | exact ⟨q0, (Below.refl _ wr).drew⟩ | exact keep1 (by assumption) hbx | go_keep) (first | (go_at_call 37; refine (Hw.out _).mono ?_; rintro e wx ⟨rfl, hbx⟩))
                have hbw : Below wr.heap.size wr wx := (show wx.cell? ⟨b, off, none⟩ = some (.string s) ∧ Below wr.heap.size wr wx by assumption).2
                have ZX := blkB ZW hbw
                have BX := belB BW hbw
                have z0 := ZX.out.frozen 0
                have z1 := ZX.out.frozen 1
                have y0 := ZX.out.cell 0
                have y1 := ZX.out.cell 1
                simp only [List.getElem?_toArray, List.getElem?_cons_zero, List.getElem?_cons_succ] at y0 y1
                clear q0
                go_wp2
                have bF := ((ZX.out.set 0 (.int .i64 0)).set 1 (.int .i64 0))
                have e0 := bF.cell 0
                have e1 := bF.cell 1
                simp at e0 e1
                refine bodyPost_ret (v := .tuple #[.agg #[.int .i64 0, .int .i64 0], .int .i64 0, .int .i64 13]) (by simp [results, Tryd.results28, go_sem, e0, e1]) rfl ⟨congrArg Ending.returned HV.out.symm, ?_⟩
                exact (BX.out.setCell (p := ⟨w.heap.size, 0, none⟩) (Nat.le_refl _) _).setCell (p := ⟨w.heap.size, 1, none⟩) (Nat.le_refl _) _
            | cons t r' =>
              have hn1 : ¬ (n : Int) < 2 := by have := HN.out; simp at this; omega
              have hn2 : (1 : Int) < (n : Int) := by omega
              have hnum := fun W => refNumber_any t W
              have hmost := fun W => most_any K W
              unfold numV at hnum
              have Hnum := Lib.hid hnum
              have Hmost := Lib.hid hmost
              clear hnum hmost
              cases hm : refNum t with
              | none =>
                rw [hm] at Hnum
                have HV : Hid (readV (readAns (s :: t :: r')) = .tuple #[.agg #[.int .i64 0, .int .i64 0], .int .i64 0, .int .i64 13]) := by show readV (readAns (s :: t :: r')) = _; rw [HV0.out]; unfold readRest; dsimp only; rw [hm]; rfl
                clear hm
                rcases hk with hk4 | ⟨hk4, hk6⟩
                all_goals
                  go_upto_region 6 with fail
                  go_region_held3 (fun w' => w'.cell? ⟨b, off, none⟩ = some (.string s) ∧ Below wr.heap.size wr w') (first | exact ⟨q0, (Below.refl _ wr).drew⟩ | exact keep1 (by assumption) hbx | go_keep) (first | (go_at_call 37; refine (Hw.out _).mono ?_; rintro e wx ⟨rfl, hbx⟩))
                  have hbw : Below wr.heap.size wr wx := (show wx.cell? ⟨b, off, none⟩ = some (.string s) ∧ Below wr.heap.size wr wx by assumption).2
                  have ZX := blkB ZW hbw
                  have BX := belB BW hbw
                  have z0 := ZX.out.frozen 0
                  have z1 := ZX.out.frozen 1
                  have y0 := ZX.out.cell 0
                  have y1 := ZX.out.cell 1
                  simp only [List.getElem?_toArray, List.getElem?_cons_zero, List.getElem?_cons_succ] at y0 y1
                  have t0 := HS.out wx BX.out 1 t rfl
                  clear q0
                  go_wp2_with (go_at_call 50; refine (Hnum.out _).mono ?_; rintro e wn ⟨rfl, rfl⟩)
                  have bF := ((ZX.out.set 0 (.int .i64 0)).set 1 (.int .i64 0))
                  have e0 := bF.cell 0
                  have e1 := bF.cell 1
                  simp at e0 e1
                  refine bodyPost_ret (v := .tuple #[.agg #[.int .i64 0, .int .i64 0], .int .i64 0, .int .i64 13]) (by simp [results, Tryd.results28, go_sem, e0, e1]) rfl ⟨congrArg Ending.returned HV.out.symm, ?_⟩
                  exact (BX.out.setCell (p := ⟨w.heap.size, 0, none⟩) (Nat.le_refl _) _).setCell (p := ⟨w.heap.size, 1, none⟩) (Nat.le_refl _) _
              | some m =>
                rw [hm] at Hnum
                have HM := Lib.hid hm
                clear hm
                by_cases hgt : actGreatest K < (m : Int)
                · have HV : Hid (readV (readAns (s :: t :: r')) = .tuple #[.agg #[.int .i64 0, .int .i64 0], .int .i64 0, .int .i64 16]) := by show readV (readAns (s :: t :: r')) = _; rw [HV0.out]; unfold readRest; dsimp only; rw [HM.out]; dsimp only; rw [if_pos hgt]; rfl
                  rcases hk with hk4 | ⟨hk4, hk6⟩
                  all_goals
                    go_upto_region 6 with fail
                    go_region_held3 (fun w' => w'.cell? ⟨b, off, none⟩ = some (.string s) ∧ Below wr.heap.size wr w') (first | exact ⟨q0, (Below.refl _ wr).drew⟩ | exact keep1 (by assumption) hbx | go_keep) (first | (go_at_call 37; refine (Hw.out _).mono ?_; rintro e wx ⟨rfl, hbx⟩))
                    have hbw : Below wr.heap.size wr wx := (show wx.cell? ⟨b, off, none⟩ = some (.string s) ∧ Below wr.heap.size wr wx by assumption).2
                    have ZX := blkB ZW hbw
                    have BX := belB BW hbw
                    have z0 := ZX.out.frozen 0
                    have z1 := ZX.out.frozen 1
                    have y0 := ZX.out.cell 0
                    have y1 := ZX.out.cell 1
                    simp only [List.getElem?_toArray, List.getElem?_cons_zero, List.getElem?_cons_succ] at y0 y1
                    have t0 := HS.out wx BX.out 1 t rfl
                    clear q0
                    go_wp2_with (first | (go_at_call 50; refine (Hnum.out _).mono ?_; rintro e wn ⟨rfl, rfl⟩) | (go_at_call 35; refine (Hmost.out _).mono ?_; rintro e wn ⟨rfl, rfl⟩))
                    have bF := ((ZX.out.set 0 (.int .i64 0)).set 1 (.int .i64 0))
                    have e0 := bF.cell 0
                    have e1 := bF.cell 1
                    simp at e0 e1
                    refine bodyPost_ret (v := .tuple #[.agg #[.int .i64 0, .int .i64 0], .int .i64 0, .int .i64 16]) (by simp [results, Tryd.results28, go_sem, e0, e1]) rfl ⟨congrArg Ending.returned HV.out.symm, ?_⟩
                    exact (BX.out.setCell (p := ⟨w.heap.size, 0, none⟩) (Nat.le_refl _) _).setCell (p := ⟨w.heap.size, 1, none⟩) (Nat.le_refl _) _
                · have HV : Hid (readV (readAns (s :: t :: r')) = .tuple #[.agg #[.int .i64 K, .int .i64 (m : Int)], .int .i64 2, .int .i64 0]) := by show readV (readAns (s :: t :: r')) = _; rw [HV0.out]; unfold readRest; dsimp only; rw [HM.out]; dsimp only; rw [if_neg hgt]; rfl
                  rcases hk with hk4 | ⟨hk4, hk6⟩
                  all_goals
                    go_upto_region 6 with fail
                    go_region_held3 (fun w' => w'.cell? ⟨b, off, none⟩ = some (.string s) ∧ Below wr.heap.size wr w') (first | exact ⟨q0, (Below.refl _ wr).drew⟩ | exact keep1 (by assumption) hbx | go_keep) (first | (go_at_call 37; refine (Hw.out _).mono ?_; rintro e wx ⟨rfl, hbx⟩))
                    have hbw : Below wr.heap.size wr wx := (show wx.cell? ⟨b, off, none⟩ = some (.string s) ∧ Below wr.heap.size wr wx by assumption).2
                    have ZX := blkB ZW hbw
                    have BX := belB BW hbw
                    have z0 := ZX.out.frozen 0
                    have z1 := ZX.out.frozen 1
                    have y0 := ZX.out.cell 0
                    have y1 := ZX.out.cell 1
                    simp only [List.getElem?_toArray, List.getElem?_cons_zero, List.getElem?_cons_succ] at y0 y1
                    have t0 := HS.out wx BX.out 1 t rfl
                    clear q0
                    go_wp2_with (first | (go_at_call 50; refine (Hnum.out _).mono ?_; rintro e wn ⟨rfl, rfl⟩) | (go_at_call 35; refine (Hmost.out _).mono ?_; rintro e wn ⟨rfl, rfl⟩))
                    have bF := ((ZX.out.set 0 (.int .i64 K)).set 1 (.int .i64 (m : Int)))
                    have e0 := bF.cell 0
                    have e1 := bF.cell 1
                    simp at e0 e1
                    refine bodyPost_ret (v := .tuple #[.agg #[.int .i64 K, .int .i64 (m : Int)], .int .i64 2, .int .i64 0]) (by simp [results, Tryd.results28, go_sem, e0, e1]) rfl ⟨congrArg Ending.returned HV.out.symm, ?_⟩
                    exact (BX.out.setCell (p := ⟨w.heap.size, 0, none⟩) (Nat.le_refl _) _).setCell (p := ⟨w.heap.size, 1, none⟩) (Nat.le_refl _) _
      · obtain rfl : kk = 8 := by omega
        obtain rfl : K = 9 := by omega
        have HV : Hid (readV (readAns (s :: r)) = .tuple #[.agg #[.int .i64 0, .int .i64 0], .int .i64 0, .int .i64 14]) := by
          show readV (readAns (s :: r)) = _
          unfold readAns
          dsimp only
          rw [if_pos (firstN_miss _ A.out)]
          rfl
        clear hK
        have z0 := ZW.out.frozen 0
        have z1 := ZW.out.frozen 1
        have y0 := ZW.out.cell 0
        have y1 := ZW.out.cell 1
        simp only [List.getElem?_toArray, List.getElem?_cons_zero, List.getElem?_cons_succ] at y0 y1
        go_wp2
        have bF := ((ZW.out.set 0 (.int .i64 0)).set 1 (.int .i64 0))
        have e0 := bF.cell 0
        have e1 := bF.cell 1
        simp at e0 e1
        refine bodyPost_ret (v := .tuple #[.agg #[.int .i64 0, .int .i64 0], .int .i64 0, .int .i64 14]) (by simp [results, Tryd.results28, go_sem, e0, e1]) rfl ⟨congrArg Ending.returned HV.out.symm, ?_⟩
        exact (BW.out.setCell (p := ⟨w.heap.size, 0, none⟩) (Nat.le_refl _) _).setCell (p := ⟨w.heap.size, 1, none⟩) (Nat.le_refl _) _
end Go.Proofs.YtkgmbogmeppmcaaDoor
