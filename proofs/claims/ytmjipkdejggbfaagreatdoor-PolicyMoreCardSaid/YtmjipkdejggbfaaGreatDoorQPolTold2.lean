/- strainerlaw14.told: is a policy the document's? -/
import Derived.Test.YtmjipkdejggbfaaGreatDoorQPolSame2
namespace Go.Proofs.YtmjipkdejggbfaaGreatDoor
open Go Go.Proofs Go.RowKit

theorem neqAct {k n k2 n2 : Int} (h : ¬ (k = k2 ∧ n = n2)) (w : World) : (Go.binOp .neq 23 (.agg #[.int .i64 k, .int .i64 n]) (.agg #[.int .i64 k2, .int .i64 n2])).run Tryz.prog w = .ok (.bool true) w := by
  simp [go_sem]
  intro h1 h2
  exact h ⟨h1, h2⟩
set_option maxRecDepth 100000 in
set_option maxHeartbeats 8000000 in
theorem told14_rules {k n : Int} {x : Bool} {rs ss : List PRule} {v1 v2 : Value} {lo1 N0 : Nat} (h500 : ss.length ≤ 500) (hcd : ∀ r ∈ ss, r.conds.length ≤ 1000000) (w : World) (hN0 : N0 ≤ w.heap.size) (h1 : RulesR TRl TCd lo1 w v1 rs) (h2 : RulesI N0 w v2 ss) (hlen : rs.length = ss.length) :
    Calls Tryz.prog 11 #[PolV k n x v1, PolV k n x v2] w (eqPost (rs = ss) w) := by
  have hof := fun W hW hR => ofI_any (k := k) (n := n) (x := x) (rs := ss) (vr := v2) (N0 := N0) h500 hcd W hW hR
  obtain ⟨a1, c1, rfl⟩ := h1.slice
  obtain ⟨a2, c2, rfl⟩ : ∃ a c, v2 = .slice a ss.length c := by obtain ⟨a, c, e, _⟩ := h2; exact ⟨a, c, e⟩
  unfold PolV at *
  obtain ⟨L, hL⟩ : ∃ L, ss.length = L := ⟨_, rfl⟩
  have HOF := Lib.hid hof
  rw [hL] at h2 h500 HOF hlen ⊢
  rw [hlen] at h1 ⊢
  have HL := Lib.hid hL
  have HCD := Lib.hid hcd
  have HLR := Lib.hid hlen
  have H1 := Lib.hid h1
  have HP := Lib.hid ((Blk.new w TPl #[.int .i64 k, .int .i64 n, .bool x, .slice a1 L c1]).alloc (.cells #[.int .i64 k, .int .i64 n, .bool x, .slice a2 L c2] TPr))
  have H2 := Lib.hid ((h2.below ((Below.refl w.heap.size w).alloc (Nat.le_refl _) (.cells #[.int .i64 k, .int .i64 n, .bool x, .slice a1 L c1] TPl)) hN0).below ((Below.refl (w.alloc (.cells #[.int .i64 k, .int .i64 n, .bool x, .slice a1 L c1] TPl)).heap.size _).alloc (Nat.le_refl _) (.cells #[.int .i64 k, .int .i64 n, .bool x, .slice a2 L c2] TPr)) (by simp; omega))
  have HB := Lib.hid (((Below.refl w.heap.size w).alloc (Nat.le_refl _) (.cells #[.int .i64 k, .int .i64 n, .bool x, .slice a1 L c1] TPl)).alloc (by simp) (.cells #[.int .i64 k, .int .i64 n, .bool x, .slice a2 L c2] TPr))
  clear hL h1 h2 hcd hof hlen
  go_enter Tryz.func11, Tryz.ntmps11
  go_wp2_with fail
  refine (HOF.out _ (Nat.le_trans hN0 HB.out.size) H2.out).mono ?_
  rintro e w1 ⟨vo, rfl, hro, hb⟩
  obtain ⟨ao, co, rfl⟩ := hro.slice
  have HLs := HL.out
  rw [HLs] at hro
  have HP1 : Hid (Blk (w1.alloc (.cells #[.int .i64 k, .int .i64 n, .bool x, .slice ao L co] TPl)) w.heap.size TPl #[.int .i64 k, .int .i64 n, .bool x, .slice a1 L c1]) := Blk.alloc (blkHP HP hb).out _
  have HX1 : Hid (Blk (w1.alloc (.cells #[.int .i64 k, .int .i64 n, .bool x, .slice ao L co] TPl)) w1.heap.size TPl #[.int .i64 k, .int .i64 n, .bool x, .slice ao L co]) := Blk.new w1 _ _
  have HB1 : Hid (Below w.heap.size w (w1.alloc (.cells #[.int .i64 k, .int .i64 n, .bool x, .slice ao L co] TPl))) := (belP HB hb).out.alloc (belP HB hb).out.size _
  have HRo : Hid (RulesR TRl TCd lo1 (w1.alloc (.cells #[.int .i64 k, .int .i64 n, .bool x, .slice ao L co] TPl)) (.slice a1 L c1) rs) := H1.out.below (HB1.out)
  have HR2 := Lib.hid (hro.up (.cells #[.int .i64 k, .int .i64 n, .bool x, .slice ao L co] TPl))
  clear hb hro HP HB H1 H2 HOF
  rw [HLs]
  clear HLs
  go_upto_region 2 with fail
  generalize w1.alloc (.cells #[.int .i64 k, .int .i64 n, .bool x, .slice ao L co] TPl) = w2 at *
  generalize w1.heap.size = XB at *
  have p0 := HP1.out.cell 0
  have p1 := HP1.out.cell 1
  have p2 := HP1.out.cell 2
  have p3 := HP1.out.cell 3
  have x0 := HX1.out.cell 0
  have x1 := HX1.out.cell 1
  have x2 := HX1.out.cell 2
  have x3 := HX1.out.cell 3
  simp only [List.getElem?_toArray, List.getElem?_cons_zero, List.getElem?_cons_succ] at p0 p1 p2 p3 x0 x1 x2 x3
  go_upto_region 5 with fail
  clear p0 p1 p2 p3 x0 x1 x2 x3
  generalize hN2 : w2.heap.size = N2 at *
  have HN2 := Lib.hid hN2
  go_loopg [6] (L + 1) (fun gg iv wr => ∃ i : Nat, i ≤ L ∧ L - i < gg ∧ iv = .int .i64 (i : Int) ∧ Hid (rs.take i = ss.take i) ∧ Hid (Below N2 w2 wr))
  case atStart => exact ⟨0, Nat.zero_le _, by omega, rfl, (by show _ = _; rfl), Below.refl _ _⟩
  case round =>
    obtain ⟨i, hiL, hgg, rfl, HT, HBr⟩ := hrel
    have i0 : (0 : Int) ≤ (i : Int) := by omega
    have hPl : w.heap.size < N2 := by rw [← hN2]; exact Blk.lt HP1.out
    have hXl : XB < N2 := by rw [← hN2]; exact Blk.lt HX1.out
    have hNr : N2 ≤ wr.heap.size := by rw [← hN2]; exact HBr.out.size
    have p3 := (HP1.out.below HBr.out hPl).cell 3
    have x3 := (HX1.out.below HBr.out hXl).cell 3
    simp only [List.getElem?_toArray, List.getElem?_cons_zero, List.getElem?_cons_succ] at p3 x3
    by_cases hlt : i < L
    · have hltz : (i : Int) < (L : Int) := by omega
      obtain ⟨⟨nm, rk, rn, cs⟩, hr0⟩ : ∃ r, rs[i]? = some r := ⟨_, List.getElem?_eq_getElem (by rw [HLR.out]; exact hlt)⟩
      obtain ⟨⟨nm2, rk2, rn2, ds⟩, hs0⟩ : ∃ r, ss[i]? = some r := ⟨_, List.getElem?_eq_getElem (by rw [HL.out]; exact hlt)⟩
      obtain ⟨g1, ua1, uc1, rfl, hg1, e0, e1, e2, e3, hCA1⟩ := rules_at HRo.out hr0
      obtain ⟨g2, ua2, uc2, rfl, hg2, f0, f1, f2, f3, hCA2⟩ := rules_at HR2.out hs0
      dsimp only at e0 e1 e2 e3 hCA1 f0 f1 f2 f3 hCA2
      rw [hN2] at hg1 hg2 hCA1 hCA2
      have hCl : ds.length ≤ 1000000 := HCD.out _ (List.mem_of_getElem? hs0)
      have HNE : Hid (¬ (⟨nm, rk, rn, cs⟩ : PRule) = ⟨nm2, rk2, rn2, ds⟩ → ¬ rs = ss) := fun hne e => by rw [e, hs0] at hr0; exact hne (Option.some.inj hr0).symm
      have HTT : Hid ((⟨nm, rk, rn, cs⟩ : PRule) = ⟨nm2, rk2, rn2, ds⟩ → rs.take (i + 1) = ss.take (i + 1)) := fun e => by rw [take_snoc hr0, take_snoc hs0, HT.out, e]
      generalize hCL : ds.length = CL at *
      have HCL := Lib.hid hCL
      generalize hCM : cs.length = CM at *
      have HCM := Lib.hid hCM
      have ce : ∀ g j v, g < N2 → w2.cell? ⟨g, j, none⟩ = some v → wr.cell? ⟨g, j, none⟩ = some v := fun g j v hg hv => (HBr.out.cell (p := ⟨g, j, none⟩) hg).trans hv
      have e0 := ce _ _ _ hg1 e0
      have e1 := ce _ _ _ hg1 e1
      have e2 := ce _ _ _ hg1 e2
      have e3 := ce _ _ _ hg1 e3
      have f0 := ce _ _ _ hg2 f0
      have f1 := ce _ _ _ hg2 f1
      have f2 := ce _ _ _ hg2 f2
      have f3 := ce _ _ _ hg2 f3
      have HCA1 := Lib.hid hCA1
      have HCA2 := Lib.hid hCA2
      have hl1 : g1 < wr.heap.size := by omega
      have hl2 : g2 < wr.heap.size := by omega
      have hl3 : w.heap.size < wr.heap.size := by omega
      have hl4 : XB < wr.heap.size := by omega
      clear hr0 hs0 ce hCL hCM hCA1 hCA2
      go_upto_region 7 with fail
      go_cut [7, 8] (fun va vb wx => ∃ A B, va = .pointer (some ⟨A, 0, none⟩) ∧ vb = .pointer (some ⟨B, 0, none⟩) ∧ Blk wx A TRl #[.string nm, .int .i64 rk, .int .i64 rn, .slice ua1 CM uc1] ∧ Blk wx B TRl #[.string nm2, .int .i64 rk2, .int .i64 rn2, .slice ua2 CL uc2] ∧ Below N2 w2 wx)
      case first =>
        go_region
        · go_wp2
          go_meet
          refine ⟨wr.heap.size, wr.heap.size + 1, rfl, rfl, ?_, ?_, ((HBr.out.alloc hNr _).alloc (by simp; omega) _).drew⟩
          · exact Blk.alloc (Blk.new wr TRl #[.string nm, .int .i64 rk, .int .i64 rn, .slice ua1 CM uc1]) _
          · have h := Blk.new (wr.alloc (.cells #[.string nm, .int .i64 rk, .int .i64 rn, .slice ua1 CM uc1] TRl)) TRl #[.string nm2, .int .i64 rk2, .int .i64 rn2, .slice ua2 CL uc2]
            simp only [World.size_alloc] at h
            exact h
        · go_wp2
          go_meet
          refine ⟨wr.heap.size + 1, wr.heap.size, rfl, rfl, ?_, ?_, ((HBr.out.alloc hNr _).alloc (by simp; omega) _).drew⟩
          · have h := Blk.new (wr.alloc (.cells #[.string nm2, .int .i64 rk2, .int .i64 rn2, .slice ua2 CL uc2] TRl)) TRl #[.string nm, .int .i64 rk, .int .i64 rn, .slice ua1 CM uc1]
            simp only [World.size_alloc] at h
            exact h
          · exact Blk.alloc (Blk.new wr TRl #[.string nm2, .int .i64 rk2, .int .i64 rn2, .slice ua2 CL uc2]) _
      case rest =>
        obtain ⟨A, B, rfl, rfl, hA, hB, hbc⟩ := hcut
        have HA := Lib.hid hA
        have HBk := Lib.hid hB
        have HBc := Lib.hid hbc
        have hAl := hA.lt
        have hBl := hB.lt
        clear hA hB hbc e0 e1 e2 e3 f0 f1 f2 f3 p3 x3 HBr
        have a0 := HA.out.cell 0
        have a1 := HA.out.cell 1
        have a2 := HA.out.cell 2
        have a3 := HA.out.cell 3
        have b0 := HBk.out.cell 0
        have b1 := HBk.out.cell 1
        have b2 := HBk.out.cell 2
        have b3 := HBk.out.cell 3
        simp only [List.getElem?_toArray, List.getElem?_cons_zero, List.getElem?_cons_succ] at a0 a1 a2 a3 b0 b1 b2 b3
        by_cases hn : nm = nm2
        case neg =>
          have q : (nm.toList == nm2.toList) = false := by
            have : nm.toList ≠ nm2.toList := fun e => hn (bytesT e)
            simpa using this
          have q1 : (nm.toList != nm2.toList) = true := by simp [bne, q]
          have q2 : ¬ nm.toList = nm2.toList := by simpa using q
          have q3 : ¬ nm = nm2 := hn
          have HNN := Lib.hid (HNE.out (fun e => hn (by injection e)))
          have HBz := Lib.hid (HB1.out.trans (HBc.out.mono (by omega)))
          go_wp2
          go_ret
          exact eq_no HNN.out HBz.out
        subst hn
        by_cases ha : rk = rk2 ∧ rn = rn2
        case neg =>
          have hne := neqAct ha
          have HNN := Lib.hid (HNE.out (fun e => ha (by injection e with _ e1 e2; exact ⟨e1, e2⟩)))
          have HBz := Lib.hid (HB1.out.trans (HBc.out.mono (by omega)))
          go_wp2
          go_ret
          exact eq_no HNN.out HBz.out
        obtain ⟨rfl, rfl⟩ := ha
        by_cases hcl : CM = CL
        case neg =>
          have hz : ¬ (CM : Int) = (CL : Int) := by omega
          have hz2 : ((CM : Int) != (CL : Int)) = true := by simp; omega
          have HNN := Lib.hid (HNE.out (fun e => hcl (by injection e with _ _ _ e3; rw [← HCM.out, ← HCL.out, e3])))
          have HBz := Lib.hid (HB1.out.trans (HBc.out.mono (by omega)))
          go_wp2
          go_ret
          exact eq_no HNN.out HBz.out
        subst hcl
        go_upto_region 11 with fail
        clear a0 a1 a2 a3 b0 b1 b2 b3
        generalize hNC : wc.heap.size = NC at *
        generalize wr.heap.size = NR at *
        go_loopg [9] (CM + 1) (fun gg2 kv wq => ∃ q : Nat, q ≤ CM ∧ CM - q < gg2 ∧ kv = .int .i64 (q : Int) ∧ Hid (cs.take q = ds.take q) ∧ Hid (Below NC wc wq))
        case atStart => exact ⟨0, Nat.zero_le _, by omega, rfl, (by show _ = _; rfl), Below.refl _ _⟩
        case round =>
          obtain ⟨q, hqL, hgg2, rfl, HTQ, HBq⟩ := hrel
          have q0 : (0 : Int) ≤ (q : Int) := by omega
          have a3 := (HA.out.below HBq.out hAl).cell 3
          have b3 := (HBk.out.below HBq.out hBl).cell 3
          simp only [List.getElem?_toArray, List.getElem?_cons_zero, List.getElem?_cons_succ] at a3 b3
          have hN2c : N2 ≤ NC := by rw [← hNC, ← hN2]; exact HBc.out.size
          by_cases hq : q < CM
          · have hqz : (q : Int) < (CM : Int) := by omega
            obtain ⟨c, hc0⟩ : ∃ c, cs[q]? = some c := ⟨_, List.getElem?_eq_getElem (by rw [HCM.out]; exact hq)⟩
            obtain ⟨d, hd0⟩ : ∃ d, ds[q]? = some d := ⟨_, List.getElem?_eq_getElem (by rw [HCL.out]; exact hq)⟩
            obtain ⟨gu1, rfl, hgu1, c0, c1, c2, c3⟩ := HCA1.out q _ hc0
            obtain ⟨gu2, rfl, hgu2, k0, k1, k2, k3⟩ := HCA2.out q _ hd0
            have ce : ∀ g j v, g < N2 → w2.cell? ⟨g, j, none⟩ = some v → wr.cell? ⟨g, j, none⟩ = some v := fun g j v hg hv => (HBq.out.cell (p := ⟨g, j, none⟩) (by show g < NC; omega)).trans ((HBc.out.cell (p := ⟨g, j, none⟩) hg).trans hv)
            have c0 := ce _ _ _ hgu1 c0
            have c1 := ce _ _ _ hgu1 c1
            have c2 := ce _ _ _ hgu1 c2
            have c3 := ce _ _ _ hgu1 c3
            have k0 := ce _ _ _ hgu2 k0
            have k1 := ce _ _ _ hgu2 k1
            have k2 := ce _ _ _ hgu2 k2
            have k3 := ce _ _ _ hgu2 k3
            by_cases he : c = d
            · subst he
              have HTQ2 : Hid (cs.take (q + 1) = ds.take (q + 1)) := by show _ = _; rw [take_snoc hc0, take_snoc hd0, HTQ.out]
              clear hc0 hd0 ce
              go_wp2
              go_quiet (fail)
              have HBn : Hid (Below NC wc (wr.drewN nq)) := below_drewN' HBq.out nq
              clear c0 c1 c2 c3 k0 k1 k2 k3 a3 b3
              go_wp2
              go_roundg (CM - q)
              case measure => omega
              case rel => exact ⟨q + 1, by omega, by omega, by go_num, HTQ2, HBn⟩
            · have hne := neqCond he
              have HNN := Lib.hid (HNE.out (fun e => by injection e with _ _ _ e3; rw [e3, hd0] at hc0; exact he (Option.some.inj hc0).symm))
              clear hc0 hd0 ce
              go_wp2
              go_quiet (fail)
              have HBn : Hid (Below w.heap.size w (wr.drewN nq)) := HB1.out.trans ((HBc.out.trans ((below_drewN' HBq.out nq).mono hN2c)).mono (by omega))
              clear c0 c1 c2 c3 k0 k1 k2 k3 a3 b3
              go_wp2
              go_ret
              exact eq_no HNN.out HBn.out
          · obtain rfl : CM = q := by omega
            have hqz : ¬ (CM : Int) < (CM : Int) := by omega
            have HCE : Hid (cs = ds) := by
              have h := HTQ.out
              rwa [List.take_of_length_le (by rw [HCM.out]; exact Nat.le_refl _), List.take_of_length_le (by rw [HCL.out]; exact Nat.le_refl _)] at h
            have HTI := Lib.hid (HTT.out (by rw [HCE.out]))
            have HBn : Hid (Below N2 w2 wr) := HBc.out.trans (HBq.out.mono hN2c)
            go_wp2
            go_roundg (L - i)
            case measure => omega
            case rel => exact ⟨i + 1, by omega, by omega, by go_num, HTI, HBn⟩
    · obtain rfl : L = i := by omega
      have hltz : ¬ (L : Int) < (L : Int) := by omega
      have HEQ : Hid (rs = ss) := by
        have h := HT.out
        rwa [List.take_of_length_le (by rw [HLR.out]; exact Nat.le_refl _), List.take_of_length_le (by rw [HL.out]; exact Nat.le_refl _)] at h
      have HBz := Lib.hid (HB1.out.trans (HBr.out.mono (by omega)))
      go_wp2
      go_ret
      exact eq_yes HEQ.out HBz.out
end Go.Proofs.YtmjipkdejggbfaaGreatDoor
