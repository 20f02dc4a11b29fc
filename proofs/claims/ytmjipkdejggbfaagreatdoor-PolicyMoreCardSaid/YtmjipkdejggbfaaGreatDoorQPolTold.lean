/- strainerlaw14.told of the same policy. -/
import Derived.Test.YtmjipkdejggbfaaGreatDoorQPolOf
namespace Go.Proofs.YtmjipkdejggbfaaGreatDoor
open Go Go.Proofs Go.RowKit

theorem RulesR.up {tr tc lo : Nat} {W : World} {v : Value} {rs : List PRule} (h : RulesR tr tc lo W v rs) (o : Obj) : RulesR tr tc lo (W.alloc o) v rs := h.below ((Below.refl _ W).alloc (Nat.le_refl _) o)
set_option maxRecDepth 100000 in
set_option maxHeartbeats 8000000 in
theorem told14_same {k n : Int} {x : Bool} {rs : List PRule} {v1 v2 : Value} {lo1 lo2 : Nat} (h500 : rs.length ≤ 500) (hcd : ∀ r ∈ rs, r.conds.length ≤ 1000000) (w : World) (h1 : RulesR TRl TCd lo1 w v1 rs) (h2 : RulesR TRr TCr lo2 w v2 rs) :
    Calls Tryz.prog 11 #[PolV k n x v1, PolV k n x v2] w fun e w' => e = .returned (.bool true) ∧ Below w.heap.size w w' := by
  have hof := fun W hR => of_any (k := k) (n := n) (x := x) (rs := rs) (vr := v2) (lo := lo2) h500 hcd W hR
  obtain ⟨a1, c1, rfl⟩ := h1.slice
  obtain ⟨a2, c2, rfl⟩ := h2.slice
  unfold PolV at *
  obtain ⟨L, hL⟩ : ∃ L, rs.length = L := ⟨_, rfl⟩
  have HOF := Lib.hid hof
  rw [hL] at h1 h2 h500 HOF ⊢
  have HL := Lib.hid hL
  have HCD := Lib.hid hcd
  have H1 := Lib.hid h1
  have HP := Lib.hid ((Blk.new w TPl #[.int .i64 k, .int .i64 n, .bool x, .slice a1 L c1]).alloc (.cells #[.int .i64 k, .int .i64 n, .bool x, .slice a2 L c2] TPr))
  have H2 := Lib.hid ((h2.up (.cells #[.int .i64 k, .int .i64 n, .bool x, .slice a1 L c1] TPl)).up (.cells #[.int .i64 k, .int .i64 n, .bool x, .slice a2 L c2] TPr))
  have HB := Lib.hid (((Below.refl w.heap.size w).alloc (Nat.le_refl _) (.cells #[.int .i64 k, .int .i64 n, .bool x, .slice a1 L c1] TPl)).alloc (by simp) (.cells #[.int .i64 k, .int .i64 n, .bool x, .slice a2 L c2] TPr))
  clear hL h1 h2 hcd hof
  go_enter Tryz.func11, Tryz.ntmps11
  go_wp2_with fail
  refine (HOF.out _ H2.out).mono ?_
  rintro e w1 ⟨vo, rfl, hro, hb⟩
  obtain ⟨ao, co, rfl⟩ := hro.slice
  have HLs := HL.out
  rw [HLs] at hro
  have HP1 : Hid (Blk (w1.alloc (.cells #[.int .i64 k, .int .i64 n, .bool x, .slice ao L co] TPl)) w.heap.size TPl #[.int .i64 k, .int .i64 n, .bool x, .slice a1 L c1]) := Blk.alloc (blkHP HP hb).out _
  have HX1 : Hid (Blk (w1.alloc (.cells #[.int .i64 k, .int .i64 n, .bool x, .slice ao L co] TPl)) w1.heap.size TPl #[.int .i64 k, .int .i64 n, .bool x, .slice ao L co]) := Blk.new w1 _ _
  have HB1 : Hid (Below w.heap.size w (w1.alloc (.cells #[.int .i64 k, .int .i64 n, .bool x, .slice ao L co] TPl))) := (belP HB hb).out.alloc (belP HB hb).out.size _
  have HRo : Hid (RulesR TRl TCd lo1 (w1.alloc (.cells #[.int .i64 k, .int .i64 n, .bool x, .slice ao L co] TPl)) (.slice a1 L c1) rs) := H1.out.below (HB1.out)
  have HR2 := Lib.hid (hro.up (.cells #[.int .i64 k, .int .i64 n, .bool x, .slice ao L co] TPl))
  clear hb hro HP HB H1 H2 HOF
  rw [HLs]
  clear HLs
  go_upto_region 2 with fail
  generalize w1.alloc (.cells #[.int .i64 k, .int .i64 n, .bool x, .slice ao L co] TPl) = w2 at *
  generalize w1.heap.size = XB at *
  have p0 := HP1.out.cell 0
  have p1 := HP1.out.cell 1
  have p2 := HP1.out.cell 2
  have p3 := HP1.out.cell 3
  have x0 := HX1.out.cell 0
  have x1 := HX1.out.cell 1
  have x2 := HX1.out.cell 2
  have x3 := HX1.out.cell 3
  simp only [List.getElem?_toArray, List.getElem?_cons_zero, List.getElem?_cons_succ] at p0 p1 p2 p3 x0 x1 x2 x3
  go_upto_region 5 with fail
  clear p0 p1 p2 p3 x0 x1 x2 x3
  generalize hN2 : w2.heap.size = N2 at *
  have HN2 := Lib.hid hN2
  go_loopg [6] (L + 1) (fun gg iv wr => ∃ i : Nat, i ≤ L ∧ L - i < gg ∧ iv = .int .i64 (i : Int) ∧ Hid (Below N2 w2 wr))
  case atStart => exact ⟨0, Nat.zero_le _, by omega, rfl, Below.refl _ _⟩
  case round =>
    obtain ⟨i, hiL, hgg, rfl, HBr⟩ := hrel
    have i0 : (0 : Int) ≤ (i : Int) := by omega
    have hPl : w.heap.size < N2 := by rw [← hN2]; exact Blk.lt HP1.out
    have hXl : XB < N2 := by rw [← hN2]; exact Blk.lt HX1.out
    have hNr : N2 ≤ wr.heap.size := by rw [← hN2]; exact HBr.out.size
    have p3 := (HP1.out.below HBr.out hPl).cell 3
    have x3 := (HX1.out.below HBr.out hXl).cell 3
    simp only [List.getElem?_toArray, List.getElem?_cons_zero, List.getElem?_cons_succ] at p3 x3
    by_cases hlt : i < L
    · have hltz : (i : Int) < (L : Int) := by omega
      obtain ⟨⟨nm, rk, rn, cs⟩, hr0⟩ : ∃ r, rs[i]? = some r := ⟨_, List.getElem?_eq_getElem (by rw [HL.out]; exact hlt)⟩
      obtain ⟨g1, ua1, uc1, rfl, hg1, e0, e1, e2, e3, hCA1⟩ := rules_at HRo.out hr0
      obtain ⟨g2, ua2, uc2, rfl, hg2, f0, f1, f2, f3, hCA2⟩ := rules_at HR2.out hr0
      dsimp only at e0 e1 e2 e3 hCA1 f0 f1 f2 f3 hCA2
      rw [hN2] at hg1 hg2 hCA1 hCA2
      have hCl : cs.length ≤ 1000000 := HCD.out _ (List.mem_of_getElem? hr0)
      generalize hCL : cs.length = CL at *
      have HCL := Lib.hid hCL
      have ce : ∀ g j v, g < N2 → w2.cell? ⟨g, j, none⟩ = some v → wr.cell? ⟨g, j, none⟩ = some v := fun g j v hg hv => (HBr.out.cell (p := ⟨g, j, none⟩) hg).trans hv
      have e0 := ce _ _ _ hg1 e0
      have e1 := ce _ _ _ hg1 e1
      have e2 := ce _ _ _ hg1 e2
      have e3 := ce _ _ _ hg1 e3
      have f0 := ce _ _ _ hg2 f0
      have f1 := ce _ _ _ hg2 f1
      have f2 := ce _ _ _ hg2 f2
      have f3 := ce _ _ _ hg2 f3
      have HCA1 := Lib.hid hCA1
      have HCA2 := Lib.hid hCA2
      have hl1 : g1 < wr.heap.size := by omega
      have hl2 : g2 < wr.heap.size := by omega
      have hl3 : w.heap.size < wr.heap.size := by omega
      have hl4 : XB < wr.heap.size := by omega
      clear hr0 ce hCL hCA1 hCA2
      go_upto_region 7 with fail
      go_cut [7, 8] (fun va vb wx => ∃ A B, va = .pointer (some ⟨A, 0, none⟩) ∧ vb = .pointer (some ⟨B, 0, none⟩) ∧ Blk wx A TRl #[.string nm, .int .i64 rk, .int .i64 rn, .slice ua1 CL uc1] ∧ Blk wx B TRl #[.string nm, .int .i64 rk, .int .i64 rn, .slice ua2 CL uc2] ∧ Below N2 w2 wx)
      case first =>
        go_region
        · go_wp2
          go_meet
          refine ⟨wr.heap.size, wr.heap.size + 1, rfl, rfl, ?_, ?_, ((HBr.out.alloc hNr _).alloc (by simp; omega) _).drew⟩
          · exact Blk.alloc (Blk.new wr TRl #[.string nm, .int .i64 rk, .int .i64 rn, .slice ua1 CL uc1]) _
          · have h := Blk.new (wr.alloc (.cells #[.string nm, .int .i64 rk, .int .i64 rn, .slice ua1 CL uc1] TRl)) TRl #[.string nm, .int .i64 rk, .int .i64 rn, .slice ua2 CL uc2]
            simp only [World.size_alloc] at h
            exact h
        · go_wp2
          go_meet
          refine ⟨wr.heap.size + 1, wr.heap.size, rfl, rfl, ?_, ?_, ((HBr.out.alloc hNr _).alloc (by simp; omega) _).drew⟩
          · have h := Blk.new (wr.alloc (.cells #[.string nm, .int .i64 rk, .int .i64 rn, .slice ua2 CL uc2] TRl)) TRl #[.string nm, .int .i64 rk, .int .i64 rn, .slice ua1 CL uc1]
            simp only [World.size_alloc] at h
            exact h
          · exact Blk.alloc (Blk.new wr TRl #[.string nm, .int .i64 rk, .int .i64 rn, .slice ua2 CL uc2]) _
      case rest =>
        obtain ⟨A, B, rfl, rfl, hA, hB, hbc⟩ := hcut
        have HA := Lib.hid hA
        have HBk := Lib.hid hB
        have HBc := Lib.hid hbc
        have hAl := hA.lt
        have hBl := hB.lt
        clear hA hB hbc e0 e1 e2 e3 f0 f1 f2 f3 p3 x3 HBr
        have a0 := HA.out.cell 0
        have a1 := HA.out.cell 1
        have a2 := HA.out.cell 2
        have a3 := HA.out.cell 3
        have b0 := HBk.out.cell 0
        have b1 := HBk.out.cell 1
        have b2 := HBk.out.cell 2
        have b3 := HBk.out.cell 3
        simp only [List.getElem?_toArray, List.getElem?_cons_zero, List.getElem?_cons_succ] at a0 a1 a2 a3 b0 b1 b2 b3
        go_upto_region 11 with fail
        clear a0 a1 a2 a3 b0 b1 b2 b3
        generalize hNC : wc.heap.size = NC at *
        generalize wr.heap.size = NR at *
        go_loopg [9] (CL + 1) (fun gg2 kv wq => ∃ q : Nat, q ≤ CL ∧ CL - q < gg2 ∧ kv = .int .i64 (q : Int) ∧ Hid (Below NC wc wq))
        case atStart => exact ⟨0, Nat.zero_le _, by omega, rfl, Below.refl _ _⟩
        case round =>
          obtain ⟨q, hqL, hgg2, rfl, HBq⟩ := hrel
          have q0 : (0 : Int) ≤ (q : Int) := by omega
          have a3 := (HA.out.below HBq.out hAl).cell 3
          have b3 := (HBk.out.below HBq.out hBl).cell 3
          simp only [List.getElem?_toArray, List.getElem?_cons_zero, List.getElem?_cons_succ] at a3 b3
          have hN2c : N2 ≤ NC := by rw [← hNC, ← hN2]; exact HBc.out.size
          by_cases hq : q < CL
          · have hqz : (q : Int) < (CL : Int) := by omega
            obtain ⟨⟨CA, CO, CM, CV⟩, hc0⟩ : ∃ c, cs[q]? = some c := ⟨_, List.getElem?_eq_getElem (by rw [HCL.out]; exact hq)⟩
            obtain ⟨gu1, rfl, hgu1, c0, c1, c2, c3⟩ := HCA1.out q _ hc0
            obtain ⟨gu2, rfl, hgu2, k0, k1, k2, k3⟩ := HCA2.out q _ hc0
            dsimp only at c0 c1 c2 c3 k0 k1 k2 k3
            have ce : ∀ g j v, g < N2 → w2.cell? ⟨g, j, none⟩ = some v → wr.cell? ⟨g, j, none⟩ = some v := fun g j v hg hv => (HBq.out.cell (p := ⟨g, j, none⟩) (by show g < NC; omega)).trans ((HBc.out.cell (p := ⟨g, j, none⟩) hg).trans hv)
            have c0 := ce _ _ _ hgu1 c0
            have c1 := ce _ _ _ hgu1 c1
            have c2 := ce _ _ _ hgu1 c2
            have c3 := ce _ _ _ hgu1 c3
            have k0 := ce _ _ _ hgu2 k0
            have k1 := ce _ _ _ hgu2 k1
            have k2 := ce _ _ _ hgu2 k2
            have k3 := ce _ _ _ hgu2 k3
            clear hc0 ce
            go_wp2
            go_quiet (fail)
            have HBn : Hid (Below NC wc (wr.drewN nq)) := below_drewN' HBq.out nq
            clear c0 c1 c2 c3 k0 k1 k2 k3 a3 b3
            go_wp2
            go_roundg (CL - q)
            case measure => omega
            case rel => exact ⟨q + 1, by omega, by omega, by go_num, HBn⟩
          · obtain rfl : CL = q := by omega
            have hqz : ¬ (CL : Int) < (CL : Int) := by omega
            have HBn : Hid (Below N2 w2 wr) := HBc.out.trans (HBq.out.mono hN2c)
            go_wp2
            go_roundg (L - i)
            case measure => omega
            case rel => exact ⟨i + 1, by omega, by omega, by go_num, HBn⟩
    · obtain rfl : L = i := by omega
      have hltz : ¬ (L : Int) < (L : Int) := by omega
      go_wp2
      go_ret
      exact ⟨rfl, HB1.out.trans (HBr.out.mono (by omega))⟩
end Go.Proofs.YtmjipkdejggbfaaGreatDoor
