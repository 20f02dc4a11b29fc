/- strainerlaw13.LexMore: the walk. -/
import Derived.Test.YtkgmbogmeppmcaaDoorLexMoreP
namespace Go.Proofs.YtkgmbogmeppmcaaDoor
open Go Go.Proofs Go.RowKit

theorem join_fit (v : Value) (ls : List Ln) (lo : Nat) (hf : Fit ls) (J : ByteArray) (hJ : (⟨(joinL ls).toArray⟩ : ByteArray) = J) (w : World) (h1 : LinesR 54 lo w v ls) :
    Calls Tryd.prog 26 #[v] w fun e w' => e = .returned (.string J) ∧ Below w.heap.size w w' := by
  rw [← hJ]
  exact join13_any v ls lo hf.1 hf.2.1 hf.2.2 w h1
theorem join_size {ls : List Ln} (hf : Fit ls) {J : ByteArray} (hJ : (⟨(joinL ls).toArray⟩ : ByteArray) = J) : J.size ≤ 1000000000000 := by
  rw [← hJ]
  show (joinL ls).toArray.size ≤ _
  rw [List.size_toArray]
  exact hf.2.2
theorem count_take_succ (s : ByteArray) (k : Nat) (h : k < s.size) : (s.data.toList.take (k + 1)).count 10 = (s.data.toList.take k).count 10 + if s[k]'h = 10 then 1 else 0 := by
  rw [List.take_succ_eq_append_getElem (by rw [size_list]; exact h), List.count_append, List.count_singleton]
  congr 1
  show (if (s[k]'h == 10) = true then 1 else 0) = _
  simp
theorem count_all (s : ByteArray) : (s.data.toList.take s.size).count 10 = s.data.toList.count 10 := by rw [List.take_of_length_le (by rw [size_list]; exact Nat.le_refl _)]
theorem count_take_le (s : ByteArray) (k : Nat) : (s.data.toList.take k).count 10 ≤ k := Nat.le_trans (List.count_le_length) (by rw [List.length_take]; omega)

set_option maxRecDepth 100000 in
set_option maxHeartbeats 4000000 in
theorem lexmore_law (t l : ByteArray) (w : World) : Calls Tryd.prog 9 #[.string t, .string l] w fun e w' => e = .returned (.bool true) ∧ Below w.heap.size w w' := by
  by_cases h1 : 1000 < t.size
  · have h1z : (1000 : Int) < (t.size : Int) := by omega
    go_enter Tryd.func9, Tryd.ntmps9
    go_wp2
    go_ret
    exact ⟨rfl, Below.refl _ _⟩
  have h1z : ¬ (1000 : Int) < (t.size : Int) := by omega
  by_cases h2 : 100 < l.size
  · have h2z : (100 : Int) < (l.size : Int) := by omega
    go_enter Tryd.func9, Tryd.ntmps9
    go_wp2
    go_ret
    exact ⟨rfl, Below.refl _ _⟩
  have h2z : ¬ (100 : Int) < (l.size : Int) := by omega
  go_enter Tryd.func9, Tryd.ntmps9
  go_wp2
  go_loopw [5] (fun iv wr => w = wr ∧ ∃ i : Nat, i ≤ l.size ∧ iv = .int .i64 i ∧ Hid (∀ j (h : j < l.size), j < i → l[j]'h ≠ 10)) (fun iv _ => l.size - (intOf iv).toNat)
  case atStart => exact ⟨rfl, 0, Nat.zero_le _, rfl, fun j _ hj => absurd hj (Nat.not_lt_zero _)⟩
  case round =>
    obtain ⟨rfl, i, hin, rfl, HA⟩ := hrel
    by_cases hlt : i < l.size
    · have hltz : (i : Int) < (l.size : Int) := by omega
      have i0 : (0 : Int) ≤ (i : Int) := by omega
      by_cases h10 : l[i]'hlt = 10
      · have q10 : ((((l[i]'hlt).toNat : Nat) : Int) == 10) = true := by rw [h10]; rfl
        clear h10
        go_wp2
        go_ret
        exact ⟨rfl, Below.refl _ _⟩
      · have q10 : ((((l[i]'hlt).toNat : Nat) : Int) == 10) = false := by rw [show (10 : Int) = ((10 : Nat) : Int) from rfl, byte_eq (by decide)]; simpa using h10
        have HA2 : Hid (∀ j (h : j < l.size), j < i + 1 → l[j]'h ≠ 10) := by
          intro j h hj
          by_cases e : j = i
          · subst e; exact h10
          · exact HA.out j h (by omega)
        clear h10
        go_wp2
        go_roundw
        case rel => exact ⟨trivial, i + 1, by omega, by go_num, HA2⟩
        case measure => simp [intOf]; omega
    · have hltz : ¬ (i : Int) < (l.size : Int) := by omega
      have hno : (10 : UInt8) ∉ l.data.toList := by
        intro hm
        obtain ⟨j, hj, hj2⟩ := List.mem_iff_getElem.1 hm
        rw [size_list] at hj
        exact HA.out j hj (by omega) hj2
      have hmc := more_cases t l (by omega) (by omega) hno
      have hfa := lexAns_fit (t := t) (by omega)
      have hfb := lexAns_fit (t := l) (by omega)
      have hcs : (t ++ ⟨#[10]⟩ ++ l).size ≤ 1200 := by rw [ByteArray.size_append, ByteArray.size_append, show (⟨#[10]⟩ : ByteArray).size = 1 from rfl]; omega
      have hfc := lexAns_fit (t := t ++ ⟨#[10]⟩ ++ l) (by omega)
      have hL1 := fun W => lexLines_any t W
      have hL2 := fun W => lexLines_any l W
      have hL3 := fun W => lexLines_any (t ++ ⟨#[10]⟩ ++ l) W
      obtain ⟨a, n, e, hA⟩ : ∃ a n e, lexAns t = (a, n, e) := ⟨_, _, _, rfl⟩
      obtain ⟨b, m, f, hB⟩ : ∃ a n e, lexAns l = (a, n, e) := ⟨_, _, _, rfl⟩
      obtain ⟨c, k, g, hC⟩ : ∃ a n e, lexAns (t ++ ⟨#[10]⟩ ++ l) = (a, n, e) := ⟨_, _, _, rfl⟩
      rw [hA] at hmc hL1 hfa
      rw [hB] at hmc hL2 hfb
      rw [hC] at hmc hL3 hfc
      dsimp only at hL1 hL2 hL3 hfa hfb hfc
      have HMC := Lib.hid hmc
      have HL1 := Lib.hid hL1
      have HL2 := Lib.hid hL2
      have HL3 := Lib.hid hL3
      have HFA := Lib.hid hfa
      have HFB := Lib.hid hfb
      have HFC := Lib.hid hfc
      obtain ⟨LA, hLA⟩ : ∃ L, a.length = L := ⟨_, rfl⟩
      obtain ⟨LB, hLB⟩ : ∃ L, b.length = L := ⟨_, rfl⟩
      obtain ⟨LC, hLC⟩ : ∃ L, c.length = L := ⟨_, rfl⟩
      have HLA := Lib.hid hLA
      have HLB := Lib.hid hLB
      have HLC := Lib.hid hLC
      have s1 : t.size + (⟨#[10]⟩ : ByteArray).size ≤ 1200 := by rw [show (⟨#[10]⟩ : ByteArray).size = 1 from rfl]; omega
      have s2 : (t ++ ⟨#[10]⟩ : ByteArray).size + l.size ≤ 1200 := by rw [ByteArray.size_append] at hcs; exact hcs
      clear hmc hfa hfb hfc hcs hL1 hL2 hL3 hA hB hC hno HA hLA hLB hLC
      go_wp2_with fail
      refine (HL1.out _).mono ?_
      rintro e1 w1 ⟨v1, rfl, hl1, hb1⟩
      obtain ⟨ad1, c1, rfl⟩ := hl1.slice
      rw [HLA.out] at hl1 ⊢
      have H1 := Lib.hid hl1
      have HB1 := Lib.hid hb1
      clear hl1 hb1 HL1
      go_wp2_with fail
      refine (HL2.out _).mono ?_
      rintro e2 w2 ⟨v2, rfl, hl2, hb2⟩
      obtain ⟨ad2, c2, rfl⟩ := hl2.slice
      rw [HLB.out] at hl2 ⊢
      have H1' := Lib.hid (H1.out.below hb2)
      have H2 := Lib.hid hl2
      have HB2 := Lib.hid (HB1.out.trans (hb2.mono HB1.out.size))
      clear hl2 hb2 HL2 H1
      go_wp2_with fail
      refine (HL3.out _).mono ?_
      rintro e3 w3 ⟨v3, rfl, hl3, hb3⟩
      obtain ⟨ad3, c3, rfl⟩ := hl3.slice
      rw [HLC.out] at hl3 ⊢
      have H1 := Lib.hid (H1'.out.below hb3)
      have H2' := Lib.hid (H2.out.below hb3)
      have H3 := Lib.hid hl3
      have HB3 := Lib.hid (HB2.out.trans (hb3.mono HB2.out.size))
      clear hl3 hb3 HL3 H1' H2 HB1 HB2
      go_wp2
      go_loopw [15, 16] (fun mv iv wr => w3 = wr ∧ ∃ i2 q : Nat, i2 ≤ t.size ∧ iv = .int .i64 i2 ∧ mv = .int .i64 q ∧ q ≤ i2 + 1 ∧ Hid (q = (t.data.toList.take i2).count 10 + 1)) (fun _ iv _ => t.size - (intOf iv).toNat)
      case atStart => exact ⟨rfl, 0, 1, Nat.zero_le _, rfl, rfl, Nat.le_refl _, rfl⟩
      case round =>
        obtain ⟨rfl, i2, q, hi2, rfl, rfl, hq, HQ⟩ := hrel
        by_cases hlt2 : i2 < t.size
        · have hlt2z : (i2 : Int) < (t.size : Int) := by omega
          have i20 : (0 : Int) ≤ (i2 : Int) := by omega
          have q0z : (0 : Int) ≤ (q : Int) := by omega
          have hct := count_take_succ t i2 hlt2
          by_cases h10 : t[i2]'hlt2 = 10
          · have q10 : ((((t[i2]'hlt2).toNat : Nat) : Int) == 10) = true := by rw [h10]; rfl
            rw [if_pos h10] at hct
            have HQ2 : Hid (q + 1 = (t.data.toList.take (i2 + 1)).count 10 + 1) := by show _ = _; rw [hct, HQ.out]
            clear hct h10
            go_wp2
            go_roundw
            case rel => exact ⟨trivial, i2 + 1, q + 1, by omega, by go_num, by go_num, by omega, HQ2⟩
            case measure => simp [intOf]; omega
          · have q10 : ((((t[i2]'hlt2).toNat : Nat) : Int) == 10) = false := by rw [show (10 : Int) = ((10 : Nat) : Int) from rfl, byte_eq (by decide)]; simpa using h10
            rw [if_neg h10, Nat.add_zero] at hct
            have HQ2 : Hid (q = (t.data.toList.take (i2 + 1)).count 10 + 1) := by show _ = _; rw [hct, HQ.out]
            clear hct h10
            go_wp2
            go_roundw
            case rel => exact ⟨trivial, i2 + 1, q, by omega, by go_num, rfl, by omega, HQ2⟩
            case measure => simp [intOf]; omega
        · have hlt2z : ¬ (i2 : Int) < (t.size : Int) := by omega
          obtain rfl : i2 = t.size := by omega
          rw [count_all] at HQ
          obtain ⟨cn, hcn⟩ : ∃ cn, t.data.toList.count 10 = cn := ⟨_, rfl⟩
          rw [hcn] at HQ HMC
          clear hcn
          obtain rfl : q = cn + 1 := HQ.out
          clear HQ
          rcases HMC.out with ⟨mm, hA, hC⟩ | ⟨a0, hA, hB, hC⟩ | ⟨a0, hA, hB, hC⟩ | ⟨a0, ws, hA, hB, hC⟩
          · simp only [Prod.mk.injEq] at hA hC
            obtain ⟨rfl, rfl, rfl⟩ := hA
            obtain ⟨rfl, rfl, rfl⟩ := hC
            obtain rfl : LC = 0 := HLC.out.symm
            clear HMC HLA HLB HLC H1 H2' H3 HFA HFB HFC
            go_wp2_with fail
            refine (awake13_any _).mono ?_
            rintro e4 w4 ⟨rfl, hb4⟩
            have HB4 := Lib.hid (HB3.out.trans (hb4.mono HB3.out.size))
            clear hb4
            go_wp2
            go_ret
            exact ⟨rfl, HB4.out⟩
          · simp only [Prod.mk.injEq] at hA hB hC
            obtain ⟨rfl, rfl, rfl⟩ := hA
            obtain ⟨rfl, rfl, rfl⟩ := hB
            obtain ⟨rfl, rfl, rfl⟩ := hC
            clear HMC HLA HLB HLC H1 H2' H3 HFA HFB HFC
            go_wp2_with fail
            refine (awake13_any _).mono ?_
            rintro e4 w4 ⟨rfl, hb4⟩
            have HB4 := Lib.hid (HB3.out.trans (hb4.mono HB3.out.size))
            clear hb4
            go_wp2
            go_ret
            exact ⟨rfl, HB4.out⟩
          · simp only [Prod.mk.injEq] at hA hB hC
            obtain ⟨ha1, rfl, rfl⟩ := hA
            obtain ⟨rfl, rfl, rfl⟩ := hB
            obtain ⟨hc1, rfl, rfl⟩ := hC
            subst ha1
            subst hc1
            obtain rfl : LB = 0 := HLB.out.symm
            obtain rfl : LA = LC := HLA.out.symm.trans HLC.out
            have hla : LA ≤ 5001 := by have := HFA.out.2; have := HLA.out; omega
            obtain ⟨JA, hJA⟩ : ∃ J, (⟨(joinL c).toArray⟩ : ByteArray) = J := ⟨_, rfl⟩
            obtain ⟨JB, hJB⟩ : ∃ J, (⟨(joinL []).toArray⟩ : ByteArray) = J := ⟨_, rfl⟩
            obtain ⟨JC, hJC⟩ : ∃ J, (⟨(joinL c).toArray⟩ : ByteArray) = J := ⟨_, rfl⟩
            have hab : JA ++ JB = JC := by
              rw [← hJA, ← hJB, ← hJC]
              apply ByteArray.ext
              apply Array.toList_inj.1
              rw [list_append]
              simp [joinL]
            have hsz : JA.size + JB.size ≤ 2000000000000 := by
              have h1 := join_size HFA.out.1 hJA
              have h2 := join_size HFB.out.1 hJB
              omega
            have HJA := Lib.hid hJA
            have HJB := Lib.hid hJB
            have HJC := Lib.hid hJC
            clear hJA hJB hJC HMC HLA HLB HLC
            go_wp2_with fail
            refine (join_fit _ _ _ HFC.out.1 JC HJC.out _ H3.out).mono ?_
            rintro e4 w4 ⟨rfl, hb4⟩
            have K1 := Lib.hid (H1.out.below hb4)
            have K2 := Lib.hid (H2'.out.below hb4)
            have K3 := Lib.hid (H3.out.below hb4)
            have HB4 := Lib.hid (HB3.out.trans (hb4.mono HB3.out.size))
            clear hb4 H1 H2' H3 HB3
            go_wp2_with fail
            refine (join_fit _ _ _ HFA.out.1 JA HJA.out _ K1.out).mono ?_
            rintro e5 w5 ⟨rfl, hb5⟩
            have M2 := Lib.hid (K2.out.below hb5)
            have M3 := Lib.hid (K3.out.below hb5)
            have HB5 := Lib.hid (HB4.out.trans (hb5.mono HB4.out.size))
            clear hb5 K1 K2 K3 HB4
            go_wp2_with fail
            refine (join_fit _ _ _ HFB.out.1 JB HJB.out _ M2.out).mono ?_
            rintro e6 w6 ⟨rfl, hb6⟩
            have N3 := Lib.hid (M3.out.below hb6)
            have HB3 := Lib.hid (HB5.out.trans (hb6.mono HB5.out.size))
            clear hb6 M2 M3 HB5
            go_wp2_with fail
            refine (awake13_any _).mono ?_
            rintro e4 w4 ⟨rfl, hb4⟩
            have HB4 := Lib.hid (HB3.out.trans (hb4.mono HB3.out.size))
            clear hb4
            go_wp2
            go_ret
            exact ⟨rfl, HB4.out⟩
          · simp only [Prod.mk.injEq] at hA hB hC
            obtain ⟨ha1, rfl, rfl⟩ := hA
            obtain ⟨rfl, rfl, rfl⟩ := hB
            obtain ⟨hc1, rfl, rfl⟩ := hC
            obtain rfl : a = a0 := ha1
            subst hc1
            obtain rfl : LB = 1 := HLB.out.symm
            obtain rfl : LC = LA + 1 := by
              have h1 := HLA.out
              have h2 := HLC.out
              rw [List.length_append, List.length_singleton, h1] at h2
              exact h2.symm
            have hla : LA ≤ 5001 := by have := HFA.out.2; have := HLA.out; omega
            obtain ⟨JA, hJA⟩ : ∃ J, (⟨(joinL a).toArray⟩ : ByteArray) = J := ⟨_, rfl⟩
            obtain ⟨JB, hJB⟩ : ∃ J, (⟨(joinL [(1, ws)]).toArray⟩ : ByteArray) = J := ⟨_, rfl⟩
            obtain ⟨JC, hJC⟩ : ∃ J, (⟨(joinL (a ++ [(cn + 2, ws)])).toArray⟩ : ByteArray) = J := ⟨_, rfl⟩
            have hab : JA ++ JB = JC := by
              rw [← hJA, ← hJB, ← hJC]
              apply ByteArray.ext
              apply Array.toList_inj.1
              rw [list_append, joinL_append, joinL_one (cn + 2) 1 ws]
            have hsz : JA.size + JB.size ≤ 2000000000000 := by
              have h1 := join_size HFA.out.1 hJA
              have h2 := join_size HFB.out.1 hJB
              omega
            have HJA := Lib.hid hJA
            have HJB := Lib.hid hJB
            have HJC := Lib.hid hJC
            have hlast : (a ++ [(cn + 2, ws)])[LA]? = some (cn + 2, ws) := by
              rw [← HLA.out, List.getElem?_append_right (Nat.le_refl _), Nat.sub_self]
              rfl
            have HLAST := Lib.hid hlast
            clear hJA hJB hJC HMC HLA HLB HLC hlast
            go_wp2_with fail
            refine (join_fit _ _ _ HFC.out.1 JC HJC.out _ H3.out).mono ?_
            rintro e4 w4 ⟨rfl, hb4⟩
            have K1 := Lib.hid (H1.out.below hb4)
            have K2 := Lib.hid (H2'.out.below hb4)
            have K3 := Lib.hid (H3.out.below hb4)
            have HB4 := Lib.hid (HB3.out.trans (hb4.mono HB3.out.size))
            clear hb4 H1 H2' H3 HB3
            go_wp2_with fail
            refine (join_fit _ _ _ HFA.out.1 JA HJA.out _ K1.out).mono ?_
            rintro e5 w5 ⟨rfl, hb5⟩
            have M2 := Lib.hid (K2.out.below hb5)
            have M3 := Lib.hid (K3.out.below hb5)
            have HB5 := Lib.hid (HB4.out.trans (hb5.mono HB4.out.size))
            clear hb5 K1 K2 K3 HB4
            go_wp2_with fail
            refine (join_fit _ _ _ HFB.out.1 JB HJB.out _ M2.out).mono ?_
            rintro e6 w6 ⟨rfl, hb6⟩
            have N3 := Lib.hid (M3.out.below hb6)
            have HB3 := Lib.hid (HB5.out.trans (hb6.mono HB5.out.size))
            clear hb6 M2 M3 HB5
            obtain ⟨g3, ua, uc, rfl, d1, _, _, _, _⟩ := lines_at N3.out HLAST.out
            dsimp only at d1
            go_wp2_with fail
            refine (awake13_any _).mono ?_
            rintro e4 w4 ⟨rfl, hb4⟩
            have HB4 := Lib.hid (HB3.out.trans (hb4.mono HB3.out.size))
            clear hb4
            go_wp2
            go_ret
            exact ⟨rfl, HB4.out⟩
end Go.Proofs.YtkgmbogmeppmcaaDoor
