/- strainerlaw11.SystabLess: the walk (under way). -/
import Derived.Test.YtakmbmlpgmppiaaDoorSysApp
import Derived.Deep.RegionHeld3
import Derived.Test.YtakmbmlpgmppiaaDoorSysBackW
namespace Go.Proofs.YtakmbmlpgmppiaaDoor
open Go Go.Proofs Go.RowKit

set_option maxRecDepth 100000 in
set_option maxHeartbeats 1000000 in
theorem less_any (a : Int) (ha0 : 0 ≤ a) (ha1 : a ≤ 255) (sv : Value) (l : List SRow) (w : World) (hR : RowsV w sv l) :
    Calls Tryd.prog 5 #[sv, .int .u8 a] w fun e w' => e = .returned (.bool true) ∧ Below w.heap.size w w' := by
  have hlight := light_any sv l w hR
  obtain ⟨ad0, cp0, hsv, _⟩ := id hR
  obtain ⟨n, hn⟩ : ∃ n, l.length = n := ⟨_, rfl⟩
  rw [hn] at hsv
  subst hsv
  have HR := Lib.hid hR
  have HLt := Lib.hid hlight
  have HN := Lib.hid hn
  clear hR hlight hn
  go_enter Tryd.func5, Tryd.ntmps5
  go_wp2_with fail
  refine HLt.out.mono ?_
  rintro e w1 ⟨rfl, m1, rfl⟩
  clear HLt
  cases hl : lightB l with
  | false =>
    clear hl
    go_wp2
    go_ret
    exact ⟨rfl, bdnR (Below.refl _ w) _⟩
  | true =>
    have HL := Lib.hid (light_facts hl)
    clear hl
    by_cases hn0 : n = 0
    · subst hn0
      go_wp2
      go_ret
      exact ⟨rfl, bdnR (Below.refl _ w) _⟩
    have hn1 : decide ((n : Int) = 0) = false := decide_eq_false (by omega)
    have hn2 : ¬ (n : Int) = 0 := by omega
    have hn3 : ¬ (n : Int) == 0 := by simpa using hn0
    have HB1 := Lib.hid (bdnR (Below.refl w.heap.size w) m1)
    generalize w.drewN m1 = W1 at *
    have Hof := Lib.hid (of_any (.slice ad0 n cp0) l W1 (by have := HL.out.1; omega) (HR.out.below HB1.out))
    go_wp2_with fail
    refine Hof.out.mono ?_
    rintro e w3 ⟨xv, rfl, hown, hb3⟩
    clear Hof
    have hx0 := (rowsV_owned hown).1
    obtain ⟨g, cp, cur, rfl, _, _, hcp, hcpm, _, _⟩ := hown.2.resolve_left (fun h => hn0 (by rw [← HN.out]; exact h.2))
    rw [HN.out] at hx0 hcp ⊢
    have HX := Lib.hid hx0
    have hcpz : (n : Int) ≤ (cp : Int) := by omega
    clear hx0
    have HB3 := Lib.hid (HB1.out.trans (hb3.mono HB1.out.size))
    clear hown hb3 HB1 HR
    have Hright := Lib.hid (right_any (.slice (some ⟨g, 0, none⟩) n cp) l w3 (by have := HL.out.1; omega) HX.out (fun r hr => by have := HL.out.2 r hr; omega))
    go_wp2_with fail
    refine Hright.out.mono ?_
    rintro e W5 ⟨x, v, rfl, hs, hb4⟩
    clear Hright
    have HS := Lib.hid hs
    have HB5 := Lib.hid (HB3.out.trans (hb4.mono HB3.out.size))
    have HXX := Lib.hid (HX.out.below hb4)
    clear hs hb4 HB3 HX
    by_cases hv : v = 0
    case neg =>
      have hv' : (v != 0) = true := by simpa using hv
      clear hv
      go_wp2_with (go_at_call 13; refine (awake_any _).mono ?_; rintro e wa ⟨rfl, hba⟩)
      go_ret
      exact ⟨rfl, HB5.out.trans (hba.mono HB5.out.size)⟩
    subst hv
    have HT : Hid (TableOk l) := by
      rcases HS.out with h | ⟨_, ⟨i, _, _, h, _⟩ | ⟨_, _, h⟩⟩
      · omega
      · exact absurd rfl h
      · exact h
    clear HS
    obtain ⟨ad, cp', hxe, hx⟩ := HXX.out
    simp only [Value.slice.injEq] at hxe
    obtain ⟨rfl, hq, rfl⟩ := hxe
    clear hq
    rcases hx with hnil | ⟨b, off, hbe, hlt2, hrw⟩
    · exact absurd (by rw [← HN.out, hnil]; rfl) hn0
    simp only [Option.some.injEq, Addr.mk.injEq, and_true] at hbe
    obtain ⟨rfl, rfl⟩ := hbe
    have h40 : n ≤ 40 := by rw [← HN.out]; exact HL.out.1
    have HRW := Lib.hid hrw
    clear hrw hn1 hn3
    obtain ⟨k, hk⟩ : ∃ k : Nat, a % (n : Int) = (k : Int) := ⟨(a % n).toNat, by have := Int.emod_nonneg a (show (n : Int) ≠ 0 by omega); omega⟩
    have hkn : k < n := by have := Int.emod_lt_of_pos a (show (0 : Int) < (n : Int) by omega); omega
    have hkt : a.tmod (n : Int) = (k : Int) := by rw [Int.tmod_eq_emod_of_nonneg ha0, hk]
    have HK := Lib.hid hk
    clear hk
    go_upto_region 8 with fail
    have hk0 : (0 : Int) ≤ (k : Int) := by omega
    have hkn1 : (k : Int) ≤ (cp : Int) := by omega
    have hk1 : IntKind.i64.wrap ((k : Int) + 1) = (k : Int) + 1 := IntWalk.i64_in _ (by omega)
    have hk2 : (0 : Int) ≤ (k : Int) + 1 := by omega
    have hkn2 : (k : Int) + 1 ≤ (n : Int) := by omega
    have hkn3 : (k : Int) + 1 ≤ (cp : Int) := by omega
    have hst := fun W => slice_take W g n cp k (by omega)
    obtain ⟨o, hsd, ho⟩ := slice_drop g n cp k hkn (by omega)
    have Ho := Lib.hid ho
    clear ho
    have hc0 : ¬ cp = 0 := by omega
    have htn : ((k : Int) + 1).toNat = k + 1 := by omega
    by_cases hcc : cp = k + 1
    case neg =>
      have hcd : ¬ cp - (k + 1) = 0 := by omega
      have hz8 := size8
      clear hst hsd
      obtain ⟨i0, hi, hz0, hz1, hz2⟩ := info_parts infoRow
      have hl8 : (flat (l.take k)).length = k * 8 := by rw [flat_len]; simp; have := HN.out; omega
      have hl9 : (flat (l.drop (k + 1))).length = (n - (k + 1)) * 8 := by rw [flat_len]; simp; have := HN.out; omega
      have hr1 := rows_take HRW.out k (by have := HN.out; omega)
      have Hr1 := Lib.hid hr1
      clear hr1
      have hlt5 := hlt2
      go_region_held3 (fun _ => True) (trivial) (first
        | (refine step_append_at _ rfl _ _ 27 rfl W5.heap.size 36 i0 _ 8 72 Tryd.underlying27 hi hz0 hz1 hz2 rfl (by decide) _ 0 [] rfl (own_none W5 W5.heap.size _ 8 (Nat.le_refl _)).drew ⟨g, 0, none⟩ k cp (flat (l.take k)) rfl hl8 (flat_at (Hr1.out.below ((Below.refl _ W5).alloc (Nat.le_refl _) (.cells #[] 36)).drew hlt5)) (flat_one _) (by unfold maxLen; omega) (by omega) (by simp) ?_; intro v1 w6 hown1 hgrow1)
        | (have hb6 := (((Below.refl W5.heap.size W5).alloc (Nat.le_refl _) (.cells #[] 36)).drew).grown hgrow1 (by simp) (fun q hq => ((own_none W5 W5.heap.size 36 8 (Nat.le_refl _)).lt q hq).1); refine step_append_at _ rfl _ _ 27 rfl W5.heap.size 36 i0 _ 8 72 Tryd.underlying27 hi hz0 hz1 hz2 rfl (by decide) v1 (0 + k) ([] ++ flat (l.take k)) rfl hown1 _ _ _ (flat (l.drop (k + 1))) rfl hl9 (by have := flat_at (rows_drop (HRW.out.below hb6 hlt5) (k + 1)); simpa using this) (flat_one _) (by unfold maxLen; omega) (by omega) (by have := hb6.size; omega) ?_; intro v2 w7 hown2 hgrow2))
      have hb7 := hb6.grown hgrow2 hb6.size (fun q hq => (hown1.lt q hq).1)
      have hlen : (lessL l k).length = 0 + k + (n - (k + 1)) := by rw [lessL_len (by rw [HN.out]; exact hkn), HN.out]; omega
      have hown3 : w7.ownsRow W5.heap.size 36 8 v2 (lessL l k).length (flat (lessL l k)) := by
        have h := hown2
        rw [List.nil_append, ← flat_app] at h
        rw [hlen]
        exact h
      have HL7 := Lib.hid (rowsV_owned hown3).1
      have HB7 := Lib.hid (HB5.out.trans (hb7.mono HB5.out.size))
      have HR7 := Lib.hid (HRW.out.below hb7 hlt5)
      have hsz7 := hb7.size
      clear hown1 hgrow1 hb6 hb7 hown2 hgrow2 hown3 HRW hlen
      have hk' : k < l.length := by rw [HN.out]; exact hkn
      have HTL := Lib.hid (lessL_ok HT.out hk')
      have hl40 : (lessL l k).length ≤ 40 := by rw [lessL_len hk']; have := HL.out.1; omega
      have Hri := Lib.hid (right_any v2 (lessL l k) w7 (by omega) HL7.out (fun r hr => by
        have := HL.out.2 r ((List.mem_append.1 hr).elim List.mem_of_mem_take List.mem_of_mem_drop)
        omega))
      have HK7 := Lib.hid hk'
      have HL40 := Lib.hid hl40
      clear hk' hl40
      go_wp2_with fail
      refine Hri.out.mono ?_
      rintro e w8 ⟨x, v, rfl, hs, hb8⟩
      obtain ⟨rfl, rfl⟩ := RightSaid.one hs (.inr ⟨by have := HL40.out; omega, .inr ⟨rfl, rfl, HTL.out⟩⟩)
      clear Hri hs
      have hg7 := HL7.out.below hb8
      have hfind := find_ok (l[k]!).name v2 (lessL l k) w8 (by have := HL40.out; omega) hg7 HTL.out
      unfold findAns at hfind
      rw [lessL_miss HT.out HK7.out, if_pos (by decide), show SRow.zero.val = .agg #[.string ⟨#[]⟩, .int .i64 0, .int .i64 0, .int .i64 0, .int .i64 0, .int .i64 0, .int .i64 0, .int .i64 0] from rfl] at hfind
      have hlt7 : g < w7.heap.size := Nat.lt_of_lt_of_le hlt5 hsz7
      have c0 := (HR7.out.below hb8 hlt7) k HK7.out 0 _ rfl
      simp only [Nat.zero_add, Nat.add_zero] at c0
      have Hfind := Lib.hid hfind
      have HB8 := Lib.hid (HB7.out.trans (hb8.mono HB7.out.size))
      clear hg7 hfind HL7 HB7 hb8 HR7 hlt7
      generalize (l[k]!).name = nm at *
      go_wp2_with fail
      refine Hfind.out.mono ?_
      rintro e w9 ⟨rfl, hb9⟩
      clear Hfind
      have HB9 := Lib.hid ((HB8.out.trans (hb9.mono HB8.out.size)).alloc (Nat.le_trans HB8.out.size hb9.size) (.cells #[.string ⟨#[]⟩, .int .i64 0, .int .i64 0, .int .i64 0, .int .i64 0, .int .i64 0, .int .i64 0, .int .i64 0] 36))
      clear hb9
      go_wp2_with (go_at_call 13; refine (awake_any _).mono ?_; rintro e wa ⟨rfl, hba⟩)
      go_ret
      exact ⟨rfl, HB9.out.trans (hba.mono HB9.out.size)⟩
    have hnd := Lib.hid (show n - (k + 1) = 0 by omega)
    have hcd : (cp - (k + 1) = 0) = True := eq_true (by omega)
    have hnk : n ≤ k + 1 := by omega
    have hcc1 : (cp = k + 1) = True := eq_true hcc
    clear hcc
    have hnil : flat (l.drop (k + 1)) = [] := by rw [List.drop_eq_nil_of_le (by rw [HN.out]; exact hnk)]; rfl
    have hl90 : (flat (l.drop (k + 1))).length = 0 * 8 := by rw [hnil]; rfl
    have hl91 : (flat (l.drop (k + 1))).length = (n - (k + 1)) * 8 := by rw [hnil, hnd.out]; rfl
    have hz8 := size8
    clear hst hsd
    obtain ⟨i0, hi, hz0, hz1, hz2⟩ := info_parts infoRow
    have hl8 : (flat (l.take k)).length = k * 8 := by rw [flat_len]; simp; have := HN.out; omega
    have hr1 := rows_take HRW.out k (by have := HN.out; omega)
    have Hr1 := Lib.hid hr1
    clear hr1
    have hlt5 := hlt2
    go_region_held3 (fun _ => True) (trivial) (first
      | (refine step_append_at _ rfl _ _ 27 rfl W5.heap.size 36 i0 _ 8 72 Tryd.underlying27 hi hz0 hz1 hz2 rfl (by decide) _ 0 [] rfl (own_none W5 W5.heap.size _ 8 (Nat.le_refl _)).drew ⟨g, 0, none⟩ k cp (flat (l.take k)) rfl hl8 (flat_at (Hr1.out.below ((Below.refl _ W5).alloc (Nat.le_refl _) (.cells #[] 36)).drew hlt5)) (flat_one _) (by unfold maxLen; omega) (by omega) (by simp) ?_; intro v1 w6 hown1 hgrow1)
      | (have hb6 := (((Below.refl W5.heap.size W5).alloc (Nat.le_refl _) (.cells #[] 36)).drew).grown hgrow1 (by simp) (fun q hq => ((own_none W5 W5.heap.size 36 8 (Nat.le_refl _)).lt q hq).1); refine step_append_at _ rfl _ _ 27 rfl W5.heap.size 36 i0 _ 8 72 Tryd.underlying27 hi hz0 hz1 hz2 rfl (by decide) v1 (0 + k) ([] ++ flat (l.take k)) rfl hown1 _ _ _ (flat (l.drop (k + 1))) rfl (by first | exact hl90 | exact hl91) (by intro j u hj; rw [hnil] at hj; cases hj) (flat_one _) (by unfold maxLen; omega) (by omega) (by have := hb6.size; omega) ?_; intro v2 w7 hown2 hgrow2))
    have hb7 := hb6.grown hgrow2 hb6.size (fun q hq => (hown1.lt q hq).1)
    have hlen : (lessL l k).length = k := by rw [lessL_len (by rw [HN.out]; exact hkn), HN.out]; omega
    have hown3 : w7.ownsRow W5.heap.size 36 8 v2 (lessL l k).length (flat (lessL l k)) := by
      have h := hown2
      rw [List.nil_append, ← flat_app] at h
      rw [hlen]
      unfold lessL
      simpa only [Nat.zero_add, Nat.add_zero, hnd.out] using h
    have HL7 := Lib.hid (rowsV_owned hown3).1
    have HB7 := Lib.hid (HB5.out.trans (hb7.mono HB5.out.size))
    have HR7 := Lib.hid (HRW.out.below hb7 hlt5)
    have hsz7 := hb7.size
    clear hown1 hgrow1 hb6 hb7 hown2 hgrow2 hown3 HRW hlen
    have hk' : k < l.length := by rw [HN.out]; exact hkn
    have HTL := Lib.hid (lessL_ok HT.out hk')
    have hl40 : (lessL l k).length ≤ 40 := by rw [lessL_len hk']; have := HL.out.1; omega
    have Hri := Lib.hid (right_any v2 (lessL l k) w7 (by omega) HL7.out (fun r hr => by
      have := HL.out.2 r ((List.mem_append.1 hr).elim List.mem_of_mem_take List.mem_of_mem_drop)
      omega))
    have HK7 := Lib.hid hk'
    have HL40 := Lib.hid hl40
    clear hk' hl40
    go_wp2_with fail
    refine Hri.out.mono ?_
    rintro e w8 ⟨x, v, rfl, hs, hb8⟩
    obtain ⟨rfl, rfl⟩ := RightSaid.one hs (.inr ⟨by have := HL40.out; omega, .inr ⟨rfl, rfl, HTL.out⟩⟩)
    clear Hri hs
    have hg7 := HL7.out.below hb8
    have hfind := find_ok (l[k]!).name v2 (lessL l k) w8 (by have := HL40.out; omega) hg7 HTL.out
    unfold findAns at hfind
    rw [lessL_miss HT.out HK7.out, if_pos (by decide), show SRow.zero.val = .agg #[.string ⟨#[]⟩, .int .i64 0, .int .i64 0, .int .i64 0, .int .i64 0, .int .i64 0, .int .i64 0, .int .i64 0] from rfl] at hfind
    have hlt7 : g < w7.heap.size := Nat.lt_of_lt_of_le hlt5 hsz7
    have c0 := (HR7.out.below hb8 hlt7) k HK7.out 0 _ rfl
    simp only [Nat.zero_add, Nat.add_zero] at c0
    have Hfind := Lib.hid hfind
    have HB8 := Lib.hid (HB7.out.trans (hb8.mono HB7.out.size))
    clear hg7 hfind HL7 HB7 hb8 HR7 hlt7
    generalize (l[k]!).name = nm at *
    go_wp2_with fail
    refine Hfind.out.mono ?_
    rintro e w9 ⟨rfl, hb9⟩
    clear Hfind
    have HB9 := Lib.hid ((HB8.out.trans (hb9.mono HB8.out.size)).alloc (Nat.le_trans HB8.out.size hb9.size) (.cells #[.string ⟨#[]⟩, .int .i64 0, .int .i64 0, .int .i64 0, .int .i64 0, .int .i64 0, .int .i64 0, .int .i64 0] 36))
    clear hb9
    go_wp2_with (go_at_call 13; refine (awake_any _).mono ?_; rintro e wa ⟨rfl, hba⟩)
    go_ret
    exact ⟨rfl, HB9.out.trans (hba.mono HB9.out.size)⟩
end Go.Proofs.YtakmbmlpgmppiaaDoor
