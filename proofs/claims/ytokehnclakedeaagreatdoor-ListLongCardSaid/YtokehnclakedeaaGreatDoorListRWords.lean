/- The document's words (strainerref03) of every text: the walk. -/
import Derived.Test.YtokehnclakedeaaGreatDoorListRWordsP
namespace Go.Proofs.YtokehnclakedeaaGreatDoor
open Go Go.Proofs Go.RowKit

theorem cell_one_new3 (w : World) (x : Value) (t : TypeId) : ∀ j u, ([x] : List Value)[j]? = some u → (w.alloc (.cells #[x] t)).cell? ((⟨w.heap.size, 0, none⟩ : Addr).add j) = some u := cells_newF w [x] t
theorem ne_int {c d : UInt8} (h : c ≠ d) : ¬ ((c.toNat : Nat) : Int) = ((d.toNat : Nat) : Int) := fun e => h (UInt8.toNat_inj.1 (Int.ofNat.inj e))

set_option maxRecDepth 100000 in
set_option maxHeartbeats 8000000 in
theorem rwords3_any (s : ByteArray) (hs : s.size ≤ 1000000) (w : World) :
    Calls Tryz.prog 18 #[.string s] w fun e w' => ∃ v, e = .returned v ∧ Hid (w'.ownsRow w.heap.size 9 1 v (lineWords s.data.toList).length ((lineWords s.data.toList).map Value.string)) ∧ Hid (Below w.heap.size w w') := by
  obtain ⟨i0, hi, hz0, hz1, hz2⟩ := info_parts infoStr
  have hW : wordsAt s 0 [] = lineWords s.data.toList := rfl
  obtain ⟨WS, hWS⟩ : ∃ WS, lineWords s.data.toList = WS := ⟨_, rfl⟩
  rw [hWS] at hW ⊢
  have HW := Lib.hid hW
  clear hW hWS
  go_enter Tryz.func18, Tryz.ntmps18
  go_upto_region 3 with fail
  go_loopw [3, 4] (fun v s4 wr => ∃ (i n : Nat) (ws : List ByteArray), i ≤ s.size ∧ s4 = .int .i64 i ∧ n ≤ i ∧ Hid (ws.length = n) ∧ Hid (wr.ownsRow w.heap.size 9 1 v n (ws.map Value.string)) ∧ Hid (Below w.heap.size w wr) ∧ Hid (wordsAt s i ws = WS)) (fun _ s4 _ => s.size - (intOf s4).toNat)
  case atStart => exact ⟨0, 0, [], Nat.zero_le _, rfl, Nat.le_refl _, rfl, World.ownsRow_nil _ _ _ _, Below.refl _ _, HW.out⟩
  case round =>
    obtain ⟨i, n, ws, hi', rfl, hni, HN, HR, HB, HA⟩ := hrel
    have hi0 : (0 : Int) ≤ (i : Int) := by omega
    by_cases hend : ∀ h : i < s.size, s[i]'h = 59
    · have HE : Hid (ws = WS) := (wordsAt_end hend ws).symm.trans HA.out
      have hcs : ¬ (i : Int) < (s.size : Int) ∨ ∃ h : i < s.size, (i : Int) < (s.size : Int) ∧ (((s[i]'h).toNat : Nat) : Int) = 59 := by
        by_cases h : i < s.size
        · exact .inr ⟨h, by omega, by rw [hend h]; rfl⟩
        · exact .inl (by omega)
      clear hend HA
      rcases hcs with e1 | ⟨hlt, e1, e2⟩
      all_goals
        go_wp2
        go_ret
        exact ⟨_, rfl, by rw [← HE.out, HN.out]; exact HR, HB⟩
    · obtain ⟨hlt, h59⟩ : ∃ h : i < s.size, s[i]'h ≠ 59 := by
        apply Classical.byContradiction
        intro h
        exact hend (fun h1 => Classical.byContradiction (fun h2 => h ⟨h1, h2⟩))
      have hltz : (i : Int) < (s.size : Int) := Int.ofNat_lt.2 hlt
      have e59 : ¬ (((s[i]'hlt).toNat : Nat) : Int) = 59 := ne_int h59
      by_cases hblk : blkB (s[i]'hlt) = true
      · have HA2 : Hid (wordsAt s (i + 1) ws = WS) := (wordsAt_blank hlt hblk ws).symm.trans HA.out
        have hcs : (((s[i]'hlt).toNat : Nat) : Int) = 32 ∨ (¬ (((s[i]'hlt).toNat : Nat) : Int) = 32 ∧ (((s[i]'hlt).toNat : Nat) : Int) = 9) ∨ (¬ (((s[i]'hlt).toNat : Nat) : Int) = 32 ∧ ¬ (((s[i]'hlt).toNat : Nat) : Int) = 9 ∧ (((s[i]'hlt).toNat : Nat) : Int) = 13) := by
          unfold blkB at hblk
          simp only [Bool.or_eq_true, beq_iff_eq] at hblk
          rcases hblk with (h | h) | h <;> rw [h] <;> decide
        clear hend hblk h59 HA
        rcases hcs with e1 | ⟨e1, e2⟩ | ⟨e1, e2, e3⟩
        all_goals
          go_wp2
          go_roundw
          case rel => exact ⟨i + 1, n, ws, by omega, by go_num, by omega, HN, HR, HB, HA2⟩
          case measure => simp [intOf]; omega
      · have hwi : wB (s[i]'hlt) = true := by
          have h1 : blkB (s[i]'hlt) = false := by simpa using hblk
          have h2 : (s[i]'hlt == 59) = false := by simpa using h59
          unfold wB
          unfold blkB at h1
          rw [h1, h2]
          rfl
        have hwf : ∀ c : UInt8, wB c = true → ¬ ((c.toNat : Nat) : Int) = 32 ∧ ¬ ((c.toNat : Nat) : Int) = 9 ∧ ¬ ((c.toNat : Nat) : Int) = 13 ∧ ¬ ((c.toNat : Nat) : Int) = 59 := by
          intro c hc
          unfold wB at hc
          simp at hc
          exact ⟨ne_int (d := 32) hc.1.1.1, ne_int (d := 9) hc.1.1.2, ne_int (d := 13) hc.1.2, ne_int (d := 59) hc.2⟩
        have HWF := Lib.hid hwf
        have HWI := Lib.hid hwi
        obtain ⟨e32, e9, e13, _⟩ := hwf _ hwi
        have p32 : ((((s[i]'hlt).toNat : Nat) : Int) == 32) = false := by simpa using e32
        have p9 : ((((s[i]'hlt).toNat : Nat) : Int) == 9) = false := by simpa using e9
        have p13 : ((((s[i]'hlt).toNat : Nat) : Int) == 13) = false := by simpa using e13
        clear hend hblk h59 hwf hwi
        go_upto_region 7 with fail
        clear e32 e9 e13 e59 p32 p9 p13
        go_loopg [5] (s.size + 1) (fun gg s5 wx => wr = wx ∧ ∃ j : Nat, i ≤ j ∧ j ≤ s.size ∧ s.size - j < gg ∧ s5 = .int .i64 j ∧ Hid (∀ k (hk : k < s.size), i ≤ k → k < j → wB (s[k]'hk) = true))
        case atStart => exact ⟨rfl, i, Nat.le_refl _, hi', by omega, rfl, (show Hid _ from fun k hk h1 h2 => absurd h1 (by omega))⟩
        case round =>
          obtain ⟨rfl, j, hij, hj, hg2, rfl, H3⟩ := hrel
          have hj0 : (0 : Int) ≤ (j : Int) := by omega
          by_cases hgo : ∃ h : j < s.size, wB (s[j]'h) = true
          · obtain ⟨hltj, hwj⟩ := hgo
            have hltjz : (j : Int) < (s.size : Int) := Int.ofNat_lt.2 hltj
            obtain ⟨e32, e9, e13, e59⟩ := HWF.out _ hwj
            have p32 : ((((s[j]'hltj).toNat : Nat) : Int) != 32) = true := by simpa using e32
            have p9 : ((((s[j]'hltj).toNat : Nat) : Int) != 9) = true := by simpa using e9
            have p13 : ((((s[j]'hltj).toNat : Nat) : Int) != 13) = true := by simpa using e13
            have p59 : ((((s[j]'hltj).toNat : Nat) : Int) != 59) = true := by simpa using e59
            have H3' : Hid (∀ k (hk : k < s.size), i ≤ k → k < j + 1 → wB (s[k]'hk) = true) := fun k hk h0 h => by
              by_cases e : k = j
              · subst e; exact hwj
              · exact H3.out k hk h0 (by omega)
            clear hwj
            go_wp2
            go_roundg (s.size - j)
            case measure => omega
            case rel => exact ⟨rfl, j + 1, by omega, by omega, by omega, by go_num, H3'⟩
          · have H4 : Hid (∀ hk : j < s.size, wB (s[j]'hk) = false) := fun hk => by
              cases h : wB (s[j]'hk) with
              | false => rfl
              | true => exact absurd ⟨hk, h⟩ hgo
            have hlij : i < j := by
              apply Classical.byContradiction
              intro h
              obtain rfl : i = j := by omega
              exact hgo ⟨hlt, HWI.out⟩
            have HA2 : Hid (wordsAt s j (ws ++ [s.extract i j]) = WS) := (wordsAt_word s i j hlij hj H3.out H4.out ws).symm.trans HA.out
            have hcs : ¬ (j : Int) < (s.size : Int) ∨ (∃ h : j < s.size, (j : Int) < (s.size : Int) ∧ (((s[j]'h).toNat : Nat) : Int) = 59) ∨ (∃ h : j < s.size, (j : Int) < (s.size : Int) ∧ ¬ (((s[j]'h).toNat : Nat) : Int) = 59 ∧ (((s[j]'h).toNat : Nat) : Int) = 32) ∨ (∃ h : j < s.size, (j : Int) < (s.size : Int) ∧ ¬ (((s[j]'h).toNat : Nat) : Int) = 59 ∧ ¬ (((s[j]'h).toNat : Nat) : Int) = 32 ∧ (((s[j]'h).toNat : Nat) : Int) = 9) ∨ (∃ h : j < s.size, (j : Int) < (s.size : Int) ∧ ¬ (((s[j]'h).toNat : Nat) : Int) = 59 ∧ ¬ (((s[j]'h).toNat : Nat) : Int) = 32 ∧ ¬ (((s[j]'h).toNat : Nat) : Int) = 9 ∧ (((s[j]'h).toNat : Nat) : Int) = 13) := by
              by_cases h : j < s.size
              · have hw := H4.out h
                have hz := Int.ofNat_lt.2 h
                unfold wB at hw
                simp only [Bool.not_eq_false', Bool.or_eq_true, beq_iff_eq] at hw
                right
                rcases hw with ((h1 | h1) | h1) | h1
                · exact .inr (.inl ⟨h, hz, by rw [h1]; decide, by rw [h1]; decide⟩)
                · exact .inr (.inr (.inl ⟨h, hz, by rw [h1]; decide, by rw [h1]; decide, by rw [h1]; decide⟩))
                · exact .inr (.inr (.inr ⟨h, hz, by rw [h1]; decide, by rw [h1]; decide, by rw [h1]; decide, by rw [h1]; decide⟩))
                · exact .inl ⟨h, hz, by rw [h1]; decide⟩
              · exact .inl (by omega)
            have b1 : (i : Int) ≤ (j : Int) := by omega
            have b2 : (j : Int) ≤ (s.size : Int) := by omega
            have HR1 := Lib.hid (HR.out.alloc (.cells #[.string (s.extract i j)] 9))
            have HB1 := Lib.hid (HB.out.alloc HB.out.size (.cells #[.string (s.extract i j)] 9))
            clear hgo
            rcases hcs with d1 | ⟨hltj, d1, d2⟩ | ⟨hltj, d1, d2, d3⟩ | ⟨hltj, d1, d2, d3, d4⟩ | ⟨hltj, d1, d2, d3, d4, d5⟩
            · go_wp2_with (at_builtin; refine wpList_append_own _ rfl _ _ 35 rfl w.heap.size 9 i0 (.string ⟨#[]⟩) 1 16 Tryz.underlying35 hi hz0 hz1 hz2 rfl (by decide) _ n _ rfl HR1.out ⟨wr.heap.size, 0, none⟩ 1 1 [.string (s.extract i j)] rfl ?p1c1 ?p1c2 ?p1c3 ?p1c4 ?p1c5 ?p1c6 ?_; (case p1c1 => rfl); (case p1c2 => exact cell_one_new3 _ _ _); (case p1c3 => simp [Value.oneCell']); (case p1c4 => unfold maxLen; omega); (case p1c5 => omega); (case p1c6 => exact HB1.out.size); intro v' w6 hown' hgrow _; obtain ⟨g', cap', rfl⟩ := ownsRow_succ hown')
              go_roundw
              case rel =>
                refine ⟨j, n + 1, ws ++ [s.extract i j], by omega, rfl, by omega, (by show _ = _; rw [List.length_append, HN.out]; rfl), ?_, HB1.out.grown hgrow HB1.out.size (fun k e => (HR1.out.lt k e).1), HA2⟩
                rw [List.map_append]
                exact hown'
              case measure => simp [intOf]; omega
            · go_wp2_with (at_builtin; refine wpList_append_own _ rfl _ _ 35 rfl w.heap.size 9 i0 (.string ⟨#[]⟩) 1 16 Tryz.underlying35 hi hz0 hz1 hz2 rfl (by decide) _ n _ rfl HR1.out ⟨wr.heap.size, 0, none⟩ 1 1 [.string (s.extract i j)] rfl ?p2c1 ?p2c2 ?p2c3 ?p2c4 ?p2c5 ?p2c6 ?_; (case p2c1 => rfl); (case p2c2 => exact cell_one_new3 _ _ _); (case p2c3 => simp [Value.oneCell']); (case p2c4 => unfold maxLen; omega); (case p2c5 => omega); (case p2c6 => exact HB1.out.size); intro v' w6 hown' hgrow _; obtain ⟨g', cap', rfl⟩ := ownsRow_succ hown')
              go_roundw
              case rel =>
                refine ⟨j, n + 1, ws ++ [s.extract i j], by omega, rfl, by omega, (by show _ = _; rw [List.length_append, HN.out]; rfl), ?_, HB1.out.grown hgrow HB1.out.size (fun k e => (HR1.out.lt k e).1), HA2⟩
                rw [List.map_append]
                exact hown'
              case measure => simp [intOf]; omega
            · go_wp2_with (at_builtin; refine wpList_append_own _ rfl _ _ 35 rfl w.heap.size 9 i0 (.string ⟨#[]⟩) 1 16 Tryz.underlying35 hi hz0 hz1 hz2 rfl (by decide) _ n _ rfl HR1.out ⟨wr.heap.size, 0, none⟩ 1 1 [.string (s.extract i j)] rfl ?p3c1 ?p3c2 ?p3c3 ?p3c4 ?p3c5 ?p3c6 ?_; (case p3c1 => rfl); (case p3c2 => exact cell_one_new3 _ _ _); (case p3c3 => simp [Value.oneCell']); (case p3c4 => unfold maxLen; omega); (case p3c5 => omega); (case p3c6 => exact HB1.out.size); intro v' w6 hown' hgrow _; obtain ⟨g', cap', rfl⟩ := ownsRow_succ hown')
              go_roundw
              case rel =>
                refine ⟨j, n + 1, ws ++ [s.extract i j], by omega, rfl, by omega, (by show _ = _; rw [List.length_append, HN.out]; rfl), ?_, HB1.out.grown hgrow HB1.out.size (fun k e => (HR1.out.lt k e).1), HA2⟩
                rw [List.map_append]
                exact hown'
              case measure => simp [intOf]; omega
            · go_wp2_with (at_builtin; refine wpList_append_own _ rfl _ _ 35 rfl w.heap.size 9 i0 (.string ⟨#[]⟩) 1 16 Tryz.underlying35 hi hz0 hz1 hz2 rfl (by decide) _ n _ rfl HR1.out ⟨wr.heap.size, 0, none⟩ 1 1 [.string (s.extract i j)] rfl ?p4c1 ?p4c2 ?p4c3 ?p4c4 ?p4c5 ?p4c6 ?_; (case p4c1 => rfl); (case p4c2 => exact cell_one_new3 _ _ _); (case p4c3 => simp [Value.oneCell']); (case p4c4 => unfold maxLen; omega); (case p4c5 => omega); (case p4c6 => exact HB1.out.size); intro v' w6 hown' hgrow _; obtain ⟨g', cap', rfl⟩ := ownsRow_succ hown')
              go_roundw
              case rel =>
                refine ⟨j, n + 1, ws ++ [s.extract i j], by omega, rfl, by omega, (by show _ = _; rw [List.length_append, HN.out]; rfl), ?_, HB1.out.grown hgrow HB1.out.size (fun k e => (HR1.out.lt k e).1), HA2⟩
                rw [List.map_append]
                exact hown'
              case measure => simp [intOf]; omega
            · go_wp2_with (at_builtin; refine wpList_append_own _ rfl _ _ 35 rfl w.heap.size 9 i0 (.string ⟨#[]⟩) 1 16 Tryz.underlying35 hi hz0 hz1 hz2 rfl (by decide) _ n _ rfl HR1.out ⟨wr.heap.size, 0, none⟩ 1 1 [.string (s.extract i j)] rfl ?p5c1 ?p5c2 ?p5c3 ?p5c4 ?p5c5 ?p5c6 ?_; (case p5c1 => rfl); (case p5c2 => exact cell_one_new3 _ _ _); (case p5c3 => simp [Value.oneCell']); (case p5c4 => unfold maxLen; omega); (case p5c5 => omega); (case p5c6 => exact HB1.out.size); intro v' w6 hown' hgrow _; obtain ⟨g', cap', rfl⟩ := ownsRow_succ hown')
              go_roundw
              case rel =>
                refine ⟨j, n + 1, ws ++ [s.extract i j], by omega, rfl, by omega, (by show _ = _; rw [List.length_append, HN.out]; rfl), ?_, HB1.out.grown hgrow HB1.out.size (fun k e => (HR1.out.lt k e).1), HA2⟩
                rw [List.map_append]
                exact hown'
              case measure => simp [intOf]; omega
end Go.Proofs.YtokehnclakedeaaGreatDoor
