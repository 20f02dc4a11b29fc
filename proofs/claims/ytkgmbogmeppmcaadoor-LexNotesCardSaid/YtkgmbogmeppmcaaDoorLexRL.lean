/- strainerref13.Lines: the lines of any text. -/
import Derived.Test.YtkgmbogmeppmcaaDoorLexRW
import Derived.Test.YtkgmbogmeppmcaaDoorLexLines
namespace Go.Proofs.YtkgmbogmeppmcaaDoor
open Go Go.Proofs Go.RowKit

theorem infoLnR : (Tryd.prog.info? 80).map (fun i => (i.zero, i.size, i.bytes)) = some (some (.agg #[.int .i64 0, .slice none 0 0]), 2, 32) := by kernel_rfl
/-- What the reference's loop has, at byte i, the piece under way beginning at a. -/
def RunAt (t : ByteArray) (ans : List Ln × Nat × Nat) (i a n : Nat) (acc : List Ln) : Prop :=
  (i ≤ t.size ∧ a ≤ i ∧ (∀ j (h : j < t.size), a ≤ j → j < i → t[j]'h ≠ 10) ∧ lexGo (pieces (t.data.toList.drop a)) n acc = ans) ∨ (i = t.size + 1 ∧ ans = (acc, 0, 0))
theorem piece_here (t : ByteArray) (i a : Nat) (ha : a ≤ i) (hi : i ≤ t.size) (hno : ∀ j (h : j < t.size), a ≤ j → j < i → t[j]'h ≠ 10) : (10 : UInt8) ∉ (t.extract a i).data.toList ∧ (t.extract a i).size ≤ t.size ∧ t.data.toList.drop a = (t.extract a i).data.toList ++ t.data.toList.drop i := by
  have e := extract_word t a i
  have hl : (t.extract a i).data.toList = (t.data.toList.take i).drop a := by rw [e]
  have hd : t.data.toList.drop a = (t.data.toList.take i).drop a ++ t.data.toList.drop i := by
    conv => lhs; rw [← List.take_append_drop i t.data.toList]
    rw [List.drop_append_of_le_length (by rw [List.length_take, size_list]; omega)]
  refine ⟨?_, ?_, by rw [hl]; exact hd⟩
  · rw [hl]
    intro hm
    obtain ⟨j, hj, hj2⟩ := List.mem_iff_getElem.1 hm
    rw [List.length_drop, List.length_take, size_list] at hj
    rw [List.getElem_drop, List.getElem_take] at hj2
    exact hno (a + j) (by omega) (by omega) (by omega) hj2
  · rw [← size_list, hl, List.length_drop, List.length_take, size_list]
    omega
theorem run_next {t : ByteArray} {ans : List Ln × Nat × Nat} {i a n : Nat} {acc : List Ln} (h : RunAt t ans i a n acc) (hi : i < t.size) (hb : t[i]'hi ≠ 10) : RunAt t ans (i + 1) a n acc := by
  rcases h with ⟨_, h2, h3, h4⟩ | ⟨h1, _⟩
  · refine .inl ⟨by omega, by omega, fun j hj h5 h6 => ?_, h4⟩
    by_cases e : j = i
    · subst e; exact hb
    · exact h3 j hj h5 (by omega)
  · omega
theorem run_piece {t : ByteArray} {ans : List Ln × Nat × Nat} {i a n : Nat} {acc : List Ln} (h : RunAt t ans i a n acc) (hi : i ≤ t.size) (hb : ∀ h : i < t.size, t[i]'h = 10) :
    a ≤ i ∧ (t.extract a i).size ≤ t.size ∧ (lineOf (t.extract a i).data.toList = none → ans = ([], n, 13)) ∧ (∀ ws, lineOf (t.extract a i).data.toList = some ws → RunAt t ans (i + 1) (i + 1) (n + 1) (addLn n ws acc)) := by
  rcases h with ⟨_, h2, h3, h4⟩ | ⟨h1, _⟩
  · obtain ⟨p1, p2, p3⟩ := piece_here t i a h2 hi h3
    refine ⟨h2, p2, ?_, ?_⟩
    · intro hn
      rw [← h4, p3]
      by_cases hlt : i < t.size
      · rw [drop_byte t i hlt, hb hlt, pieces_at _ _ p1]
        unfold lexGo
        rw [hn]
      · rw [drop_end t i hlt, List.append_nil, pieces_none _ p1]
        unfold lexGo
        rw [hn]
    · intro ws hw
      by_cases hlt : i < t.size
      · refine .inl ⟨by omega, Nat.le_refl _, fun j hj h5 h6 => by omega, ?_⟩
        rw [← h4, p3, drop_byte t i hlt, hb hlt, pieces_at _ _ p1]
        conv => rhs; unfold lexGo
        rw [hw]
      · refine .inr ⟨by omega, ?_⟩
        rw [← h4, p3, drop_end t i hlt, List.append_nil, pieces_none _ p1]
        unfold lexGo
        rw [hw]
        rfl
  · omega
/-- What Lines answers. -/
def linesPost (tl : Nat) (a : List Ln × Nat × Nat) (w : World) (e : Ending) (w' : World) : Prop :=
  ∃ v, e = .returned (.tuple #[v, .int .i64 (a.2.1 : Int), .int .i64 (a.2.2 : Int)]) ∧ LinesR tl w.heap.size w' v a.1 ∧ Below w.heap.size w w'
theorem lines_post {tl : Nat} {a : List Ln × Nat × Nat} {ls : List Ln} {n e : Nat} {v : Value} {w w' : World} (h : a = (ls, n, e)) (hl : LinesR tl w.heap.size w' v ls) (hb : Below w.heap.size w w') : linesPost tl a w (.returned (.tuple #[v, .int .i64 (n : Int), .int .i64 (e : Int)])) w' := by
  subst h
  exact ⟨v, rfl, hl, hb⟩

set_option maxRecDepth 100000 in
set_option maxHeartbeats 2000000 in
theorem refLines_any (t : ByteArray) (ht : t.size ≤ 1000000) (w : World) :
    Calls Tryd.prog 23 #[.string t] w fun e w' => linesPost 80 (lexAns t) w e w' := by
  by_cases hlong : 65536 < t.size
  · have hz : (65536 : Int) < (t.size : Int) := by omega
    have HA := Lib.hid (lexAns_long hlong)
    clear hlong
    go_enter Tryd.func23, Tryd.ntmps23
    go_wp2
    go_ret3
    exact lines_post HA.out (LinesR.nil _ _ _) (Below.refl _ _)
  have hz : ¬ (65536 : Int) < (t.size : Int) := by omega
  obtain ⟨ans, hans⟩ : ∃ ans, lexAns t = ans := ⟨_, rfl⟩
  have h0 : RunAt t ans 0 0 1 [] := by
    refine .inl ⟨Nat.zero_le _, Nat.le_refl _, fun j _ _ h => by omega, ?_⟩
    rw [← hans]
    unfold lexAns
    rw [if_neg hlong]
    rfl
  rw [hans]
  have H0 := Lib.hid h0
  clear h0 hans
  obtain ⟨i0, hi, hz0, hz1, hz2⟩ := info_parts infoLnR
  go_enter Tryd.func23, Tryd.ntmps23
  go_wp2
  go_loopw [5, 6, 7, 8] (fun v nv av iv wr => ∃ (i a n : Nat) (acc : List Ln), i ≤ t.size + 1 ∧ a ≤ i ∧ n ≤ i + 1 ∧ acc.length ≤ i ∧ iv = .int .i64 i ∧ av = .int .i64 a ∧ nv = .int .i64 n ∧ Hid (RunAt t ans i a n acc) ∧ Hid (LinesR 80 w.heap.size wr v acc) ∧ Hid (Below w.heap.size w wr)) (fun _ _ _ iv _ => t.size + 1 - (intOf iv).toNat)
  case atStart => exact ⟨0, 0, 1, [], Nat.zero_le _, Nat.le_refl _, by omega, by simp, rfl, rfl, rfl, H0, LinesR.nil _ _ _, Below.refl _ _⟩
  case round =>
    obtain ⟨i, a, n, acc, hi1, hai, hni, hal, rfl, rfl, rfl, HR, HL, HB⟩ := hrel
    clear H0
    have i0z : (0 : Int) ≤ (i : Int) := by omega
    have a0z : (0 : Int) ≤ (a : Int) := by omega
    have aiz : (a : Int) ≤ (i : Int) := by omega
    by_cases hle : i ≤ t.size
    · have hlez : (i : Int) ≤ (t.size : Int) := by omega
      have piece : (∀ h : i < t.size, t[i]'h = 10) → (((i : Int) < (t.size : Int) ∧ ∃ h : i < t.size, ((((t[i]'h).toNat : Nat) : Int) != 10) = false) ∨ ¬ (i : Int) < (t.size : Int)) → True := fun _ _ => trivial
      clear piece
      by_cases hlt : i < t.size
      · have hltz : (i : Int) < (t.size : Int) := by omega
        by_cases h10 : t[i]'hlt = 10
        · have q10 : ((((t[i]'hlt).toNat : Nat) : Int) == 10) = true := by rw [h10]; rfl
          have q10n : ((((t[i]'hlt).toNat : Nat) : Int) != 10) = false := by rw [h10]; rfl
          obtain ⟨_, hps, hbad, hgood⟩ := run_piece HR.out hle (fun _ => h10)
          clear h10
          obtain ⟨pc, hpc⟩ : ∃ pc, t.extract a i = pc := ⟨_, rfl⟩
          rw [hpc] at hps hbad hgood
          have HW := Lib.hid (refWords_any pc (by omega))
          cases hlo : lineOf pc.data.toList with
          | none =>
            have HA := Lib.hid (hbad hlo)
            rw [hlo] at HW
            clear hlo hbad hgood HR
            go_wp2_with fail
            refine (HW.out _).mono ?_
            rintro e w1 ⟨rfl, hb1⟩
            have HB1 := Lib.hid (HB.out.trans (hb1.mono HB.out.size))
            clear hb1 HB HW HL
            go_wp2
            go_ret3
            exact lines_post HA.out (LinesR.nil _ _ _) HB1.out
          | some ws =>
            have HR2 := Lib.hid (hgood ws hlo)
            rw [hlo] at HW
            clear hlo hbad hgood HR
            obtain ⟨K, hK⟩ : ∃ K, ws.length = K := ⟨_, rfl⟩
            have HKW := Lib.hid hK
            go_wp2_with fail
            refine (HW.out _).mono ?_
            rintro e w1 ⟨⟨u, rfl, hu⟩, hb1⟩
            rw [hK] at hu
            have HL1 := Lib.hid (HL.out.below hb1)
            have HB1 := Lib.hid (HB.out.trans (hb1.mono HB.out.size))
            have HU := Lib.hid (ownsRow_mono hu HB.out.size)
            clear hK HB HW HL
            obtain ⟨ua, uc, rfl⟩ : ∃ ua uc, u = .slice ua K uc := by
              rcases hu.2 with ⟨rfl, h0⟩ | ⟨g, cap, cur, rfl, _⟩
              · exact ⟨none, 0, by rw [h0]⟩
              · exact ⟨_, _, rfl⟩
            clear hu hb1
            by_cases hk0 : 0 < K
            · have hk0z : (0 : Int) < (K : Int) := by omega
              have hne : ¬ ws = [] := fun e => by have := HKW.out; rw [e] at this; simp at this; omega
              have Hacc : Hid (addLn n ws acc = acc ++ [(n, ws)]) := by show _ = _; unfold addLn; rw [if_neg hne]
              obtain ⟨us, hu1, hu2, hu3⟩ := HL1.out
              obtain ⟨NL, hNL⟩ : ∃ NL, acc.length = NL := ⟨_, rfl⟩
              rw [hNL] at hu1 hu2 hal
              have HNL := Lib.hid hNL
              have HU1 := Lib.hid hu1
              have HU3 := Lib.hid hu3
              have HA2 := Lib.hid (ownsRow_below hu2 ((Below.refl _ w1).alloc (Nat.le_refl _) (.cells #[.int .i64 (n : Int), .slice ua K uc] 80)))
              have HB2 := Lib.hid (HB1.out.alloc HB1.out.size (.cells #[.int .i64 (n : Int), .slice ua K uc] 80))
              clear hNL hu1 hu2 hu3 hne
              go_wp2_with (at_builtin; refine wpList_append_own _ rfl _ _ 44 rfl w.heap.size 80 i0 (.agg #[.int .i64 0, .slice none 0 0]) 2 32 Tryd.underlying44 hi hz0 hz1 hz2 rfl (by decide) _ NL _ rfl HA2.out ⟨w1.heap.size, 0, none⟩ 1 1 [.int .i64 (n : Int), .slice ua K uc] rfl ?ac1 ?ac2 ?ac3 ?ac4 ?ac5 ?ac6 ?_; (case ac1 => rfl); (case ac2 => exact cell_pair_new _ _ _ _); (case ac3 => simp [Value.oneCell']); (case ac4 => unfold maxLen; omega); (case ac5 => omega); (case ac6 => exact HB2.out.size); intro v' w3 hown' hgrow _; obtain ⟨g', cap', rfl⟩ := ownsRow_succ hown')
              go_roundw
              case rel =>
                refine ⟨i + 1, i + 1, n + 1, acc ++ [(n, ws)], by omega, by omega, by omega, (by rw [List.length_append, HNL.out, List.length_singleton]; omega), by go_num, by go_num, by go_num, (by rw [Hacc.out] at HR2; exact HR2), ?_, HB2.out.grown hgrow HB2.out.size (fun k e => (HA2.out.lt k e).1)⟩
                show LinesR _ _ _ _ _
                refine LinesR.snoc (W1 := w1.alloc (.cells #[.int .i64 (n : Int), .slice ua K uc] 80)) (us := us) (by decide) (by rw [HNL.out]; exact HU1.out) (by rw [HNL.out]; exact HA2.out) (fun j u x hu hx => ownsRow_below (HU3.out j u x hu hx) ((Below.refl _ w1).alloc (Nat.le_refl _) _)) ?_ hgrow (by rw [HNL.out]; exact hown')
                rw [HKW.out]
                exact ownsRow_below HU.out ((Below.refl _ w1).alloc (Nat.le_refl _) _)
              case measure => simp [intOf]; omega
            · have hk0z : ¬ (0 : Int) < (K : Int) := by omega
              have hne : ws = [] := List.eq_nil_of_length_eq_zero (by have := HKW.out; omega)
              have Hacc : Hid (addLn n ws acc = acc) := by show _ = _; rw [hne]; rfl
              clear hne
              go_wp2
              go_roundw
              case rel => exact ⟨i + 1, i + 1, n + 1, acc, by omega, by omega, by omega, by omega, by go_num, by go_num, by go_num, (by rw [Hacc.out] at HR2; exact HR2), HL1, HB1⟩
              case measure => simp [intOf]; omega
        · have q10 : ((((t[i]'hlt).toNat : Nat) : Int) == 10) = false := by rw [show (10 : Int) = ((10 : Nat) : Int) from rfl, byte_eq (by decide)]; simpa using h10
          have q10n : ((((t[i]'hlt).toNat : Nat) : Int) != 10) = true := by show (!_) = true; rw [q10]; rfl
          have HR2 := Lib.hid (run_next HR.out hlt h10)
          clear h10
          go_wp2
          go_roundw
          case rel => exact ⟨i + 1, a, n, acc, by omega, by omega, by omega, by omega, by go_num, rfl, rfl, HR2, HL, HB⟩
          case measure => simp [intOf]; omega
      · have hltz : ¬ (i : Int) < (t.size : Int) := by omega
        obtain ⟨_, hps, hbad, hgood⟩ := run_piece HR.out hle (fun h => absurd h hlt)
        obtain ⟨pc, hpc⟩ : ∃ pc, t.extract a i = pc := ⟨_, rfl⟩
        rw [hpc] at hps hbad hgood
        have HW := Lib.hid (refWords_any pc (by omega))
        cases hlo : lineOf pc.data.toList with
        | none =>
          have HA := Lib.hid (hbad hlo)
          rw [hlo] at HW
          clear hlo hbad hgood HR
          go_wp2_with fail
          refine (HW.out _).mono ?_
          rintro e w1 ⟨rfl, hb1⟩
          have HB1 := Lib.hid (HB.out.trans (hb1.mono HB.out.size))
          clear hb1 HB HW HL
          go_wp2
          go_ret3
          exact lines_post HA.out (LinesR.nil _ _ _) HB1.out
        | some ws =>
          have HR2 := Lib.hid (hgood ws hlo)
          rw [hlo] at HW
          clear hlo hbad hgood HR
          obtain ⟨K, hK⟩ : ∃ K, ws.length = K := ⟨_, rfl⟩
          have HKW := Lib.hid hK
          go_wp2_with fail
          refine (HW.out _).mono ?_
          rintro e w1 ⟨⟨u, rfl, hu⟩, hb1⟩
          rw [hK] at hu
          have HL1 := Lib.hid (HL.out.below hb1)
          have HB1 := Lib.hid (HB.out.trans (hb1.mono HB.out.size))
          have HU := Lib.hid (ownsRow_mono hu HB.out.size)
          clear hK HB HW HL
          obtain ⟨ua, uc, rfl⟩ : ∃ ua uc, u = .slice ua K uc := by
            rcases hu.2 with ⟨rfl, h0⟩ | ⟨g, cap, cur, rfl, _⟩
            · exact ⟨none, 0, by rw [h0]⟩
            · exact ⟨_, _, rfl⟩
          clear hu hb1
          by_cases hk0 : 0 < K
          · have hk0z : (0 : Int) < (K : Int) := by omega
            have hne : ¬ ws = [] := fun e => by have := HKW.out; rw [e] at this; simp at this; omega
            have Hacc : Hid (addLn n ws acc = acc ++ [(n, ws)]) := by show _ = _; unfold addLn; rw [if_neg hne]
            obtain ⟨us, hu1, hu2, hu3⟩ := HL1.out
            obtain ⟨NL, hNL⟩ : ∃ NL, acc.length = NL := ⟨_, rfl⟩
            rw [hNL] at hu1 hu2 hal
            have HNL := Lib.hid hNL
            have HU1 := Lib.hid hu1
            have HU3 := Lib.hid hu3
            have HA2 := Lib.hid (ownsRow_below hu2 ((Below.refl _ w1).alloc (Nat.le_refl _) (.cells #[.int .i64 (n : Int), .slice ua K uc] 80)))
            have HB2 := Lib.hid (HB1.out.alloc HB1.out.size (.cells #[.int .i64 (n : Int), .slice ua K uc] 80))
            clear hNL hu1 hu2 hu3 hne
            go_wp2_with (at_builtin; refine wpList_append_own _ rfl _ _ 44 rfl w.heap.size 80 i0 (.agg #[.int .i64 0, .slice none 0 0]) 2 32 Tryd.underlying44 hi hz0 hz1 hz2 rfl (by decide) _ NL _ rfl HA2.out ⟨w1.heap.size, 0, none⟩ 1 1 [.int .i64 (n : Int), .slice ua K uc] rfl ?bc1 ?bc2 ?bc3 ?bc4 ?bc5 ?bc6 ?_; (case bc1 => rfl); (case bc2 => exact cell_pair_new _ _ _ _); (case bc3 => simp [Value.oneCell']); (case bc4 => unfold maxLen; omega); (case bc5 => omega); (case bc6 => exact HB2.out.size); intro v' w3 hown' hgrow _; obtain ⟨g', cap', rfl⟩ := ownsRow_succ hown')
            go_roundw
            case rel =>
              refine ⟨i + 1, i + 1, n + 1, acc ++ [(n, ws)], by omega, by omega, by omega, (by rw [List.length_append, HNL.out, List.length_singleton]; omega), by go_num, by go_num, by go_num, (by rw [Hacc.out] at HR2; exact HR2), ?_, HB2.out.grown hgrow HB2.out.size (fun k e => (HA2.out.lt k e).1)⟩
              show LinesR _ _ _ _ _
              refine LinesR.snoc (W1 := w1.alloc (.cells #[.int .i64 (n : Int), .slice ua K uc] 80)) (us := us) (by decide) (by rw [HNL.out]; exact HU1.out) (by rw [HNL.out]; exact HA2.out) (fun j u x hu hx => ownsRow_below (HU3.out j u x hu hx) ((Below.refl _ w1).alloc (Nat.le_refl _) _)) ?_ hgrow (by rw [HNL.out]; exact hown')
              rw [HKW.out]
              exact ownsRow_below HU.out ((Below.refl _ w1).alloc (Nat.le_refl _) _)
            case measure => simp [intOf]; omega
          · have hk0z : ¬ (0 : Int) < (K : Int) := by omega
            have hne : ws = [] := List.eq_nil_of_length_eq_zero (by have := HKW.out; omega)
            have Hacc : Hid (addLn n ws acc = acc) := by show _ = _; rw [hne]; rfl
            clear hne
            go_wp2
            go_roundw
            case rel => exact ⟨i + 1, i + 1, n + 1, acc, by omega, by omega, by omega, by omega, by go_num, by go_num, by go_num, (by rw [Hacc.out] at HR2; exact HR2), HL1, HB1⟩
            case measure => simp [intOf]; omega
    · have hlez : ¬ (i : Int) ≤ (t.size : Int) := by omega
      have HA : Hid (ans = (acc, 0, 0)) := by
        rcases HR.out with ⟨h, _⟩ | ⟨_, h⟩
        · omega
        · exact h
      obtain ⟨us, hus⟩ := HL.out.slice
      go_wp2
      go_ret3
      exact lines_post HA.out HL.out HB.out
end Go.Proofs.YtkgmbogmeppmcaaDoor
