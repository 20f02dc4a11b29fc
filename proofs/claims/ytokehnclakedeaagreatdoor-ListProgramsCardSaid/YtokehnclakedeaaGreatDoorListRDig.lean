/- The document's digits (strainerref03) of every text. -/
import Derived.Test.YtokehnclakedeaaGreatDoorListRNum
namespace Go.Proofs.YtokehnclakedeaaGreatDoor
open Go Go.Proofs Go.RowKit

def digB (c : UInt8) : Bool := decide (48 ≤ c.toNat) && decide (c.toNat ≤ 57)
def digitsV (l : List UInt8) : List UInt8 := (l.dropWhile (fun c => !digB c)).takeWhile digB
theorem dropWhile_app {p : UInt8 → Bool} : ∀ (a r : List UInt8), (∀ x ∈ a, p x = true) → (∀ c t, r = c :: t → p c = false) → (a ++ r).dropWhile p = r
  | [], r, _, h => by
    cases r with
    | nil => rfl
    | cons c t => rw [List.nil_append, List.dropWhile_cons, if_neg (by rw [h c t rfl]; decide)]
  | x :: a, r, ha, h => by
    rw [List.cons_append, List.dropWhile_cons, if_pos (ha x (by simp))]
    exact dropWhile_app a r (fun y hy => ha y (by simp [hy])) h
theorem takeWhile_app {p : UInt8 → Bool} : ∀ (a r : List UInt8), (∀ x ∈ a, p x = true) → (∀ c t, r = c :: t → p c = false) → (a ++ r).takeWhile p = a
  | [], r, _, h => by
    cases r with
    | nil => rfl
    | cons c t => rw [List.nil_append, List.takeWhile_cons, if_neg (by rw [h c t rfl]; decide)]
  | x :: a, r, ha, h => by
    rw [List.cons_append, List.takeWhile_cons, if_pos (ha x (by simp)), takeWhile_app a r (fun y hy => ha y (by simp [hy])) h]
theorem digits_cut (s : ByteArray) (i j : Nat) (hij : i ≤ j) (hj : j ≤ s.size) (h1 : ∀ n (hn : n < s.size), n < i → digB (s[n]'hn) = false) (h2 : ∀ hn : i < s.size, i < j ∨ digB (s[i]'hn) = true)
    (h3 : ∀ n (hn : n < s.size), i ≤ n → n < j → digB (s[n]'hn) = true) (h4 : ∀ hn : j < s.size, digB (s[j]'hn) = false) : s.extract i j = ⟨(digitsV s.data.toList).toArray⟩ := by
  rw [extract_word]
  have hl := listSize s
  have get : ∀ n (hn : n < s.size), s.data.toList[n]'(by omega) = s[n]'hn := fun n hn => rfl
  have e : s.data.toList = s.data.toList.take i ++ ((s.data.toList.take j).drop i ++ s.data.toList.drop j) := by
    conv => lhs; rw [← List.take_append_drop j s.data.toList]
    rw [← List.append_assoc]
    congr 1
    conv => lhs; rw [← List.take_append_drop i (s.data.toList.take j)]
    rw [List.take_take, Nat.min_eq_left hij]
  have hd : digitsV s.data.toList = (s.data.toList.take j).drop i := by
    unfold digitsV
    conv => lhs; rw [e]
    rw [dropWhile_app, takeWhile_app]
    · intro x hx
      obtain ⟨n, hn, rfl⟩ := List.mem_iff_getElem.1 hx
      rw [List.length_drop, List.length_take] at hn
      rw [List.getElem_drop, List.getElem_take, get _ (by omega)]
      exact h3 _ _ (by omega) (by omega)
    · intro c t hc
      have hlt : j < s.size := by
        have := congrArg List.length hc
        rw [List.length_drop] at this
        simp at this
        omega
      rw [List.drop_eq_getElem_cons (by omega)] at hc
      rw [← (List.cons.inj hc).1, get _ hlt]
      exact h4 hlt
    · intro x hx
      obtain ⟨n, hn, rfl⟩ := List.mem_iff_getElem.1 hx
      rw [List.length_take] at hn
      rw [List.getElem_take, get _ (by omega), h1 _ _ (by omega)]
      rfl
    · intro c t hc
      by_cases hlt : i < j
      · have h5 : ((s.data.toList.take j).drop i ++ s.data.toList.drop j)[0]? = some c := by rw [hc]; rfl
        rw [List.getElem?_append_left (by rw [List.length_drop, List.length_take]; omega), List.getElem?_drop, List.getElem?_take, if_pos (by omega), Nat.add_zero, List.getElem?_eq_getElem (by omega)] at h5
        rw [← Option.some.inj h5, get _ (by omega), h3 _ _ (Nat.le_refl _) hlt]
        rfl
      · obtain rfl : i = j := by omega
        rw [List.drop_eq_nil_of_le (by rw [List.length_take]; omega), List.nil_append] at hc
        have hlt2 : i < s.size := by
          have := congrArg List.length hc
          rw [List.length_drop] at this
          simp at this
          omega
        rcases h2 hlt2 with h | h
        · omega
        · rw [h4 hlt2] at h; cases h
  rw [hd]

set_option maxRecDepth 100000 in
set_option maxHeartbeats 8000000 in
theorem digits3d_any (s : ByteArray) (hs : s.size ≤ 1000000) (w : World) : Calls Tryz.prog 20 #[.string s] w fun e w' => e = .returned (.string ⟨(digitsV s.data.toList).toArray⟩) ∧ w = w' := by
  have hcut := digits_cut s
  have HCUT := Lib.hid hcut
  clear hcut
  go_enter Tryz.func20, Tryz.ntmps20
  go_upto_region 2 with fail
  go_loopg [3] (s.size + 1) (fun gg s3 wr => w = wr ∧ ∃ i : Nat, i ≤ s.size ∧ s.size - i < gg ∧ s3 = .int .i64 i ∧ Hid (∀ n (hn : n < s.size), n < i → digB (s[n]'hn) = false))
  case atStart => exact ⟨rfl, 0, Nat.zero_le _, by omega, rfl, (show Hid _ from fun n hn h => absurd h (Nat.not_lt_zero _))⟩
  case round =>
    obtain ⟨rfl, i, hi, hg, rfl, H1⟩ := hrel
    by_cases hgo : ∃ h : i < s.size, digB (s[i]'h) = false
    · obtain ⟨hlt, hdg⟩ := hgo
      have hltz : (i : Int) < (s.size : Int) := by omega
      have hi0 : (0 : Int) ≤ (i : Int) := by omega
      have H1' : Hid (∀ n (hn : n < s.size), n < i + 1 → digB (s[n]'hn) = false) := fun n hn h => by
        by_cases e : n = i
        · subst e; exact hdg
        · exact H1.out n hn (by omega)
      have hc2 : (((s[i]'hlt).toNat : Nat) : Int) < 48 ∨ (¬ (((s[i]'hlt).toNat : Nat) : Int) < 48 ∧ (57 : Int) < (((s[i]'hlt).toNat : Nat) : Int)) := by
        unfold digB at hdg
        simp at hdg
        omega
      clear hdg
      rcases hc2 with e1 | ⟨e1, e2⟩
      all_goals
        go_wp2
        go_roundg (s.size - i)
        case measure => omega
        case rel => exact ⟨rfl, i + 1, by omega, by omega, by go_num, H1'⟩
    · have H2 : Hid (∀ hn : i < s.size, digB (s[i]'hn) = true) := fun hn => by
        cases h : digB (s[i]'hn) with
        | true => rfl
        | false => exact absurd ⟨hn, h⟩ hgo
      have hcs : ¬ (i : Int) < (s.size : Int) ∨ ∃ h : i < s.size, (i : Int) < (s.size : Int) ∧ ¬ (((s[i]'h).toNat : Nat) : Int) < 48 ∧ ¬ (57 : Int) < (((s[i]'h).toNat : Nat) : Int) := by
        by_cases h : i < s.size
        · have := H2.out h
          unfold digB at this
          simp at this
          exact .inr ⟨h, by omega, by omega, by omega⟩
        · exact .inl (by omega)
      have hi0 : (0 : Int) ≤ (i : Int) := by omega
      clear hgo
      rcases hcs with e1 | ⟨hlt, e1, e2, e3⟩
      all_goals
        go_upto_region 5 with fail
        go_loopg [4] (s.size + 1) (fun gg s4 wr => w = wr ∧ ∃ j : Nat, i ≤ j ∧ j ≤ s.size ∧ s.size - j < gg ∧ s4 = .int .i64 j ∧ Hid (∀ n (hn : n < s.size), i ≤ n → n < j → digB (s[n]'hn) = true))
        case atStart => exact ⟨rfl, i, Nat.le_refl _, hi, by omega, rfl, (show Hid _ from fun n hn h1 h2 => by omega)⟩
        case round =>
          obtain ⟨rfl, j, hij, hj, hg2, rfl, H3⟩ := hrel
          have hj0 : (0 : Int) ≤ (j : Int) := by omega
          by_cases hgo : ∃ h : j < s.size, digB (s[j]'h) = true
          · obtain ⟨hltj, hdg⟩ := hgo
            have hltz : (j : Int) < (s.size : Int) := by omega
            have H3' : Hid (∀ n (hn : n < s.size), i ≤ n → n < j + 1 → digB (s[n]'hn) = true) := fun n hn h0 h => by
              by_cases e : n = j
              · subst e; exact hdg
              · exact H3.out n hn h0 (by omega)
            have e4 : (48 : Int) ≤ (((s[j]'hltj).toNat : Nat) : Int) := by unfold digB at hdg; simp at hdg; omega
            have e5 : (((s[j]'hltj).toNat : Nat) : Int) ≤ 57 := by unfold digB at hdg; simp at hdg; omega
            clear hdg
            go_wp2
            go_roundg (s.size - j)
            case measure => omega
            case rel => exact ⟨rfl, j + 1, by omega, by omega, by omega, by go_num, H3'⟩
          · have H4 : Hid (∀ hn : j < s.size, digB (s[j]'hn) = false) := fun hn => by
              cases h : digB (s[j]'hn) with
              | false => rfl
              | true => exact absurd ⟨hn, h⟩ hgo
            have hcs2 : ¬ (j : Int) < (s.size : Int) ∨ (∃ h : j < s.size, (j : Int) < (s.size : Int) ∧ ¬ (48 : Int) ≤ (((s[j]'h).toNat : Nat) : Int)) ∨ (∃ h : j < s.size, (j : Int) < (s.size : Int) ∧ (48 : Int) ≤ (((s[j]'h).toNat : Nat) : Int) ∧ ¬ (((s[j]'h).toNat : Nat) : Int) ≤ 57) := by
              by_cases h : j < s.size
              · have := H4.out h
                unfold digB at this
                simp at this
                by_cases h48 : 48 ≤ (s[j]'h).toNat
                · exact .inr (.inr ⟨h, by omega, by omega, by omega⟩)
                · exact .inr (.inl ⟨h, by omega, by omega⟩)
              · exact .inl (by omega)
            have HX : Hid (s.extract i j = ⟨(digitsV s.data.toList).toArray⟩) := HCUT.out i j hij hj H1.out (fun hn => .inr (H2.out hn)) H3.out H4.out
            have b1 : (i : Int) ≤ (j : Int) := by omega
            have b2 : (j : Int) ≤ (s.size : Int) := by omega
            clear hgo
            rcases hcs2 with d1 | ⟨hltj, d1, d2⟩ | ⟨hltj, d1, d2, d3⟩
            all_goals
              go_wp2
              go_ret
              exact ⟨by rw [← HX.out]; rfl, rfl⟩
end Go.Proofs.YtokehnclakedeaaGreatDoor
