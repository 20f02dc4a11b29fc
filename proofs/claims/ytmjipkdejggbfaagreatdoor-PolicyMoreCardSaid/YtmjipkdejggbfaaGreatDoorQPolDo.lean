/- policy: what a line's first word does. -/
import Derived.Test.YtmjipkdejggbfaaGreatDoorQPolC
namespace Go.Proofs.YtmjipkdejggbfaaGreatDoor
open Go Go.Proofs Go.RowKit

def doPost (R : Nat) (vr : Value) (cnt : Nat) (w : World) (res : Int ⊕ PSt) (e : Ending) (w' : World) : Prop :=
  match res with
  | .inl c => e = .panicked (wrongP c) ∧ FrR R w w'
  | .inr st => e = .returned (.tuple #[]) ∧ FrV R vr.ownBlock w w' ∧ ∃ vr' vw', RdB w' R st.k st.n st.x vr' vw' (cnt : Int) ∧ RulesR TRl TCd (R + 1) w' vr' st.rules
theorem act_four (ws : List ByteArray) : ActP.readAns ws = ((ActP.readAns ws).1, (ActP.readAns ws).2.1, (ActP.readAns ws).2.2.1, (ActP.readAns ws).2.2.2) := rfl
theorem first_do {R : Nat} {st : PSt} {vr vw : Value} {cnt : Nat} {w0 : ByteArray} {r : List ByteArray} (hd : (w0.toList == defaultB) = true) (hbig : r.length ≤ 1000000) (hsz : ∀ s ∈ r, s.size ≤ 1000000) (w : World) (hR : RdB w R st.k st.n st.x vr vw (cnt : Int)) (hW : PWords R w vw r) (hRR : RulesR TRl TCd (R + 1) w vr st.rules) :
    Calls Tryz.prog 42 #[.pointer (some ⟨R, 0, none⟩)] w (doPost R vr cnt w (pLine cnt st w0 r)) := by
  have hl : pLine cnt st w0 r = (if cnt ≠ 0 then .inl 13 else if (ActP.readAns r).2.2.2 ≠ 0 then .inl (formE (ActP.readAns r).2.2.2) else if (r.drop (ActP.readAns r).2.2.1.toNat).length ≠ 0 then .inl 13 else .inr { st with k := (ActP.readAns r).1, n := (ActP.readAns r).2.1 }) := by
    unfold pLine; rw [if_pos hd]
  rw [hl]
  by_cases hc : cnt ≠ 0
  · rw [if_pos hc]
    exact first_late (by omega) w hR
  · obtain rfl : cnt = 0 := by omega
    rw [if_neg hc]
    by_cases he : (ActP.readAns r).2.2.2 ≠ 0
    · rw [if_pos he]
      exact first_bad hbig hsz (act_four r) he w hR hW
    · rw [if_neg he]
      have he0 : (ActP.readAns r).2.2.2 = 0 := by omega
      have h4 := act_four r
      rw [he0] at h4
      obtain ⟨m, hm, hml, _⟩ := act_cnt h4
      rw [hm] at h4
      rw [hm, show ((m : Int)).toNat = m from rfl, List.length_drop]
      refine (first_ok hbig hsz h4 hml w hR hW).mono ?_
      rintro e w' ⟨hf, ⟨h1, rfl, vw', hr⟩ | ⟨h1, rfl⟩⟩
      · rw [if_neg (by omega)]
        exact ⟨rfl, hf.frV _, vr, vw', hr, hRR.fr hf⟩
      · rw [if_pos (by omega)]
        exact ⟨rfl, hf⟩
theorem x32_do {R : Nat} {st : PSt} {vr vw : Value} {cnt : Nat} {w0 : ByteArray} {r : List ByteArray} (hd : (w0.toList == defaultB) = false) (hx : (w0.toList == x32B) = true) (hbig : r.length ≤ 1000000) (w : World) (hR : RdB w R st.k st.n st.x vr vw (cnt : Int)) (hW : PWords R w vw r) (hRR : RulesR TRl TCd (R + 1) w vr st.rules) :
    Calls Tryz.prog 43 #[.pointer (some ⟨R, 0, none⟩)] w (doPost R vr cnt w (pLine cnt st w0 r)) := by
  have hl : pLine cnt st w0 r = pX32 cnt st r := by
    unfold pLine; rw [if_neg (by rw [hd]; decide), if_pos hx]
  rw [hl]
  match r, hW, hbig with
  | [], hW, hbig => exact x32_bad (.inr (.inl (by simp))) hbig w hR hW
  | [w1], hW, hbig =>
    show Calls _ _ _ _ (doPost R vr cnt w (if cnt = 1 ∧ ((w1.toList == onB) = true ∨ (w1.toList == offB) = true) then .inr { st with x := w1.toList == onB } else .inl 13))
    by_cases h : cnt = 1 ∧ ((w1.toList == onB) = true ∨ (w1.toList == offB) = true)
    · rw [if_pos h]
      obtain ⟨rfl, h2⟩ := h
      refine (x32_ok h2 w hR hW).mono ?_
      rintro e w' ⟨rfl, hf, vw', hr⟩
      exact ⟨rfl, hf.frV _, vr, vw', hr, hRR.fr hf⟩
    · rw [if_neg h]
      refine x32_bad ?_ hbig w hR hW
      by_cases hc : cnt = 1
      · right; right
        refine ⟨w1, rfl, ?_, ?_⟩
        · cases hq : (w1.toList == onB) with
          | false => rfl
          | true => exact absurd ⟨hc, .inl hq⟩ h
        · cases hq : (w1.toList == offB) with
          | false => rfl
          | true => exact absurd ⟨hc, .inr hq⟩ h
      · left; omega
  | w1 :: w2 :: r, hW, hbig => exact x32_bad (.inr (.inl (by simp))) hbig w hR hW
theorem rule_do {R : Nat} {st : PSt} {vr vw : Value} {cnt : Nat} {w0 : ByteArray} {r : List ByteArray} (hd : (w0.toList == defaultB) = false) (hx : (w0.toList == x32B) = false) (hs : w0.size ≤ 1000000) (hbig : r.length ≤ 1000000) (hsz : ∀ s ∈ r, s.size ≤ 1000000) (w : World) (hE : CondP.ErrV w) (hgR : 5 < R) (hR : RdB w R st.k st.n st.x vr vw (cnt : Int)) (hW : PWords R w vw r) (hRR : RulesR TRl TCd (R + 1) w vr st.rules) :
    Calls Tryz.prog 45 #[.pointer (some ⟨R, 0, none⟩), .string w0] w (doPost R vr cnt w (pLine cnt st w0 r)) := by
  have hl : pLine cnt st w0 r = if cnt = 0 then .inl 13 else addRule st (ruleGo st.rules.length w0 r) := by
    unfold pLine; rw [if_neg (by rw [hd]; decide), if_neg (by rw [hx]; decide)]
  rw [hl]
  by_cases hc : cnt = 0
  · rw [if_pos hc]
    exact rule_cnt w0 hs w hR (.inl (by omega))
  · rw [if_neg hc]
    have hp : (0 : Int) < (cnt : Int) := by omega
    have hg : ruleGo st.rules.length w0 r = (if nameB w0 = false then .inl 13 else if 500 ≤ st.rules.length then .inl 3 else if (ActP.readAns r).2.2.2 ≠ 0 then .inl (formE (ActP.readAns r).2.2.2) else mkRule w0 (ActP.readAns r).1 (ActP.readAns r).2.1 (condsGo [] (r.drop (ActP.readAns r).2.2.1.toNat))) := rfl
    rw [hg]
    cases hn : nameB w0 with
    | false =>
      rw [if_pos rfl]
      exact rule_cnt w0 hs w hR (.inr ⟨hp, hn⟩)
    | true =>
      rw [if_neg (by decide)]
      by_cases hm : 500 ≤ st.rules.length
      · rw [if_pos hm]
        exact rule_many w0 hs w hR hRR hp hn hm
      · rw [if_neg hm]
        by_cases he : (ActP.readAns r).2.2.2 ≠ 0
        · rw [if_pos he]
          exact rule_act w0 hs hbig hsz w hR hRR hW hp hn (by omega) (act_four r) he
        · rw [if_neg he]
          have he0 : (ActP.readAns r).2.2.2 = 0 := by omega
          have h4 := act_four r
          rw [he0] at h4
          obtain ⟨m, hm4, hml, _⟩ := act_cnt h4
          rw [hm4] at h4
          rw [hm4, show ((m : Int)).toNat = m from rfl]
          refine (rule_main w0 hs hbig hsz w hE hgR hR hRR hW hp hn (by omega) h4 hml).mono ?_
          intro e w' h
          unfold rulePost at h
          cases hcg : condsGo [] (r.drop m) with
          | inl c => rw [hcg] at h; exact h
          | inr cs =>
            rw [hcg] at h
            obtain ⟨rfl, hf, vr', vw', h1, h2⟩ := h
            exact ⟨rfl, hf, vr', vw', h1, h2⟩
set_option maxRecDepth 100000 in
theorem line2_do {R P0 S0 : Nat} {vr : Value} {cnt : Nat} {w0 : ByteArray} {res : Int ⊕ PSt} (w : World) (hp : w.cell? ⟨P0, 0, none⟩ = some (.pointer (some ⟨R, 0, none⟩))) (hs : w.cell? ⟨S0, 0, none⟩ = some (.string w0))
    (hc : Calls Tryz.prog 45 #[.pointer (some ⟨R, 0, none⟩), .string w0] w (doPost R vr cnt w res)) :
    Calls Tryz.prog 44 #[.pointer (some ⟨P0, 0, none⟩), .pointer (some ⟨S0, 0, none⟩)] w (doPost R vr cnt w res) := by
  have HC := Lib.hid hc
  clear hc
  cases res with
  | inl c =>
    go_enter Tryz.func44, Tryz.ntmps44
    go_wp2_with fail
    refine HC.out.mono ?_
    rintro e w' ⟨rfl, hf⟩
    go_wp2
    exact ⟨rfl, rfl, hf⟩
  | inr st =>
    go_enter Tryz.func44, Tryz.ntmps44
    go_wp2_with fail
    refine HC.out.mono ?_
    rintro e w' ⟨rfl, hf⟩
    have HF := Lib.hid hf
    clear hf
    go_wp2
    first
      | (go_end0; exact ⟨rfl, HF.out⟩)
      | (refine bodyPost_ret (results_none rfl _ _ _) rfl ?_; exact ⟨rfl, HF.out⟩)
end Go.Proofs.YtmjipkdejggbfaaGreatDoor
