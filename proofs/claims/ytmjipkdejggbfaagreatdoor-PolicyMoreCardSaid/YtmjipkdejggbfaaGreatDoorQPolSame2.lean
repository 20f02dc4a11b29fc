/- policy.Same of two policies. -/
import Derived.Test.YtmjipkdejggbfaaGreatDoorQPolSame
namespace Go.Proofs.YtmjipkdejggbfaaGreatDoor
open Go Go.Proofs Go.RowKit

set_option maxRecDepth 100000 in
set_option maxHeartbeats 8000000 in
theorem same_any {p s : PSt} {v1 v2 : Value} {lo1 lo2 : Nat} (hl : p.rules.length ≤ 1000000) (hc : ∀ r ∈ p.rules, r.conds.length ≤ 1000000) (w : World) (h1 : RulesR TRl TCd lo1 w v1 p.rules) (h2 : RulesR TRl TCd lo2 w v2 s.rules) :
    Calls Tryz.prog 15 #[PolV p.k p.n p.x v1, PolV s.k s.n s.x v2] w (eqPost (p = s) w) := by
  obtain ⟨k, n, x, rs⟩ := p
  obtain ⟨k2, n2, x2, ss⟩ := s
  dsimp only at hl hc h1 h2 ⊢
  obtain ⟨a1, c1, rfl⟩ := h1.slice
  obtain ⟨a2, c2, rfl⟩ := h2.slice
  unfold PolV
  have hb : Below w.heap.size w ((w.alloc (.cells #[.int .i64 k, .int .i64 n, .bool x, .slice a1 rs.length c1] TPl)).alloc (.cells #[.int .i64 k2, .int .i64 n2, .bool x2, .slice a2 ss.length c2] TPl)) := ((Below.refl _ w).alloc (Nat.le_refl _) _).alloc (by simp) _
  by_cases ha : k = k2 ∧ n = n2
  case neg =>
    have hne := eqAct ha
    have HNE : Hid (¬ (⟨k, n, x, rs⟩ : PSt) = ⟨k2, n2, x2, ss⟩) := fun e => ha (by injection e with e1 e2; exact ⟨e1, e2⟩)
    have HB := Lib.hid hb
    clear hb h1 h2 hc
    go_enter Tryz.func15, Tryz.ntmps15
    go_wp2
    go_ret
    exact eq_no HNE.out HB.out
  obtain ⟨rfl, rfl⟩ := ha
  by_cases hx : x = x2
  case neg =>
    have HNE : Hid (¬ (⟨k, n, x, rs⟩ : PSt) = ⟨k, n, x2, ss⟩) := fun e => hx (by injection e)
    have HB := Lib.hid hb
    clear hb h1 h2 hc
    cases x <;> cases x2 <;> first
      | exact absurd rfl hx
      | (go_enter Tryz.func15, Tryz.ntmps15
         go_wp2
         go_ret
         exact eq_no HNE.out HB.out)
  subst hx
  have HCALL := Lib.hid (rulesSame_any hl hc _ (h1.below hb) (h2.below hb))
  have HIF : Hid ((rs = ss) ↔ (⟨k, n, x, rs⟩ : PSt) = ⟨k, n, x, ss⟩) := ⟨fun e => by rw [e], fun e => by injection e⟩
  have HB := Lib.hid hb
  clear hb h1 h2 hc
  go_enter Tryz.func15, Tryz.ntmps15
  go_wp2_with fail
  refine HCALL.out.mono ?_
  rintro e w' ⟨b, rfl, h2, h3⟩
  have HE : Hid (eqPost ((⟨k, n, x, rs⟩ : PSt) = ⟨k, n, x, ss⟩) w (.returned (.bool b)) w') := eqPost.mono ⟨b, rfl, h2, h3⟩ HIF.out HB.out
  clear h2 h3
  cases b <;> (go_wp2; go_ret; exact HE.out)
end Go.Proofs.YtmjipkdejggbfaaGreatDoor
