/- policy: a rule, a condition, in memory. -/
import Derived.Test.YtmjipkdejggbfaaGreatDoorQPolRParse
namespace Go.Proofs.YtmjipkdejggbfaaGreatDoor
open Go Go.Proofs Go.RowKit

theorem flatC_at : ∀ (l : List PCond) (k : Nat) (c : PCond), l[k]? = some c → (flatC l)[k * 4]? = some (.int .i64 c.a) ∧ (flatC l)[k * 4 + 1]? = some (.int .i64 c.o) ∧ (flatC l)[k * 4 + 2]? = some (.int .u64 c.m) ∧ (flatC l)[k * 4 + 3]? = some (.int .u64 c.v)
  | x :: l, 0, c, h => by
    simp at h
    subst h
    exact ⟨rfl, rfl, rfl, rfl⟩
  | x :: l, k + 1, c, h => by
    have ih := flatC_at l k c (by simpa using h)
    have e : ∀ j, (flatC (x :: l))[(k + 1) * 4 + j]? = (flatC l)[k * 4 + j]? := fun j => by
      show (condC x ++ flatC l)[(k + 1) * 4 + j]? = _
      rw [List.getElem?_append_right (by show 4 ≤ _; omega)]
      congr 1
      show (k + 1) * 4 + j - 4 = _
      omega
    exact ⟨(e 0).trans ih.1, (e 1).trans ih.2.1, (e 2).trans ih.2.2.1, (e 3).trans ih.2.2.2⟩
theorem flatR_at : ∀ (rs : List PRule) (us : List Value) (i : Nat) (r : PRule) (u : Value), rs[i]? = some r → us[i]? = some u → (flatR rs us)[i * 4]? = some (.string r.name) ∧ (flatR rs us)[i * 4 + 1]? = some (.int .i64 r.k) ∧ (flatR rs us)[i * 4 + 2]? = some (.int .i64 r.n) ∧ (flatR rs us)[i * 4 + 3]? = some u
  | x :: rs, v :: us, 0, r, u, h, h2 => by
    simp at h h2
    subst h h2
    exact ⟨rfl, rfl, rfl, rfl⟩
  | x :: rs, v :: us, i + 1, r, u, h, h2 => by
    have ih := flatR_at rs us i r u (by simpa using h) (by simpa using h2)
    have e : ∀ j, (flatR (x :: rs) (v :: us))[(i + 1) * 4 + j]? = (flatR rs us)[i * 4 + j]? := fun j => by
      show (ruleC x v ++ flatR rs us)[(i + 1) * 4 + j]? = _
      rw [List.getElem?_append_right (by show 4 ≤ _; omega)]
      congr 1
      show (i + 1) * 4 + j - 4 = _
      omega
    exact ⟨(e 0).trans ih.1, (e 1).trans ih.2.1, (e 2).trans ih.2.2.1, (e 3).trans ih.2.2.2⟩
/-- The conditions behind an address, below a block. -/
def CondsAt (N : Nat) (W : World) (ua : Option Addr) (cs : List PCond) : Prop :=
  ∀ (k : Nat) (c : PCond), cs[k]? = some c → ∃ gu, ua = some ⟨gu, 0, none⟩ ∧ gu < N ∧ W.cell? ⟨gu, k * 4, none⟩ = some (.int .i64 c.a) ∧ W.cell? ⟨gu, k * 4 + 1, none⟩ = some (.int .i64 c.o) ∧ W.cell? ⟨gu, k * 4 + 2, none⟩ = some (.int .u64 c.m) ∧ W.cell? ⟨gu, k * 4 + 3, none⟩ = some (.int .u64 c.v)
theorem CondsAt.below {N M : Nat} {W W' : World} {ua : Option Addr} {cs : List PCond} (h : CondsAt N W ua cs) (hb : Below M W W') (hN : N ≤ M) : CondsAt N W' ua cs := by
  intro k c hk
  obtain ⟨gu, e, hl, h0, h1, h2, h3⟩ := h k c hk
  have ce : ∀ j v, W.cell? ⟨gu, j, none⟩ = some v → W'.cell? ⟨gu, j, none⟩ = some v := fun j v hv => (hb.cell (p := ⟨gu, j, none⟩) (Nat.lt_of_lt_of_le hl hN)).trans hv
  exact ⟨gu, e, hl, ce _ _ h0, ce _ _ h1, ce _ _ h2, ce _ _ h3⟩
theorem rules_at {tr tc lo : Nat} {W : World} {a : Option Addr} {n c : Nat} {rs : List PRule} (h : RulesR tr tc lo W (.slice a n c) rs) {i : Nat} {r : PRule} (hr : rs[i]? = some r) :
    ∃ g ua uc, a = some ⟨g, 0, none⟩ ∧ g < W.heap.size ∧ W.cell? ⟨g, i * 4, none⟩ = some (.string r.name) ∧ W.cell? ⟨g, i * 4 + 1, none⟩ = some (.int .i64 r.k) ∧ W.cell? ⟨g, i * 4 + 2, none⟩ = some (.int .i64 r.n) ∧ W.cell? ⟨g, i * 4 + 3, none⟩ = some (.slice ua r.conds.length uc) ∧ CondsAt W.heap.size W ua r.conds := by
  obtain ⟨us, h1, h2, h3⟩ := h
  have hil := (List.getElem?_eq_some_iff.1 hr).1
  obtain ⟨u, hu⟩ : ∃ u, us[i]? = some u := ⟨_, List.getElem?_eq_getElem (by omega)⟩
  obtain ⟨c0, c1, c2, c3⟩ := flatR_at rs us i r u hr hu
  have hw := h3 i u r hu hr
  rcases h2.2 with ⟨hv, h0⟩ | ⟨g, cap, cur, hv, _, hg, _⟩
  · omega
  · cases hv
    have d0 := h2.cellAt (i * 4) (by omega)
    have d1 := h2.cellAt (i * 4 + 1) (by omega)
    have d2 := h2.cellAt (i * 4 + 2) (by omega)
    have d3 := h2.cellAt (i * 4 + 3) (by omega)
    rw [c0] at d0
    rw [c1] at d1
    rw [c2] at d2
    rw [c3] at d3
    rcases hw.2 with ⟨rfl, h0⟩ | ⟨gu, capu, curu, rfl, _, hgu, hcu, _⟩
    · refine ⟨g, none, 0, rfl, (Array.getElem?_eq_some_iff.1 hg).1, d0, d1, d2, by rw [d3, h0], fun k c hk => ?_⟩
      have := (List.getElem?_eq_some_iff.1 hk).1
      omega
    · refine ⟨g, some ⟨gu, 0, none⟩, capu, rfl, (Array.getElem?_eq_some_iff.1 hg).1, d0, d1, d2, d3, fun k c hk => ?_⟩
      have hkl := (List.getElem?_eq_some_iff.1 hk).1
      obtain ⟨k0, k1, k2, k3⟩ := flatC_at r.conds k c hk
      exact ⟨gu, rfl, (Array.getElem?_eq_some_iff.1 hgu).1, (hw.cellAt _ (by omega)).trans k0, (hw.cellAt _ (by omega)).trans k1, (hw.cellAt _ (by omega)).trans k2, (hw.cellAt _ (by omega)).trans k3⟩
end Go.Proofs.YtmjipkdejggbfaaGreatDoor
