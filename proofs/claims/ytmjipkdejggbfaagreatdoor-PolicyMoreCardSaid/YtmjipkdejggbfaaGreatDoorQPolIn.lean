/- policy: rules that came in, in memory: at any offset. -/
import Derived.Test.YtmjipkdejggbfaaGreatDoorQPolAt
namespace Go.Proofs.YtmjipkdejggbfaaGreatDoor
open Go Go.Proofs Go.RowKit

/-- The conditions behind an address, at any offset, below a block. -/
def CondsI (N : Nat) (W : World) (ua : Option Addr) (cs : List PCond) : Prop :=
  ∀ (k : Nat) (c : PCond), cs[k]? = some c → ∃ gu off, ua = some ⟨gu, off, none⟩ ∧ gu < N ∧ W.cell? ⟨gu, off + k * 4, none⟩ = some (.int .i64 c.a) ∧ W.cell? ⟨gu, off + k * 4 + 1, none⟩ = some (.int .i64 c.o) ∧ W.cell? ⟨gu, off + k * 4 + 2, none⟩ = some (.int .u64 c.m) ∧ W.cell? ⟨gu, off + k * 4 + 3, none⟩ = some (.int .u64 c.v)
def RulesI (N : Nat) (W : World) (v : Value) (rs : List PRule) : Prop :=
  ∃ a c, v = .slice a rs.length c ∧ ∀ (i : Nat) (r : PRule), rs[i]? = some r → ∃ g off ua uc, a = some ⟨g, off, none⟩ ∧ g < N ∧ W.cell? ⟨g, off + i * 4, none⟩ = some (.string r.name) ∧ W.cell? ⟨g, off + i * 4 + 1, none⟩ = some (.int .i64 r.k) ∧ W.cell? ⟨g, off + i * 4 + 2, none⟩ = some (.int .i64 r.n) ∧ W.cell? ⟨g, off + i * 4 + 3, none⟩ = some (.slice ua r.conds.length uc) ∧ CondsI N W ua r.conds
theorem CondsI.below {N M : Nat} {W W' : World} {ua : Option Addr} {cs : List PCond} (h : CondsI N W ua cs) (hb : Below M W W') (hN : N ≤ M) : CondsI N W' ua cs := by
  intro k c hk
  obtain ⟨gu, off, e, hl, h0, h1, h2, h3⟩ := h k c hk
  have ce : ∀ j v, W.cell? ⟨gu, j, none⟩ = some v → W'.cell? ⟨gu, j, none⟩ = some v := fun j v hv => (hb.cell (p := ⟨gu, j, none⟩) (Nat.lt_of_lt_of_le hl hN)).trans hv
  exact ⟨gu, off, e, hl, ce _ _ h0, ce _ _ h1, ce _ _ h2, ce _ _ h3⟩
theorem RulesI.below {N M : Nat} {W W' : World} {v : Value} {rs : List PRule} (h : RulesI N W v rs) (hb : Below M W W') (hN : N ≤ M) : RulesI N W' v rs := by
  obtain ⟨a, c, h1, h2⟩ := h
  refine ⟨a, c, h1, fun i r hr => ?_⟩
  obtain ⟨g, off, ua, uc, e, hg, h3, h4, h5, h6, h7⟩ := h2 i r hr
  have ce : ∀ j v, W.cell? ⟨g, j, none⟩ = some v → W'.cell? ⟨g, j, none⟩ = some v := fun j v hv => (hb.cell (p := ⟨g, j, none⟩) (Nat.lt_of_lt_of_le hg hN)).trans hv
  exact ⟨g, off, ua, uc, e, hg, ce _ _ h3, ce _ _ h4, ce _ _ h5, ce _ _ h6, h7.below hb hN⟩
theorem CondsAt.toI {N : Nat} {W : World} {ua : Option Addr} {cs : List PCond} (h : CondsAt N W ua cs) : CondsI N W ua cs := by
  intro k c hk
  obtain ⟨gu, e, hl, h0, h1, h2, h3⟩ := h k c hk
  refine ⟨gu, 0, e, hl, ?_, ?_, ?_, ?_⟩ <;> rw [Nat.zero_add] <;> assumption
theorem RulesR.toI {tr tc lo : Nat} {W : World} {v : Value} {rs : List PRule} (h : RulesR tr tc lo W v rs) : RulesI W.heap.size W v rs := by
  obtain ⟨a, c, rfl⟩ := h.slice
  refine ⟨a, c, rfl, fun i r hr => ?_⟩
  obtain ⟨g, ua, uc, e, hg, h3, h4, h5, h6, h7⟩ := rules_at h hr
  refine ⟨g, 0, ua, uc, e, hg, ?_, ?_, ?_, ?_, h7.toI⟩ <;> rw [Nat.zero_add] <;> assumption
end Go.Proofs.YtmjipkdejggbfaaGreatDoor
