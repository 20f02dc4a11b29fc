/- systab.Right: what the map of numbers holds. -/
import Derived.Test.YtakmbmlpgmppiaaDoorSysRanged
import Derived.Test.YtakmbmlpgmppiaaDoorSysRight
namespace Go.Proofs.YtakmbmlpgmppiaaDoor
open Go Go.Proofs Go.RowKit

/-- What has been noted of the rows ahead of place i. -/
def seenP (l : List SRow) (i : Nat) (p : Int × Int) : Prop :=
  ∃ k, k < i ∧ ((∃ a : Nat, a < 5 ∧ 0 ≤ (l[k]!).num a ∧ p = ((a : Int), (l[k]!).num a)) ∨ (0 < (l[k]!).mux ∧ p = (5 + (l[k]!).mux, (l[k]!).sub)))
/-- What has been noted of a row's numbers, of the ABIs ahead of a. -/
def partP (y : SRow) (a : Nat) (p : Int × Int) : Prop := ∃ a' : Nat, a' < a ∧ a' < 5 ∧ 0 ≤ y.num a' ∧ p = ((a' : Int), y.num a')
def SeenAt (l : List SRow) (i : Nat) (y : SRow) (a : Nat) (S : List (Int × Int)) : Prop := ∀ p, p ∈ S ↔ seenP l i p ∨ partP y a p

theorem mem_addS (S : List (Int × Int)) (p q : Int × Int) : q ∈ addS S p ↔ q ∈ S ∨ q = p := by
  unfold addS
  split
  · rename_i h
    constructor
    · exact .inl
    · rintro (h2 | rfl)
      · exact h2
      · exact h
  · simp
theorem SeenAt.num {l : List SRow} {i a : Nat} {y : SRow} {S : List (Int × Int)} (h : SeenAt l i y a S) (ha : a < 5) (h0 : 0 ≤ y.num a) : ((a : Int), y.num a) ∈ S ↔ ∃ k, k < i ∧ (l[k]!).num a = y.num a := by
  rw [h]
  constructor
  · rintro (⟨k, hk, ⟨b, hb, h1, h2⟩ | ⟨h1, h2⟩⟩ | ⟨b, hb, _, _, h2⟩)
    · simp only [Prod.mk.injEq] at h2
      obtain rfl : a = b := by omega
      exact ⟨k, hk, h2.2.symm⟩
    · simp only [Prod.mk.injEq] at h2
      omega
    · simp only [Prod.mk.injEq] at h2
      omega
  · rintro ⟨k, hk, h1⟩
    exact .inl ⟨k, hk, .inl ⟨a, ha, by rw [h1]; exact h0, by rw [h1]⟩⟩
theorem SeenAt.mux {l : List SRow} {i a : Nat} {y : SRow} {S : List (Int × Int)} (h : SeenAt l i y a S) (h0 : 0 < y.mux) : (5 + y.mux, y.sub) ∈ S ↔ ∃ k, k < i ∧ (l[k]!).mux = y.mux ∧ (l[k]!).sub = y.sub := by
  rw [h]
  constructor
  · rintro (⟨k, hk, ⟨b, hb, h1, h2⟩ | ⟨h1, h2⟩⟩ | ⟨b, hb, hb5, _, h2⟩)
    · simp only [Prod.mk.injEq] at h2
      omega
    · simp only [Prod.mk.injEq] at h2
      exact ⟨k, hk, by omega, by omega⟩
    · simp only [Prod.mk.injEq] at h2
      omega
  · rintro ⟨k, hk, h1, h2⟩
    exact .inl ⟨k, hk, .inr ⟨by omega, by rw [h1, h2]⟩⟩
theorem SeenAt.skip {l : List SRow} {i a : Nat} {y : SRow} {S : List (Int × Int)} (h : SeenAt l i y a S) (h0 : y.num a = -1) : SeenAt l i y (a + 1) S := by
  intro p
  rw [h]
  constructor
  · rintro (h | ⟨b, h1, h2, h3, h4⟩)
    · exact .inl h
    · exact .inr ⟨b, by omega, h2, h3, h4⟩
  · rintro (h | ⟨b, h1, h2, h3, h4⟩)
    · exact .inl h
    · refine .inr ⟨b, ?_, h2, h3, h4⟩
      by_cases e : b = a
      · subst e; omega
      · omega
theorem SeenAt.add {l : List SRow} {i a : Nat} {y : SRow} {S : List (Int × Int)} (h : SeenAt l i y a S) (ha : a < 5) (h0 : 0 ≤ y.num a) : SeenAt l i y (a + 1) (addS S ((a : Int), y.num a)) := by
  intro p
  rw [mem_addS, h]
  constructor
  · rintro ((h | ⟨b, h1, h2, h3, h4⟩) | rfl)
    · exact .inl h
    · exact .inr ⟨b, by omega, h2, h3, h4⟩
    · exact .inr ⟨a, by omega, ha, h0, rfl⟩
  · rintro (h | ⟨b, h1, h2, h3, h4⟩)
    · exact .inl (.inl h)
    · by_cases e : b = a
      · subst e; exact .inr h4
      · exact .inl (.inr ⟨b, by omega, h2, h3, h4⟩)
theorem seenP_succ (l : List SRow) (i : Nat) (p : Int × Int) : seenP l (i + 1) p ↔ seenP l i p ∨ partP l[i]! 5 p ∨ (0 < (l[i]!).mux ∧ p = (5 + (l[i]!).mux, (l[i]!).sub)) := by
  constructor
  · rintro ⟨k, hk, h⟩
    by_cases e : k = i
    · subst e
      rcases h with ⟨a, h1, h2, h3⟩ | h
      · exact .inr (.inl ⟨a, h1, h1, h2, h3⟩)
      · exact .inr (.inr h)
    · exact .inl ⟨k, by omega, h⟩
  · rintro (⟨k, hk, h⟩ | ⟨a, h1, h2, h3, h4⟩ | h)
    · exact ⟨k, by omega, h⟩
    · exact ⟨i, by omega, .inl ⟨a, h2, h3, h4⟩⟩
    · exact ⟨i, by omega, .inr h⟩
def Seen (l : List SRow) (i : Nat) (S : List (Int × Int)) : Prop := ∀ p, p ∈ S ↔ seenP l i p
theorem Seen.start {l : List SRow} {i : Nat} {S : List (Int × Int)} (h : Seen l i S) (y : SRow) : SeenAt l i y 0 S := by
  intro p
  rw [h]
  constructor
  · exact .inl
  · rintro (h | ⟨b, h1, _⟩)
    · exact h
    · omega
theorem SeenAt.done {l : List SRow} {i : Nat} {y : SRow} {S : List (Int × Int)} (h : SeenAt l i y 5 S) (hy : l[i]! = y) (h0 : ¬ 0 < y.mux) : Seen l (i + 1) S := by
  intro p
  rw [h, seenP_succ, hy]
  constructor
  · rintro (h | h)
    · exact .inl h
    · exact .inr (.inl h)
  · rintro (h | h | h)
    · exact .inl h
    · exact .inr h
    · exact absurd h.1 h0
theorem SeenAt.doneMux {l : List SRow} {i : Nat} {y : SRow} {S : List (Int × Int)} (h : SeenAt l i y 5 S) (hy : l[i]! = y) (h0 : 0 < y.mux) : Seen l (i + 1) (addS S (5 + y.mux, y.sub)) := by
  intro p
  rw [mem_addS, h, seenP_succ, hy]
  constructor
  · rintro ((h | h) | h)
    · exact .inl h
    · exact .inr (.inl h)
    · exact .inr (.inr ⟨h0, h⟩)
  · rintro (h | h | h)
    · exact .inl (.inl h)
    · exact .inl (.inr h)
    · exact .inr h.2
theorem Seen.nil (l : List SRow) : Seen l 0 [] := by
  intro p
  constructor
  · intro h; simp at h
  · rintro ⟨k, hk, _⟩; omega

/-- Only block B, and blocks behind, have turned. -/
structure Kept1 (B : Nat) (W W' : World) : Prop where
  os : W'.os = W.os
  tape : W'.tape = W.tape
  output : W'.output = W.output
  size : W.heap.size ≤ W'.heap.size
  block : ∀ b, b < W.heap.size → b ≠ B → W'.heap[b]? = W.heap[b]?
theorem Kept1.blk {B : Nat} {W W' : World} (h : Kept1 B W W') {b : Nat} {t : TypeId} {cs : Array Value} (hb : Blk W b t cs) (hne : b ≠ B) : Blk W' b t cs := (h.block b hb.lt hne).trans hb
theorem Kept1.below {B n : Nat} {w W W' : World} (h : Kept1 B W W') (hb : Below n w W) (hn : n ≤ B) (hs : n ≤ W.heap.size) : Below n w W' :=
  ⟨by rw [h.os, hb.os], by rw [h.tape, hb.tape], by rw [h.output, hb.output], Nat.le_trans hb.size h.size, fun b hlt => (h.block b (by omega) (by omega)).trans (hb.block b hlt)⟩
theorem MetPost.kept {B : Nat} {S : List (Int × Int)} {p : Int × Int} {w w' : World} {e : Ending} (h : MetPost B S p w e w') : e = .returned (.bool (decide (p ∈ S))) ∧ MapS w' B (addS S p) ∧ Kept1 B w w' :=
  ⟨h.1, h.2.1, ⟨h.2.2.2.1.symm, h.2.2.2.2.1.symm, h.2.2.2.2.2.1.symm, h.2.2.1, h.2.2.2.2.2.2⟩⟩
end Go.Proofs.YtakmbmlpgmppiaaDoor
