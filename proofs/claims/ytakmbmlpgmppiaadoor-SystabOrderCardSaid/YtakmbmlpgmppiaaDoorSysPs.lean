/- strainerlaw11.SystabPseudo: plain facts. -/
import Derived.Test.YtakmbmlpgmppiaaDoorSysBack
import Derived.Test.YtakmbmlpgmppiaaDoorMapI
namespace Go.Proofs.YtakmbmlpgmppiaaDoor
open Go Go.Proofs Go.RowKit

theorem rnum_inj {l : List SRow} (hT : TableOk l) {i j : Nat} (hi : i < l.length) (hj : j < l.length) {k : Nat} (hk : k < 5) (h : rnum l k i = rnum l k j) : i = j := by
  have h1 := atI_rnum hT hi hk
  rw [h, atI_rnum hT hj hk] at h1
  omega
theorem rnum_in {l : List SRow} (hT : TableOk l) {i : Nat} (hi : i < l.length) (hbig : l.length ≤ 1000000) {k : Nat} (hk : k < 5) : In64I (rnum l k i) := by
  have := num_in hT hi hk
  unfold inR at this
  unfold In64I rnum
  split
  · exact WalkArith.wf_i64 (by omega)
  · exact WalkArith.wf_i64 (by omega)
/-- What has been noted of the rows ahead of place i. -/
def SeenI (l : List SRow) (k i : Nat) (S : List Int) : Prop := ∀ p, p ∈ S ↔ ∃ j, j < i ∧ rnum l k j = p
theorem SeenI.nil (l : List SRow) (k : Nat) : SeenI l k 0 [] := fun p => ⟨fun h => by simp at h, fun ⟨j, h, _⟩ => absurd h (Nat.not_lt_zero _)⟩
theorem mem_addI (S : List Int) (p q : Int) : q ∈ addI S p ↔ q ∈ S ∨ q = p := by
  unfold addI
  split
  · rename_i h
    constructor
    · exact .inl
    · rintro (h2 | rfl)
      · exact h2
      · exact h
  · simp
theorem SeenI.add {l : List SRow} {k i : Nat} {S : List Int} (h : SeenI l k i S) : SeenI l k (i + 1) (addI S (rnum l k i)) := by
  intro p
  rw [mem_addI, h]
  constructor
  · rintro (⟨j, h1, h2⟩ | rfl)
    · exact ⟨j, by omega, h2⟩
    · exact ⟨i, by omega, rfl⟩
  · rintro ⟨j, h1, h2⟩
    by_cases e : j = i
    · subst e; exact .inr h2.symm
    · exact .inl ⟨j, by omega, h2⟩
theorem SeenI.fresh {l : List SRow} {k i : Nat} {S : List Int} (h : SeenI l k i S) (hT : TableOk l) (hi : i < l.length) (hk : k < 5) : decide (rnum l k i ∈ S) = false := by
  rw [decide_eq_false_iff_not, h]
  rintro ⟨j, h1, h2⟩
  have := rnum_inj hT (by omega) hi hk h2
  omega
theorem name_ne {l : List SRow} (hT : TableOk l) {i : Nat} (hi : i < l.length) : (l[i]!).name ≠ ⟨#[]⟩ := by
  obtain ⟨_, ⟨h, _⟩, _⟩ := (rs0 (hT i hi)).1
  intro e
  rw [e] at h
  exact absurd h (Nat.lt_irrefl _)
theorem ps_end {l : List SRow} {k n : Nat} {S : List Int} (h : SeenI l k n S) (hn : l.length = n) (hT : TableOk l) (hk : k < 5) (m : Int) :
    (decide (m ∈ S) = true ∧ ∃ s : ByteArray, s ≠ ⟨#[]⟩ ∧ atAns l k m = .tuple #[.string s, .int .i64 0]) ∨ (decide (m ∈ S) = false ∧ atAns l k m = .tuple #[.string ⟨#[]⟩, .int .i64 14]) := by
  by_cases hm : m ∈ S
  · obtain ⟨j, h1, h2⟩ := (h m).1 hm
    refine .inl ⟨decide_eq_true hm, (l[j]!).name, name_ne hT (by omega), ?_⟩
    rw [← h2]
    exact atAns_self hT (by omega) hk
  · refine .inr ⟨decide_eq_false hm, ?_⟩
    unfold atAns
    rw [show atI l k m = -1 from firstN_miss _ _ _ (fun j _ hj => by
      simp only [beq_eq_false_iff_ne, ne_eq]
      intro e
      exact hm ((h m).2 ⟨j, by omega, e⟩))]
    rfl
end Go.Proofs.YtakmbmlpgmppiaaDoor
