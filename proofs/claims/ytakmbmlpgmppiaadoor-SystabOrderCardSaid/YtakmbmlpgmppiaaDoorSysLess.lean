/- A table without one of its rows: plain facts. -/
import Derived.Test.YtakmbmlpgmppiaaDoorSysPs
namespace Go.Proofs.YtakmbmlpgmppiaaDoor
open Go Go.Proofs Go.RowKit

theorem rs_mk {l : List SRow} {j : Nat} (h1 : refNameP (l[j]!).name) (h2 : ¬ nameGe l j) (h3 : rngOk l[j]!) (h4 : ¬ muxNo l[j]!) (h5 : ∀ k, k < j → ¬ clash l[k]! l[j]!) : RowSaid l j 0 :=
  .inr ⟨h1, .inr ⟨h2, .inr ⟨h3, .inr ⟨h4, .inr ⟨rfl, h5⟩⟩⟩⟩⟩
/-- The place that a row had. -/
def was (k j : Nat) : Nat := if j < k then j else j + 1
def lessL (l : List SRow) (k : Nat) : List SRow := l.take k ++ l.drop (k + 1)
theorem lessL_len {l : List SRow} {k : Nat} (hk : k < l.length) : (lessL l k).length = l.length - 1 := by
  simp [lessL]; omega
theorem lessL_get {l : List SRow} {k j : Nat} (hk : k < l.length) (hj : j < l.length - 1) : (lessL l k)[j]! = l[was k j]! := by
  unfold lessL was
  have hl : j < (l.take k ++ l.drop (k + 1)).length := by simp; omega
  rw [getElem!_pos _ j hl]
  by_cases h : j < k
  · rw [if_pos h, List.getElem_append_left (by simp; omega), getElem!_pos l j (by omega)]
    simp
  · rw [if_neg h, List.getElem_append_right (by simp; omega), getElem!_pos l (j + 1) (by omega)]
    simp only [List.getElem_drop, List.length_take]
    congr 1
    omega
theorem was_lt {k i j : Nat} (h : i < j) : was k i < was k j := by
  unfold was; split <;> split <;> omega
theorem lessL_ok {l : List SRow} (hT : TableOk l) {k : Nat} (hk : k < l.length) : TableOk (lessL l k) := by
  intro j hj
  rw [lessL_len hk] at hj
  have hw : was k j < l.length := by unfold was; split <;> omega
  obtain ⟨h1, _, h3, h4, h5⟩ := rs0 (hT _ hw)
  refine rs_mk ?_ ?_ ?_ ?_ ?_
  · rw [lessL_get hk hj]; exact h1
  · rintro ⟨hp, hb⟩
    rw [lessL_get hk hj, lessL_get hk (show j - 1 < l.length - 1 by omega), rise hT (was_lt (by omega)) hw] at hb
    cases hb
  · rw [lessL_get hk hj]; exact h3
  · rw [lessL_get hk hj]; exact h4
  · intro i hi
    rw [lessL_get hk hj, lessL_get hk (show i < l.length - 1 by omega)]
    exact h5 _ (was_lt hi)
theorem lessL_miss {l : List SRow} (hT : TableOk l) {k : Nat} (hk : k < l.length) : firstIdx (eqP (l[k]!).name) (lessL l k) = -1 := by
  refine firstIdx_miss _ _ (fun j hj => ?_)
  rw [lessL_len hk] at hj
  rw [lessL_get hk hj]
  have hw : was k j < l.length := by unfold was; split <;> omega
  simp only [eqP, beq_eq_false_iff_ne, ne_eq]
  intro e
  by_cases h : j < k
  · have := rise hT (i := was k j) (j := k) (by unfold was; rw [if_pos h]; exact h) hk
    rw [e, bl_irrefl] at this
    cases this
  · have := rise hT (i := k) (j := was k j) (by unfold was; rw [if_neg h]; omega) hw
    rw [e, bl_irrefl] at this
    cases this
end Go.Proofs.YtakmbmlpgmppiaaDoor
