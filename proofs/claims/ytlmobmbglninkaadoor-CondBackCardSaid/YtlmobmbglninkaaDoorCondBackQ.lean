/- A text cut at its blanks by a loop over its bytes: plain facts. -/
import Derived.Test.YtlmobmbglninkaaDoorCondBackP
namespace Go.Proofs.YtlmobmbglninkaaDoor
open Go Go.Proofs Go.RowKit

def mkB (x : List UInt8) : ByteArray := ⟨x.toArray⟩
/-- The words that the loop has cut off ahead of round i, and where the next begins. -/
def dWords (l : List UInt8) (i : Nat) : List ByteArray := if i ≤ l.length then (cutF (l.take i)).1.map mkB else ((cutF l).1 ++ [(cutF l).2]).map mkB
def atOf (l : List UInt8) (i : Nat) : Nat := if i ≤ l.length then i - (cutF (l.take i)).2.length else i
theorem cut_le (l : List UInt8) : (cutF l).2.length ≤ l.length := by
  obtain ⟨p, hp, _⟩ := cutF_suffix l
  have := congrArg List.length hp
  rw [List.length_append] at this
  omega
theorem take_snoc' {l : List UInt8} {i : Nat} {b : UInt8} (h : l[i]? = some b) : l.take (i + 1) = l.take i ++ [b] := by
  rw [List.take_add_one, h]
  rfl
theorem d_start (l : List UInt8) : dWords l 0 = [] ∧ atOf l 0 = 0 := by
  unfold dWords atOf
  rw [if_pos (Nat.zero_le _), if_pos (Nat.zero_le _)]
  exact ⟨rfl, rfl⟩
theorem d_blank {l : List UInt8} {i : Nat} (h : l[i]? = some 32) : dWords l (i + 1) = dWords l i ++ [mkB (cutF (l.take i)).2] ∧ atOf l (i + 1) = i + 1 := by
  have hi := (List.getElem?_eq_some_iff.1 h).1
  unfold dWords atOf
  rw [if_pos (by omega), if_pos (by omega), if_pos (by omega), take_snoc' h, cutF_blank]
  exact ⟨by simp, by simp⟩
theorem d_end (l : List UInt8) : dWords l (l.length + 1) = dWords l l.length ++ [mkB (cutF (l.take l.length)).2] := by
  unfold dWords
  rw [if_neg (by omega), if_pos (Nat.le_refl _), List.take_length]
  simp
theorem d_other {l : List UInt8} {i : Nat} {b : UInt8} (h : l[i]? = some b) (hb : b ≠ 32) : dWords l (i + 1) = dWords l i ∧ atOf l (i + 1) = atOf l i := by
  have hi := (List.getElem?_eq_some_iff.1 h).1
  have hl := cut_le (l.take i)
  rw [List.length_take] at hl
  unfold dWords atOf
  rw [if_pos (by omega), if_pos (by omega), if_pos (by omega), if_pos (by omega), take_snoc' h, cutF_other _ hb]
  refine ⟨rfl, ?_⟩
  rw [List.length_append, List.length_singleton]
  omega
theorem at_le {l : List UInt8} {i : Nat} (hi : i ≤ l.length) : atOf l i ≤ i := by
  unfold atOf
  rw [if_pos hi]
  omega
theorem d_ext {T : ByteArray} {i : Nat} (hi : i ≤ T.data.toList.length) : T.extract (atOf T.data.toList i) i = mkB (cutF (T.data.toList.take i)).2 := by
  obtain ⟨p, hp, hl⟩ := cutF_suffix (T.data.toList.take i)
  have hti : (T.data.toList.take i).length = i := by rw [List.length_take]; omega
  rw [hti] at hl
  have e : atOf T.data.toList i = p.length := by unfold atOf; rw [if_pos hi]; exact hl.symm
  rw [e]
  apply ByteArray.ext
  apply Array.toList_inj.1
  rw [ByteArray.data_extract, Array.toList_extract]
  show List.take (i - p.length) (List.drop p.length T.data.toList) = (cutF (T.data.toList.take i)).2
  have e2 : (T.data.toList.take i).drop p.length = (cutF (T.data.toList.take i)).2 := by
    conv => lhs; rw [hp]
    rw [List.drop_left]
  rw [← e2, List.drop_take]
theorem d_final {T : ByteArray} {ws : List ByteArray} (h : (cutF T.data.toList).1 ++ [(cutF T.data.toList).2] = ws.map (·.data.toList)) : dWords T.data.toList (T.data.toList.length + 1) = ws := by
  unfold dWords
  rw [if_neg (by omega), h, List.map_map]
  have : ∀ x : ByteArray, (mkB ∘ fun y : ByteArray => y.data.toList) x = x := fun x => rfl
  rw [show (mkB ∘ fun y : ByteArray => y.data.toList) = id from funext this]
  simp
theorem d_len_le (l : List UInt8) : ∀ i, i ≤ l.length → (dWords l i).length ≤ i := by
  intro i hi
  induction i with
  | zero => rw [(d_start l).1]; exact Nat.le_refl _
  | succ i ih =>
    have h : l[i]? = some (l[i]'(by omega)) := List.getElem?_eq_getElem (by omega)
    have ih := ih (by omega)
    by_cases hb : l[i]'(by omega) = 32
    · rw [hb] at h
      rw [(d_blank h).1, List.length_append]
      simp
      omega
    · rw [(d_other h hb).1]
      omega
end Go.Proofs.YtlmobmbglninkaaDoor
