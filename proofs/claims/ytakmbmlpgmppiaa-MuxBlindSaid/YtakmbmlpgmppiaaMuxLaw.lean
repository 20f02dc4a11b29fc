/- The laws of which call a record is. -/
import Derived.Test.YtakmbmlpgmppiaaMuxWays
namespace Go.Proofs.Ytakmbmlpgmppiaa
open Go Go.Proofs Go.RowKit

def name12 (l : List SRow) (j : Int) : ByteArray := if j < 0 then ⟨#[]⟩ else (l[j.toNat]!).name
theorem sub_idx {l : List SRow} (hT : TableOk l) (mux sub : Int) : firstIdx (subP mux sub) l = firstIdx (rsubP mux sub) l := by
  refine firstIdx_congr l (fun j hj => ?_)
  have h := (rs0 (hT j hj)).2.2.1.2
  unfold muxOk at h
  rw [Bool.eq_iff_iff]
  simp only [subP, rsubP, Bool.and_eq_true, beq_iff_eq, bne_iff_ne, ne_eq, decide_eq_true_eq]
  constructor
  · rintro ⟨⟨h1, h2⟩, h3⟩
    exact ⟨⟨⟨by omega, by omega⟩, h1⟩, h2⟩
  · rintro ⟨⟨⟨h1, h2⟩, h3⟩, h4⟩
    exact ⟨⟨h3, h4⟩, by omega⟩
theorem subNm_ok {l : List SRow} (hT : TableOk l) (mux sub : Int) : subNm mux sub l = name12 l (firstIdx (rsubP mux sub) l) := by
  unfold subNm name12
  rw [sub_idx hT]
theorem nameNm_ok {l : List SRow} (hT : TableOk l) {a : Nat} (ha : a < 5) (n : Int) : nameNm l a n = name12 l (atI l a n) := by
  unfold nameNm name12
  rw [nameIdx_atI hT ha]
def zeroCall : Value := .agg #[.bool false, .int .i64 0, .string ⟨#[]⟩, .bool false]
theorem muxV_ref {l : List SRow} (hT : TableOk l) (num arch a0 : Int) :
    muxV l num arch a0 = if (ref12 l num arch a0).1 < 0 then zeroCall else .agg #[.bool true, .int .i64 (ref12 l num arch a0).1, .string (name12 l (ref12 l num arch a0).2.1), .bool (ref12 l num arch a0).2.2] := by
  have hr := refSel_rng arch num
  unfold muxV ref12
  by_cases h1 : refSel arch num < 0
  · rw [if_pos h1, if_pos h1]; rfl
  · rw [if_neg h1, if_neg h1]
    by_cases h2 : refSel arch num = 2 ∧ num = 102
    · rw [if_pos h2, if_pos h2, subNm_ok hT]; rfl
    · rw [if_neg h2, if_neg h2]
      by_cases h3 : refSel arch num = 2 ∧ num = 117
      · rw [if_pos h3, if_pos h3, subNm_ok hT]; rfl
      · rw [if_neg h3, if_neg h3, nameNm_ok hT (by omega), if_neg h1]
theorem ref12_at (l : List SRow) (num arch a0 : Int) : (ref12 l num arch a0).2.1 = -1 ∨ (0 ≤ (ref12 l num arch a0).2.1 ∧ (ref12 l num arch a0).2.1 < l.length) := by
  unfold ref12
  split
  · exact .inl rfl
  · split
    · exact firstIdx_range _ l
    · split
      · exact firstIdx_range _ l
      · exact firstN_range _ _

/-- The tokens of the ABIs. -/
def tokN (k : Nat) : Int := match k with
  | 0 => 3221225534 | 1 => 3221225534 | 2 => 1073741827 | 3 => 3221225655 | _ => 3221225715
def numN (k : Nat) (n : Int) : Int := if k = 1 then n + 1073741824 else n
theorem atI_own {l : List SRow} (hT : TableOk l) {i : Nat} (hi : i < l.length) {k : Nat} (hk : k < 5) (h0 : 0 ≤ (l[i]!).num k) : atI l k ((l[i]!).num k) = i := by
  unfold atI
  refine firstN_hit _ l.length 0 i (Nat.zero_le _) (by omega) (fun j _ hj => ?_) ?_
  · have hc := (rs0 (hT i hi)).2.2.2.2 j hj
    simp only [rnum, beq_eq_false_iff_ne, ne_eq]
    intro e
    split at e
    · exact hc (.inl ⟨k, hk, h0, e⟩)
    · omega
  · simp only [rnum, beq_iff_eq]
    rw [if_pos h0]
theorem reach1 {l : List SRow} (hT : TableOk l) {i : Nat} (hi : i < l.length) {k : Nat} (hk : k < 5) (h0 : 0 ≤ (l[i]!).num k) :
    muxV l (numN k ((l[i]!).num k)) (tokN k) 0 = .agg #[.bool true, .int .i64 k, .string (l[i]!).name, .bool false] := by
  have hat := atI_own hT hi hk h0
  have hin := num_in hT hi hk
  unfold inR at hin
  have hnm := nameNm_ok hT hk ((l[i]!).num k)
  rw [hat] at hnm
  unfold name12 at hnm
  rw [if_neg (by omega), Int.toNat_natCast] at hnm
  have hno := (rs0 (hT i hi)).2.2.2.1
  have hs : refSel (tokN k) (numN k ((l[i]!).num k)) = k := by
    unfold refSel
    match k, hk with
    | 0, _ => rw [if_neg (by decide), if_neg (by decide), if_neg (by decide), if_pos (by decide), if_neg (by unfold numN; rw [if_neg (by omega)]; omega)]; rfl
    | 1, _ => rw [if_neg (by decide), if_neg (by decide), if_neg (by decide), if_pos (by decide), if_pos (by unfold numN; rw [if_pos rfl]; omega)]; rfl
    | 2, _ => rw [if_pos (by decide)]; rfl
    | 3, _ => rw [if_neg (by decide), if_pos (by decide)]; rfl
    | 4, _ => rw [if_neg (by decide), if_neg (by decide), if_pos (by decide)]; rfl
  have ho : ownN k (numN k ((l[i]!).num k)) = (l[i]!).num k := by
    unfold ownN numN
    by_cases e : k = 1
    · subst e; rw [if_pos rfl, if_pos (by decide)]; omega
    · rw [if_neg (by omega), if_neg e]
  have hm : k = 2 → numN k ((l[i]!).num k) ≠ 102 ∧ numN k ((l[i]!).num k) ≠ 117 := by
    rintro rfl
    unfold muxNo at hno
    unfold numN
    rw [if_neg (by omega)]
    exact ⟨fun h => hno (.inl h), fun h => hno (.inr h)⟩
  unfold muxV
  rw [hs, if_neg (by omega), if_neg (fun h => (hm (by omega)).1 h.2), if_neg (fun h => (hm (by omega)).2 h.2), Int.toNat_natCast, ho, hnm]
def muxNumN (m : Int) : Int := if m = 1 then 102 else 117
theorem reach2 {l : List SRow} (hT : TableOk l) {i : Nat} (hi : i < l.length) (h0 : 0 < (l[i]!).mux) (a0 : Int) (ha : a0 % 4294967296 = (l[i]!).sub) :
    muxV l (muxNumN (l[i]!).mux) 1073741827 a0 = .agg #[.bool true, .int .i64 2, .string (l[i]!).name, .bool true] := by
  have hm := (rs0 (hT i hi)).2.2.1.2
  unfold muxOk at hm
  have hf : firstIdx (rsubP (l[i]!).mux (l[i]!).sub) l = i := by
    refine firstIdx_hit _ l i hi (fun j hj => ?_) ?_
    · have hc := (rs0 (hT i hi)).2.2.2.2 j hj
      cases e : rsubP (l[i]!).mux (l[i]!).sub l[j]! with
      | false => rfl
      | true =>
        simp only [rsubP, Bool.and_eq_true, beq_iff_eq, decide_eq_true_eq] at e
        exact absurd (.inr ⟨h0, e.1.2, e.2⟩) hc
    · simp only [rsubP, Bool.and_eq_true, beq_iff_eq, decide_eq_true_eq, and_true]
      omega
  have hs : ∀ n, refSel 1073741827 n = 2 := fun n => by unfold refSel; rw [if_pos rfl]
  unfold muxV muxNumN
  rw [hs, if_neg (by omega), ha]
  by_cases e : (l[i]!).mux = 1
  · rw [if_pos e, if_pos ⟨rfl, rfl⟩, subNm_ok hT]
    rw [e] at hf
    rw [hf]
    unfold name12
    rw [if_neg (by omega), Int.toNat_natCast]
  · have e2 : (l[i]!).mux = 2 := by omega
    rw [if_neg e, if_neg (by omega), if_pos ⟨rfl, rfl⟩, subNm_ok hT]
    rw [e2] at hf
    rw [hf]
    unfold name12
    rw [if_neg (by omega), Int.toNat_natCast]
end Go.Proofs.Ytakmbmlpgmppiaa
