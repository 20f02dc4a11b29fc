/- strainerlaw11.SystabBack: it answers true. -/
import Derived.Test.YtakmbmlpgmppiaaDoorSysRights
import Derived.Test.YtakmbmlpgmppiaaDoorSysIs
import Derived.Deep.DeepCutAuto
namespace Go.Proofs.YtakmbmlpgmppiaaDoor
open Go Go.Proofs Go.RowKit

theorem eqP_self {l : List SRow} (hT : TableOk l) {i : Nat} (hi : i < l.length) : firstIdx (eqP (l[i]!).name) l = i := by
  refine firstIdx_hit _ l i hi (fun j hj => ?_) (by simp [eqP])
  have hr := rise hT hj hi
  simp only [eqP, beq_eq_false_iff_ne, ne_eq]
  intro e
  rw [e, bl_irrefl] at hr
  cases hr
theorem atI_rnum {l : List SRow} (hT : TableOk l) {i : Nat} (hi : i < l.length) {k : Nat} (hk : k < 5) : atI l k (rnum l k i) = i := by
  unfold atI
  refine firstN_hit _ l.length 0 i (Nat.zero_le _) (by omega) (fun j _ hj => ?_) (by simp)
  have hc := (rs0 (hT i hi)).2.2.2.2 j hj
  simp only [rnum, beq_eq_false_iff_ne, ne_eq]
  intro e
  split at e <;> split at e
  · exact hc (.inl ⟨k, hk, by assumption, e⟩)
  · omega
  · omega
  · omega
theorem rsub_self {l : List SRow} (hT : TableOk l) {i : Nat} (hi : i < l.length) (h0 : 0 < (l[i]!).mux) : firstIdx (rsubP (l[i]!).mux (l[i]!).sub) l = i := by
  have hm := (rs0 (hT i hi)).2.2.1.2
  unfold muxOk at hm
  refine firstIdx_hit _ l i hi (fun j hj => ?_) ?_
  · have hc := (rs0 (hT i hi)).2.2.2.2 j hj
    cases e : rsubP (l[i]!).mux (l[i]!).sub l[j]! with
    | false => rfl
    | true =>
      simp only [rsubP, Bool.and_eq_true, beq_iff_eq, decide_eq_true_eq] at e
      exact absurd (.inr ⟨h0, e.1.2, e.2⟩) hc
  · simp only [rsubP, Bool.and_eq_true, beq_iff_eq, decide_eq_true_eq, and_true]
    omega
theorem rsub_none {l : List SRow} (mux sub : Int) (h0 : ¬ 0 < mux) : firstIdx (rsubP mux sub) l = -1 :=
  firstIdx_miss _ l (fun j _ => by
    cases e : rsubP mux sub l[j]! with
    | false => rfl
    | true =>
      simp only [rsubP, Bool.and_eq_true, beq_iff_eq, decide_eq_true_eq] at e
      omega)
theorem numAns_self {l : List SRow} (hT : TableOk l) {i : Nat} (hi : i < l.length) (k : Nat) : numAns (l[i]!).name l k = .tuple #[.int .i64 (rnum l k i), .int .i64 0] := by
  unfold numAns
  rw [eqP_self hT hi, if_neg (by omega)]
  simp
theorem atAns_self {l : List SRow} (hT : TableOk l) {i : Nat} (hi : i < l.length) {k : Nat} (hk : k < 5) : atAns l k (rnum l k i) = .tuple #[.string (l[i]!).name, .int .i64 0] := by
  unfold atAns
  rw [atI_rnum hT hi hk, if_neg (by omega)]
  simp
theorem rsubAns_self {l : List SRow} (hT : TableOk l) {i : Nat} (hi : i < l.length) (h0 : 0 < (l[i]!).mux) : rsubAns (l[i]!).mux (l[i]!).sub l = .tuple #[.string (l[i]!).name, .bool true] := by
  unfold rsubAns
  rw [rsub_self hT hi h0, if_neg (by omega)]
  simp
theorem rsubAns_none (l : List SRow) (mux sub : Int) (h0 : ¬ 0 < mux) : rsubAns mux sub l = .tuple #[.string ⟨#[]⟩, .bool false] := by
  unfold rsubAns
  rw [rsub_none mux sub h0, if_pos (by omega)]
theorem cells_num (y : SRow) (k : Nat) (hk : k < 5) : y.cells[1 + k]? = some (.int .i64 (y.num k)) := by
  match k, hk with
  | 0, _ => rfl
  | 1, _ => rfl
  | 2, _ => rfl
  | 3, _ => rfl
  | 4, _ => rfl
end Go.Proofs.YtakmbmlpgmppiaaDoor
