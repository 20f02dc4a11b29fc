/- What Find, Number, Name and Sub answer of a right table, taken apart; a row compared with itself. -/
import Derived.Test.YtakmbmlpgmppiaaDoorSysAwake
namespace Go.Proofs.YtakmbmlpgmppiaaDoor
open Go Go.Proofs Go.RowKit

theorem bdn {B : Nat} {a w : World} (h : Below B a w) (q : Nat) : Below B a (w.drewN q) := ⟨h.os, h.tape, h.output, h.size, h.block⟩
/-- Find's answer, taken apart. -/
def FindIs (l : List SRow) (k : Int) (y : SRow) (kk : Int) (b : Bool) : Prop :=
  (k < 0 ∧ y = SRow.zero ∧ kk = 0 ∧ b = false) ∨ (0 ≤ k ∧ k < l.length ∧ y = l[k.toNat]! ∧ kk = k ∧ b = true)
theorem findIs (t : ByteArray) (l : List SRow) : ∃ y kk b, FindIs l (firstIdx (eqP t) l) y kk b ∧ findAns t l = .tuple #[.agg #[.string y.name, .int .i64 y.n0, .int .i64 y.n1, .int .i64 y.n2, .int .i64 y.n3, .int .i64 y.n4, .int .i64 y.mux, .int .i64 y.sub], .int .i64 kk, .bool b] := by
  have hr := firstIdx_range (eqP t) l
  unfold findAns
  generalize firstIdx (eqP t) l = k at hr
  by_cases h : k < 0
  · rw [if_pos h]; exact ⟨_, _, _, .inl ⟨h, rfl, rfl, rfl⟩, rfl⟩
  · rw [if_neg h]; exact ⟨_, _, _, .inr ⟨by omega, by omega, rfl, rfl, rfl⟩, rfl⟩
/-- Sub's answer, taken apart. -/
def SubIs (l : List SRow) (j : Int) (s : ByteArray) (b : Bool) : Prop :=
  (j < 0 ∧ s = ⟨#[]⟩ ∧ b = false) ∨ (0 ≤ j ∧ j < l.length ∧ s = (l[j.toNat]!).name ∧ b = true)
theorem subIs (mux sub : Int) (l : List SRow) : ∃ s b, SubIs l (firstIdx (rsubP mux sub) l) s b ∧ rsubAns mux sub l = .tuple #[.string s, .bool b] := by
  have hr := firstIdx_range (rsubP mux sub) l
  unfold rsubAns
  generalize firstIdx (rsubP mux sub) l = k at hr
  by_cases h : k < 0
  · rw [if_pos h]; exact ⟨_, _, .inl ⟨h, rfl, rfl⟩, rfl⟩
  · rw [if_neg h]; exact ⟨_, _, .inr ⟨by omega, by omega, rfl, rfl⟩, rfl⟩
def NumIs (l : List SRow) (a : Nat) (k n e : Int) : Prop := (k < 0 ∧ n = 0 ∧ e = 14) ∨ (0 ≤ k ∧ k < l.length ∧ n = rnum l a k.toNat ∧ e = 0)
theorem numIs (t : ByteArray) (l : List SRow) (a : Nat) : ∃ n e, NumIs l a (firstIdx (eqP t) l) n e ∧ numAns t l a = .tuple #[.int .i64 n, .int .i64 e] := by
  have hr := firstIdx_range (eqP t) l
  unfold numAns
  generalize firstIdx (eqP t) l = k at hr
  by_cases h : k < 0
  · rw [if_pos h]; exact ⟨_, _, .inl ⟨h, rfl, rfl⟩, rfl⟩
  · rw [if_neg h]; exact ⟨_, _, .inr ⟨by omega, by omega, rfl, rfl⟩, rfl⟩
def AtIs (l : List SRow) (m : Int) (s : ByteArray) (e : Int) : Prop := (m < 0 ∧ s = ⟨#[]⟩ ∧ e = 14) ∨ (0 ≤ m ∧ m < l.length ∧ s = (l[m.toNat]!).name ∧ e = 0)
theorem firstN_range (q : Nat → Bool) (n : Nat) : firstN q 0 n = -1 ∨ (0 ≤ firstN q 0 n ∧ firstN q 0 n < n) := by
  rcases least q n with hm | ⟨k, hk, h1, h2⟩
  · exact .inl (firstN_miss q n 0 (fun j _ hj => hm j (by omega)))
  · rw [firstN_hit q n 0 k (Nat.zero_le _) (by omega) (fun j _ hj => h2 j hj) h1]
    right; omega
theorem atIs (l : List SRow) (a : Nat) (v : Int) : ∃ s e, AtIs l (atI l a v) s e ∧ atAns l a v = .tuple #[.string s, .int .i64 e] := by
  have hr : atI l a v = -1 ∨ _ := firstN_range (fun i => rnum l a i == v) l.length
  unfold atAns
  change atI l a v = -1 ∨ (0 ≤ atI l a v ∧ atI l a v < l.length) at hr
  generalize atI l a v = k at hr
  by_cases h : k < 0
  · rw [if_pos h]; exact ⟨_, _, .inl ⟨h, rfl, rfl⟩, rfl⟩
  · rw [if_neg h]; exact ⟨_, _, .inr ⟨by omega, by omega, rfl, rfl⟩, rfl⟩

theorem eqArr (a0 a1 a2 a3 a4 : Int) (d : Nat) (w : World) : (Op.equalIn (d + 2) 34 (.agg #[.int .i64 a0, .int .i64 a1, .int .i64 a2, .int .i64 a3, .int .i64 a4]) (.agg #[.int .i64 a0, .int .i64 a1, .int .i64 a2, .int .i64 a3, .int .i64 a4])).run Tryd.prog w = .ok true w := by
  have hs : ∀ w, (sizeOf 3).run Tryd.prog w = .ok 1 w := fun w => by kernel_rfl
  have p0 : ∀ w, (part 3 #[.int .i64 a0, .int .i64 a1, .int .i64 a2, .int .i64 a3, .int .i64 a4] 0).run Tryd.prog w = .ok (.int .i64 a0) w := fun w => by kernel_rfl
  have p1 : ∀ w, (part 3 #[.int .i64 a0, .int .i64 a1, .int .i64 a2, .int .i64 a3, .int .i64 a4] 1).run Tryd.prog w = .ok (.int .i64 a1) w := fun w => by kernel_rfl
  have p2 : ∀ w, (part 3 #[.int .i64 a0, .int .i64 a1, .int .i64 a2, .int .i64 a3, .int .i64 a4] 2).run Tryd.prog w = .ok (.int .i64 a2) w := fun w => by kernel_rfl
  have p3 : ∀ w, (part 3 #[.int .i64 a0, .int .i64 a1, .int .i64 a2, .int .i64 a3, .int .i64 a4] 3).run Tryd.prog w = .ok (.int .i64 a3) w := fun w => by kernel_rfl
  have p4 : ∀ w, (part 3 #[.int .i64 a0, .int .i64 a1, .int .i64 a2, .int .i64 a3, .int .i64 a4] 4).run Tryd.prog w = .ok (.int .i64 a4) w := fun w => by kernel_rfl
  have he : ∀ (a : Int) (w : World), (Op.equalIn (d + 1) 3 (.int .i64 a) (.int .i64 a)).run Tryd.prog w = .ok true w := fun a w => by
    rw [run_equalIn_int w d _ .i64 .i64 a a Tryd.underlying3]; simp
  unfold Op.equalIn
  simp [run_underlying Tryd.underlying34, hs, p0, p1, p2, p3, p4, he, List.range', -List.forIn_pure_yield_eq_foldl]
theorem fields33 : (Tryd.prog.fieldsOf 36).toList.map (fun f => (f.name, f.type, f.offset)) = [("Name", 9, 0), ("Numbers", 34, 1), ("Mux", 3, 6), ("Sub", 3, 7)] := by kernel_rfl
theorem eqFields_same (d : Nat) (xs : Array Value) (v : Nat → TypeId → Value) (w : World) : ∀ (fs : List Field),
    (∀ f ∈ fs, (part f.type xs f.offset).run Tryd.prog w = .ok (v f.offset f.type) w ∧ (Op.equalIn d f.type (v f.offset f.type) (v f.offset f.type)).run Tryd.prog w = .ok true w) → (Op.eqFields d xs xs fs).run Tryd.prog w = .ok true w
  | [], _ => rfl
  | f :: fs, h => by
    obtain ⟨h1, h2⟩ := h f (by simp)
    have ih := eqFields_same d xs v w fs (fun g hg => h g (by simp [hg]))
    unfold Op.eqFields
    split
    · simp only [Sem.run_bind, h1, h2, Result.andThen_ok, Bool.not_true, Bool.false_eq_true, if_false]
      exact ih
    · exact ih
theorem neqRow (r : SRow) (w : World) : (Go.binOp .neq 36 (.agg #[.string r.name, .int .i64 r.n0, .int .i64 r.n1, .int .i64 r.n2, .int .i64 r.n3, .int .i64 r.n4, .int .i64 r.mux, .int .i64 r.sub]) (.agg #[.string r.name, .int .i64 r.n0, .int .i64 r.n1, .int .i64 r.n2, .int .i64 r.n3, .int .i64 r.n4, .int .i64 r.mux, .int .i64 r.sub])).run Tryd.prog w = .ok (.bool false) w := by
  rw [run_neq_struct, run_equalIn_struct w 9999 _ _ _ (by kernel_rfl) (by kernel_rfl)]
  rw [eqFields_same 9999 _ (fun o _ => match o with | 0 => .string r.name | 1 => .agg #[.int .i64 r.n0, .int .i64 r.n1, .int .i64 r.n2, .int .i64 r.n3, .int .i64 r.n4] | 6 => .int .i64 r.mux | _ => .int .i64 r.sub) w]
  · rfl
  · intro f hf
    have h := List.mem_map_of_mem (f := fun f : Field => (f.name, f.type, f.offset)) hf
    rw [fields33] at h
    simp only [List.mem_cons, Prod.mk.injEq, List.not_mem_nil, or_false] at h
    rcases h with ⟨_, h1, h2⟩ | ⟨_, h1, h2⟩ | ⟨_, h1, h2⟩ | ⟨_, h1, h2⟩
    · rw [h1, h2]
      exact ⟨by kernel_rfl, (run_equalIn_string w 9998 9 r.name r.name Tryd.underlying9).trans (by simp)⟩
    · rw [h1, h2]
      exact ⟨by kernel_rfl, eqArr _ _ _ _ _ _ w⟩
    · rw [h1, h2]
      exact ⟨by kernel_rfl, (run_equalIn_int w 9998 3 .i64 .i64 r.mux r.mux Tryd.underlying3).trans (by simp)⟩
    · rw [h1, h2]
      exact ⟨by kernel_rfl, (run_equalIn_int w 9998 3 .i64 .i64 r.sub r.sub Tryd.underlying3).trans (by simp)⟩

end Go.Proofs.YtakmbmlpgmppiaaDoor
