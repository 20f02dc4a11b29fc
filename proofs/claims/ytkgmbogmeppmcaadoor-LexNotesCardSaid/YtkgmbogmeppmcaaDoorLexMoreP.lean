/- Plain facts on lines of words: a line more; how long lines put together are. -/
import Derived.Test.YtkgmbogmeppmcaaDoorLexJoin
namespace Go.Proofs.YtkgmbogmeppmcaaDoor
open Go Go.Proofs Go.RowKit

theorem pieces_snoc : ∀ (l p : List UInt8), (10 : UInt8) ∉ p → pieces (l ++ 10 :: p) = pieces l ++ [p]
  | [], p, h => by rw [List.nil_append, show (10 : UInt8) :: p = [] ++ 10 :: p from rfl, pieces_at [] p (by simp), pieces_none p h]; rfl
  | c :: r, p, h => by
    have ih := pieces_snoc r p h
    rw [List.cons_append]
    show (if c = 10 then [] :: pieces (r ++ 10 :: p) else match pieces (r ++ 10 :: p) with | [] => [[c]] | h :: t => (c :: h) :: t) = (if c = 10 then [] :: pieces r else match pieces r with | [] => [[c]] | h :: t => (c :: h) :: t) ++ [p]
    rw [ih]
    split
    · rfl
    · cases hp : pieces r with
      | nil => exact absurd hp (pieces_ne r)
      | cons a b => rfl
theorem pieces_number : ∀ l : List UInt8, (pieces l).length = l.count 10 + 1
  | [] => rfl
  | c :: r => by
    have ih := pieces_number r
    show (if c = 10 then [] :: pieces r else match pieces r with | [] => [[c]] | h :: t => (c :: h) :: t).length = _
    by_cases hc : c = 10
    · subst hc
      rw [if_pos rfl, List.length_cons, ih, List.count_cons_self]
    · rw [if_neg hc, List.count_cons_of_ne hc]
      cases hp : pieces r with
      | nil => exact absurd hp (pieces_ne r)
      | cons a b => rw [hp] at ih; exact ih
/-- Pieces all right, or not. -/
theorem lexGo_snoc : ∀ (ps : List (List UInt8)) (p : List UInt8) (n : Nat) (acc : List Ln),
    (∃ m, lexGo ps n acc = ([], m, 13) ∧ lexGo (ps ++ [p]) n acc = ([], m, 13)) ∨ (∃ acc', lexGo ps n acc = (acc', 0, 0) ∧ lexGo (ps ++ [p]) n acc = match lineOf p with | none => ([], n + ps.length, 13) | some ws => (addLn (n + ps.length) ws acc', 0, 0))
  | [], p, n, acc => by
    refine .inr ⟨acc, rfl, ?_⟩
    show (match lineOf p with | none => ([], n, 13) | some ws => lexGo [] (n + 1) (addLn n ws acc)) = _
    rfl
  | q :: r, p, n, acc => by
    rw [List.cons_append]
    show (∃ m, (match lineOf q with | none => ([], n, 13) | some ws => lexGo r (n + 1) (addLn n ws acc)) = ([], m, 13) ∧ (match lineOf q with | none => ([], n, 13) | some ws => lexGo (r ++ [p]) (n + 1) (addLn n ws acc)) = ([], m, 13)) ∨
      (∃ acc', (match lineOf q with | none => ([], n, 13) | some ws => lexGo r (n + 1) (addLn n ws acc)) = (acc', 0, 0) ∧ (match lineOf q with | none => ([], n, 13) | some ws => lexGo (r ++ [p]) (n + 1) (addLn n ws acc)) = _)
    cases lineOf q with
    | none => exact .inl ⟨n, rfl, rfl⟩
    | some ws =>
      have ih := lexGo_snoc r p (n + 1) (addLn n ws acc)
      rw [show n + 1 + r.length = n + (q :: r).length by rw [List.length_cons]; omega] at ih
      exact ih
/-- What a text is whose pieces are known. -/
theorem lexAns_of {t : ByteArray} (h : t.size ≤ 65536) : lexAns t = lexGo (pieces t.data.toList) 1 [] := by unfold lexAns; rw [if_neg (by omega)]
theorem more_cases (t l : ByteArray) (ht : t.size ≤ 60000) (hl : l.size ≤ 5000) (hno : (10 : UInt8) ∉ l.data.toList) :
    (∃ m, lexAns t = ([], m, 13) ∧ lexAns (t ++ ⟨#[10]⟩ ++ l) = ([], m, 13)) ∨
    (∃ a, lexAns t = (a, 0, 0) ∧ lexAns l = ([], 1, 13) ∧ lexAns (t ++ ⟨#[10]⟩ ++ l) = ([], t.data.toList.count 10 + 2, 13)) ∨
    (∃ a, lexAns t = (a, 0, 0) ∧ lexAns l = ([], 0, 0) ∧ lexAns (t ++ ⟨#[10]⟩ ++ l) = (a, 0, 0)) ∨
    (∃ a ws, lexAns t = (a, 0, 0) ∧ lexAns l = ([(1, ws)], 0, 0) ∧ lexAns (t ++ ⟨#[10]⟩ ++ l) = (a ++ [(t.data.toList.count 10 + 2, ws)], 0, 0)) := by
  have hs : (t ++ ⟨#[10]⟩ ++ l).size ≤ 65536 := by rw [ByteArray.size_append, ByteArray.size_append, show (⟨#[10]⟩ : ByteArray).size = 1 from rfl]; omega
  have hp : pieces (t ++ ⟨#[10]⟩ ++ l).data.toList = pieces t.data.toList ++ [l.data.toList] := by
    rw [list_append, list_append, List.append_assoc]
    exact pieces_snoc _ _ hno
  have hL : lexAns l = match lineOf l.data.toList with | none => ([], 1, 13) | some ws => (addLn 1 ws [], 0, 0) := by
    rw [lexAns_of (by omega), pieces_none _ hno]
    rfl
  rw [lexAns_of (t := t) (by omega), lexAns_of hs, hp, hL]
  have hn : 1 + (pieces t.data.toList).length = t.data.toList.count 10 + 2 := by rw [pieces_number]; omega
  rcases lexGo_snoc (pieces t.data.toList) l.data.toList 1 [] with ⟨m, h1, h2⟩ | ⟨a, h1, h2⟩
  · exact .inl ⟨m, h1, h2⟩
  · rw [hn] at h2
    rw [h2]
    cases lineOf l.data.toList with
    | none => exact .inr (.inl ⟨a, h1, rfl, rfl⟩)
    | some ws =>
      by_cases hw : ws = []
      · subst hw
        exact .inr (.inr (.inl ⟨a, h1, rfl, rfl⟩))
      · refine .inr (.inr (.inr ⟨a, ws, h1, ?_, ?_⟩))
        · show (addLn 1 ws [], 0, 0) = _
          unfold addLn
          rw [if_neg hw]
          rfl
        · show (addLn _ ws a, 0, 0) = _
          unfold addLn
          rw [if_neg hw]

/-! ### How long -/
theorem wordsGo_size : ∀ (l w : List UInt8) (out : List ByteArray), ∀ x ∈ wordsGo l w out, x ∈ out ∨ x.size ≤ w.length + l.length
  | [], w, out, x, hx => by
    have hx' : x ∈ flush w out := hx
    unfold flush at hx'
    split at hx'
    · exact .inl hx'
    · rcases List.mem_append.1 hx' with h | h
      · exact .inl h
      · simp at h
        subst h
        right
        show w.toArray.size ≤ _
        simp
  | c :: r, w, out, x, hx => by
    have hx' : x ∈ (if blkB c then wordsGo r [] (flush w out) else wordsGo r (w ++ [c]) out) := hx
    split at hx'
    · rcases wordsGo_size r [] _ x hx' with h | h
      · unfold flush at h
        split at h
        · exact .inl h
        · rcases List.mem_append.1 h with h | h
          · exact .inl h
          · simp at h
            subst h
            right
            show w.toArray.size ≤ _
            simp
      · right; simp at h ⊢; omega
    · rcases wordsGo_size r (w ++ [c]) out x hx' with h | h
      · exact .inl h
      · right; simp at h ⊢; omega
theorem lexGo_good (k : Nat) : ∀ (ps : List (List UInt8)) (n : Nat) (acc : List Ln), (∀ p ∈ ps, p.length ≤ k) → (∀ x ∈ acc, x.2 ≠ [] ∧ ∀ y ∈ x.2, y.size ≤ k) → ∀ x ∈ (lexGo ps n acc).1, x.2 ≠ [] ∧ ∀ y ∈ x.2, y.size ≤ k
  | [], _, _, _, h => h
  | p :: r, n, acc, hp, h => by
    show ∀ x ∈ (match lineOf p with | none => ([], n, 13) | some ws => lexGo r (n + 1) (addLn n ws acc)).1, _
    cases hl : lineOf p with
    | none => intro x hx; simp at hx
    | some ws =>
      refine lexGo_good k r (n + 1) _ (fun q hq => hp q (by simp [hq])) ?_
      intro x hx
      unfold addLn at hx
      split at hx
      · exact h x hx
      · rename_i hw
        rcases List.mem_append.1 hx with hx | hx
        · exact h x hx
        · simp at hx
          subst hx
          refine ⟨hw, fun y hy => ?_⟩
          unfold lineOf at hl
          rw [lineGo_eq] at hl
          split at hl
          · simp only [Option.some.injEq] at hl
            subst hl
            rcases wordsGo_size _ _ _ y hy with h | h
            · simp at h
            · have h2 := unNoted_len p
              have h3 := hp p (by simp)
              simp at h
              omega
          · cases hl
theorem join_len (k : Nat) : ∀ ws : List ByteArray, (∀ y ∈ ws, y.size ≤ k) → (lineTx ws).length ≤ ws.length * (k + 1) + 1 := by
  have tail : ∀ r : List ByteArray, (∀ y ∈ r, y.size ≤ k) → (Lib.joinTail [32] (r.map (·.data.toList))).length ≤ r.length * (k + 1) := by
    intro r
    induction r with
    | nil => intro _; simp [Lib.joinTail]
    | cons x r ih =>
      intro h
      have h1 := ih (fun y hy => h y (by simp [hy]))
      have h2 := h x (by simp)
      have h3 : x.data.size = x.size := rfl
      simp [Lib.joinTail] at h1 ⊢
      rw [Nat.add_mul]
      omega
  intro ws h
  unfold lineTx
  cases ws with
  | nil => simp [Lib.join_nil]
  | cons x r =>
    rw [List.map_cons, Lib.join_cons]
    have h1 := tail r (fun y hy => h y (by simp [hy]))
    have h2 := h x (by simp)
    have h3 : x.data.size = x.size := rfl
    simp at h1 ⊢
    rw [Nat.add_mul]
    omega
theorem joinL_len (M : Nat) : ∀ ls : List Ln, (∀ x ∈ ls, (lineTx x.2).length ≤ M) → (joinL ls).length ≤ ls.length * M
  | [], _ => by simp [joinL]
  | x :: r, h => by
    have h1 := joinL_len M r (fun y hy => h y (by simp [hy]))
    have h2 := h x (by simp)
    unfold joinL at h1 ⊢
    rw [List.flatMap_cons, List.length_append, List.length_cons, Nat.add_mul]
    omega
/-- Lines that may be put together. -/
def Fit (ls : List Ln) : Prop := ls.length ≤ 1000000 ∧ (∀ x ∈ ls, x.2.length ≤ 1000000 ∧ x.2 ≠ []) ∧ (joinL ls).length ≤ 1000000000000
theorem lexAns_fit {t : ByteArray} (ht : t.size ≤ 5000) : Fit (lexAns t).1 ∧ (lexAns t).1.length ≤ 5001 := by
  obtain ⟨h1, h2⟩ := lexAns_small (t := t) (k := 5000) ht
  have h3 : ∀ x ∈ (lexAns t).1, x.2 ≠ [] ∧ ∀ y ∈ x.2, y.size ≤ 5000 := by
    rw [lexAns_of (by omega)]
    exact lexGo_good 5000 _ _ _ (fun p hp => by have := pieces_mem _ p hp; rw [size_list] at this; omega) (fun x hx => by simp at hx)
  refine ⟨⟨by omega, fun x hx => ⟨by have := h2 x hx; omega, (h3 x hx).1⟩, ?_⟩, h1⟩
  generalize (lexAns t).1 = ls at *
  have h4 : ∀ x ∈ ls, (lineTx x.2).length ≤ 25005001 := fun x hx => by
    have h6 := join_len 5000 x.2 (h3 x hx).2
    have h5 := h2 x hx
    generalize (lineTx x.2).length = a at *
    generalize x.2.length = b at *
    omega
  have h7 := joinL_len 25005001 ls h4
  generalize (joinL ls).length = a at *
  generalize ls.length = b at *
  omega
theorem joinL_append (a b : List Ln) : joinL (a ++ b) = joinL a ++ joinL b := by unfold joinL; rw [List.flatMap_append]
theorem joinL_one (n m : Nat) (ws : List ByteArray) : joinL [(n, ws)] = joinL [(m, ws)] := rfl
end Go.Proofs.YtkgmbogmeppmcaaDoor
