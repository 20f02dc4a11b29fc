/- Lines in memory; and what the loop over a text's lines gathers. -/
import Derived.Test.YtkgmbogmeppmcaaDoorLexPl
import Derived.Laws.OwnMore
namespace Go.Proofs.YtkgmbogmeppmcaaDoor
open Go Go.Proofs Go.RowKit Go.Shelf

theorem ownsRow_below {W W' : World} {B e size n : Nat} {v : Value} {xs : List Value} (h : W.ownsRow B e size v n xs) (hb : Below W.heap.size W W') : W'.ownsRow B e size v n xs := by
  refine ⟨h.1, ?_⟩
  rcases h.2 with h0 | ⟨g, cap, cur, hv, hB, hg, rest⟩
  · exact .inl h0
  · exact .inr ⟨g, cap, cur, hv, hB, (hb.block g (Array.getElem?_eq_some_iff.1 hg).1).trans hg, rest⟩
theorem ownsRow_mono {W : World} {B B' e size n : Nat} {v : Value} {xs : List Value} (h : W.ownsRow B e size v n xs) (hb : B' ≤ B) : W.ownsRow B' e size v n xs := by
  refine ⟨h.1, ?_⟩
  rcases h.2 with h0 | ⟨g, cap, cur, hv, hB, rest⟩
  · exact .inl h0
  · exact .inr ⟨g, cap, cur, hv, Nat.le_trans hb hB, rest⟩
theorem ownsRow_grown {W W' : World} {B e size n : Nat} {v : Value} {xs : List Value} {row : Option Nat} (h : W.ownsRow B e size v n xs) (hg : W.grownBy W' row) (hr : ∀ r, row = some r → r < B) : W'.ownsRow B e size v n xs := by
  refine ⟨h.1, ?_⟩
  rcases h.2 with h0 | ⟨g, cap, cur, hv, hB, hgg, rest⟩
  · exact .inl h0
  · exact .inr ⟨g, cap, cur, hv, hB, (hg.block g (Array.getElem?_eq_some_iff.1 hgg).1 (fun e => by have := hr g e.symm; omega)).trans hgg, rest⟩
theorem grownBy_set (W : World) (l j : Nat) (v : Value) : W.grownBy (W.setCell ⟨l, j, none⟩ v) (some l) :=
  ⟨rfl, rfl, rfl, by show W.heap.size ≤ (W.heap.modify l _).size; rw [Array.size_modify]; exact Nat.le_refl _, fun k _ hk => Below.heap_setCell W _ v k (fun e => hk (by rw [e]))⟩

/-- A row of lines, as cells. -/
def rowCells : List Value → List Ln → List Value
  | u :: us, x :: ls => .int .i64 (x.1 : Int) :: u :: rowCells us ls
  | _, _ => []
theorem rowCells_snoc : ∀ (us : List Value) (ls : List Ln) (u : Value) (x : Ln), us.length = ls.length → rowCells (us ++ [u]) (ls ++ [x]) = rowCells us ls ++ [.int .i64 (x.1 : Int), u]
  | [], [], _, _, _ => rfl
  | v :: us, y :: ls, u, x, h => by
    show _ :: _ :: rowCells (us ++ [u]) (ls ++ [x]) = _
    rw [rowCells_snoc us ls u x (by simpa using h)]
    rfl
theorem rowCells_at : ∀ (us : List Value) (ls : List Ln) (j : Nat) (u : Value) (x : Ln), us[j]? = some u → ls[j]? = some x → (rowCells us ls)[2 * j]? = some (.int .i64 (x.1 : Int)) ∧ (rowCells us ls)[2 * j + 1]? = some u
  | v :: us, y :: ls, 0, u, x, hu, hx => by
    simp at hu hx
    subst hu hx
    exact ⟨rfl, rfl⟩
  | v :: us, y :: ls, j + 1, u, x, hu, hx => by
    have := rowCells_at us ls j u x (by simpa using hu) (by simpa using hx)
    exact this
/-- Lines lie in memory, from block lo on. -/
def LinesR (tl lo : Nat) (W : World) (v : Value) (ls : List Ln) : Prop :=
  ∃ us : List Value, us.length = ls.length ∧ W.ownsRow lo tl 2 v ls.length (rowCells us ls) ∧ ∀ (j : Nat) (u : Value) (x : Ln), us[j]? = some u → ls[j]? = some x → W.ownsRow lo 9 1 u x.2.length (x.2.map Value.string)
theorem LinesR.nil (tl lo : Nat) (W : World) : LinesR tl lo W (.slice none 0 0) [] := ⟨[], rfl, World.ownsRow_nil _ _ _ _, fun j u x h => by simp at h⟩
theorem LinesR.below {tl lo : Nat} {W W' : World} {v : Value} {ls : List Ln} (h : LinesR tl lo W v ls) (hb : Below W.heap.size W W') : LinesR tl lo W' v ls := by
  obtain ⟨us, h1, h2, h3⟩ := h
  exact ⟨us, h1, ownsRow_below h2 hb, fun j u x hu hx => ownsRow_below (h3 j u x hu hx) hb⟩
theorem LinesR.mono {tl lo lo' : Nat} {W : World} {v : Value} {ls : List Ln} (h : LinesR tl lo W v ls) (hb : lo' ≤ lo) : LinesR tl lo' W v ls := by
  obtain ⟨us, h1, h2, h3⟩ := h
  exact ⟨us, h1, ownsRow_mono h2 hb, fun j u x hu hx => ownsRow_mono (h3 j u x hu hx) hb⟩
theorem LinesR.grown {tl lo : Nat} {W W' : World} {v : Value} {ls : List Ln} {row : Option Nat} (h : LinesR tl lo W v ls) (hg : W.grownBy W' row) (hr : ∀ r, row = some r → r < lo) : LinesR tl lo W' v ls := by
  obtain ⟨us, h1, h2, h3⟩ := h
  exact ⟨us, h1, ownsRow_grown h2 hg hr, fun j u x hu hx => ownsRow_grown (h3 j u x hu hx) hg hr⟩
theorem LinesR.abides {tl lo : Nat} {own : Nat → Prop} (ho : ∀ r, own r → r < lo) {α : Type} (f : α → List Ln) (v : Value) : AbidesR own (fun (s : α) W => LinesR tl lo W v (f s)) := fun s A B row hs hg hr => hs.grown hg (fun r e => ho r (hr r e))
theorem LinesR.slice {tl lo : Nat} {W : World} {v : Value} {ls : List Ln} (h : LinesR tl lo W v ls) : ∃ a c, v = .slice a ls.length c := by
  obtain ⟨us, h1, h2, h3⟩ := h
  rcases h2.2 with ⟨rfl, h0⟩ | ⟨g, cap, cur, rfl, _⟩
  · exact ⟨none, 0, by rw [h0]⟩
  · exact ⟨_, _, rfl⟩

theorem ownsRow_ne {W : World} {B B' e e' s s' n n' g : Nat} {v v' : Value} {xs xs' : List Value} (h : W.ownsRow B e s v n xs) (h' : W.ownsRow B' e' s' v' n' xs') (he : e ≠ e') (hg : v'.ownBlock = some g) : v.ownBlock ≠ some g := by
  intro hv
  rcases h.2 with ⟨rfl, _⟩ | ⟨g1, cap, cur, rfl, _, h1, _⟩
  · simp [Value.ownBlock] at hv
  · rcases h'.2 with ⟨rfl, _⟩ | ⟨g2, cap', cur', rfl, _, h2, _⟩
    · simp [Value.ownBlock] at hg
    · simp only [Value.ownBlock, Option.some.injEq] at hv hg
      subst hv
      subst hg
      rw [h1] at h2
      simp only [Option.some.injEq, Obj.cells.injEq] at h2
      exact he h2.2.1
theorem LinesR.snoc {tl lo : Nat} {W1 W3 : World} {v v' u : Value} {acc : List Ln} {us : List Value} {n : Nat} {ws : List ByteArray} (htl : tl ≠ 9) (hlen : us.length = acc.length)
    (h2 : W1.ownsRow lo tl 2 v acc.length (rowCells us acc)) (h3 : ∀ (j : Nat) (u : Value) (x : Ln), us[j]? = some u → acc[j]? = some x → W1.ownsRow lo 9 1 u x.2.length (x.2.map Value.string))
    (hu : W1.ownsRow lo 9 1 u ws.length (ws.map Value.string)) (hg : W1.grownBy W3 v.ownBlock) (h4 : W3.ownsRow lo tl 2 v' (acc.length + 1) (rowCells us acc ++ [.int .i64 (n : Int), u])) : LinesR tl lo W3 v' (acc ++ [(n, ws)]) := by
  have keep : ∀ (u : Value) (k : Nat) (xs : List Value), W1.ownsRow lo 9 1 u k xs → W3.ownsRow lo 9 1 u k xs := by
    intro u k xs h
    refine h.kept hg ?_
    cases hv : v.ownBlock with
    | none =>
      cases hub : u.ownBlock with
      | none => exact .inl rfl
      | some g => exact .inr (by simp)
    | some g => exact .inr (ownsRow_ne h h2 (Ne.symm htl) hv)
  refine ⟨us ++ [u], by simp [hlen], ?_, ?_⟩
  · rw [List.length_append, List.length_singleton, rowCells_snoc us acc u (n, ws) hlen]
    exact h4
  · intro j u' x hu' hx
    by_cases hj : j < us.length
    · rw [List.getElem?_append_left hj] at hu'
      rw [List.getElem?_append_left (by omega)] at hx
      exact keep _ _ _ (h3 j u' x hu' hx)
    · rw [List.getElem?_append_right (by omega)] at hu'
      rw [List.getElem?_append_right (by omega)] at hx
      have h0 : j - us.length = 0 := by
        have := (List.getElem?_eq_some_iff.1 hu').1
        simp at this
        omega
      rw [h0] at hu'
      rw [show j - acc.length = 0 by omega] at hx
      simp at hu' hx
      subst hu'
      subst hx
      exact keep _ _ _ hu

/-! ### What the loop gathers -/
def okAll (s : ByteArray) : Bool := s.data.toList.all okB
def wordsB (s : ByteArray) : List ByteArray := wordsGo s.data.toList [] []
def accOf (l : List (Nat × ByteArray)) : List Ln := l.flatMap fun x => if wordsB x.2 = [] then [] else [(x.1, wordsB x.2)]
theorem accOf_snoc (l : List (Nat × ByteArray)) (x : Nat × ByteArray) : accOf (l ++ [x]) = addLn x.1 (wordsB x.2) (accOf l) := by
  unfold accOf addLn
  rw [List.flatMap_append, List.flatMap_cons, List.flatMap_nil, List.append_nil]
  split <;> simp
theorem accOf_cons (x : Nat × ByteArray) (r : List (Nat × ByteArray)) : accOf (x :: r) = (if wordsB x.2 = [] then [] else [(x.1, wordsB x.2)]) ++ accOf r := by unfold accOf; rw [List.flatMap_cons]
theorem accOf_length_le : ∀ l : List (Nat × ByteArray), (accOf l).length ≤ l.length
  | [] => Nat.le_refl _
  | x :: r => by
    have := accOf_length_le r
    rw [accOf_cons, List.length_append, List.length_cons]
    split
    · rw [List.length_nil]; omega
    · rw [List.length_singleton]; omega
theorem lineOf_ok {p : List UInt8} (h : okAll ⟨(unNoted p).toArray⟩ = true) : lineOf p = some (wordsB ⟨(unNoted p).toArray⟩) := by
  unfold okAll at h
  unfold lineOf wordsB
  rw [lineGo_eq, if_pos (by simpa using h)]
theorem lineOf_bad {p : List UInt8} (h : okAll ⟨(unNoted p).toArray⟩ = false) : lineOf p = none := by
  unfold okAll at h
  unfold lineOf
  rw [lineGo_eq, if_neg (by simpa using h)]
theorem lexGo_all : ∀ (ps : List (List UInt8)) (n : Nat) (acc : List Ln), (∀ x ∈ numPieces n (ps.map fun l => ⟨l.toArray⟩), okAll x.2 = true) →
    lexGo ps n acc = (acc ++ accOf (numPieces n (ps.map fun l => ⟨l.toArray⟩)), 0, 0)
  | [], n, acc, _ => by
    show (acc, 0, 0) = _
    show _ = (acc ++ [], 0, 0)
    rw [List.append_nil]
  | p :: r, n, acc, h => by
    have h0 := h (n, ⟨(unNoted p).toArray⟩) (by show _ ∈ (n, _) :: _; exact List.mem_cons_self)
    have ih := lexGo_all r (n + 1) (addLn n (wordsB ⟨(unNoted p).toArray⟩) acc) (fun x hx => h x (by show _ ∈ (n, _) :: _; exact List.mem_cons_of_mem _ hx))
    show (match lineOf p with | none => ([], n, 13) | some ws => lexGo r (n + 1) (addLn n ws acc)) = _
    rw [lineOf_ok h0]
    dsimp only
    rw [ih]
    show _ = (acc ++ accOf ((n, ⟨(unNoted p).toArray⟩) :: numPieces (n + 1) (r.map fun l => ⟨l.toArray⟩)), 0, 0)
    congr 1
    unfold accOf addLn
    rw [List.flatMap_cons]
    split <;> simp
theorem lexGo_bad : ∀ (ps : List (List UInt8)) (n : Nat) (acc : List Ln) (init : List (Nat × ByteArray)) (x : Nat × ByteArray), init ++ [x] <+: numPieces n (ps.map fun l => ⟨l.toArray⟩) → (∀ y ∈ init, okAll y.2 = true) → okAll x.2 = false →
    lexGo ps n acc = ([], x.1, 13)
  | [], n, acc, init, x, hp, _, _ => by
    have := hp.length_le
    simp [numPieces] at this
  | p :: r, n, acc, [], x, hp, _, hx => by
    have hp' : [x] <+: (n, ⟨(unNoted p).toArray⟩) :: numPieces (n + 1) (r.map fun l => ⟨l.toArray⟩) := hp
    obtain ⟨rest, he⟩ := hp'
    simp only [List.cons_append, List.nil_append, List.cons.injEq] at he
    obtain ⟨rfl, _⟩ := he
    show (match lineOf p with | none => ([], n, 13) | some ws => lexGo r (n + 1) (addLn n ws acc)) = _
    rw [lineOf_bad hx]
  | p :: r, n, acc, y :: init, x, hp, hy, hx => by
    have hp' : y :: (init ++ [x]) <+: (n, ⟨(unNoted p).toArray⟩) :: numPieces (n + 1) (r.map fun l => ⟨l.toArray⟩) := hp
    rw [List.cons_prefix_cons] at hp'
    obtain ⟨rfl, hp'⟩ := hp'
    have h0 := hy _ List.mem_cons_self
    show (match lineOf p with | none => ([], n, 13) | some ws => lexGo r (n + 1) (addLn n ws acc)) = _
    rw [lineOf_ok h0]
    exact lexGo_bad r (n + 1) _ init x hp' (fun z hz => hy z (List.mem_cons_of_mem _ hz)) hx
theorem lexAns_long {t : ByteArray} (h : 65536 < t.size) : lexAns t = ([], 0, 3) := by unfold lexAns; rw [if_pos h]
theorem lexAns_all {t : ByteArray} (ht : t.size ≤ 65536) (h : ∀ x ∈ numPieces 1 (piecesB t), okAll x.2 = true) : lexAns t = (accOf (numPieces 1 (piecesB t)), 0, 0) := by
  unfold lexAns
  rw [if_neg (by omega), lexGo_all _ _ _ h]
  rfl
theorem lexAns_bad {t : ByteArray} (ht : t.size ≤ 65536) {init : List (Nat × ByteArray)} {x : Nat × ByteArray} (hp : init ++ [x] <+: numPieces 1 (piecesB t)) (hy : ∀ y ∈ init, okAll y.2 = true) (hx : okAll x.2 = false) : lexAns t = ([], x.1, 13) := by
  unfold lexAns
  rw [if_neg (by omega)]
  exact lexGo_bad _ _ _ init x hp hy hx
theorem numPieces_mem : ∀ (l : List ByteArray) (n : Nat) (x : Nat × ByteArray), x ∈ numPieces n l → n ≤ x.1 ∧ x.1 < n + l.length ∧ ∃ p ∈ l, x.2 = ⟨(unNoted p.data.toList).toArray⟩
  | [], _, x, h => by simp [numPieces] at h
  | p :: r, n, x, h => by
    rcases List.mem_cons.1 h with rfl | h
    · exact ⟨Nat.le_refl _, by simp, p, by simp, rfl⟩
    · obtain ⟨h1, h2, q, hq, he⟩ := numPieces_mem r (n + 1) x h
      exact ⟨by omega, by simp; omega, q, by simp [hq], he⟩
theorem numPieces_length : ∀ (l : List ByteArray) (n : Nat), (numPieces n l).length = l.length
  | [], _ => rfl
  | p :: r, n => by show (numPieces (n + 1) r).length + 1 = _; rw [numPieces_length r (n + 1)]; rfl
theorem unNoted_len (l : List UInt8) : (unNoted l).length ≤ l.length := (List.takeWhile_prefix _).length_le
theorem numPieces_size {t : ByteArray} {x : Nat × ByteArray} (h : x ∈ numPieces 1 (piecesB t)) : x.2.size ≤ t.size ∧ x.1 ≤ t.size + 1 := by
  obtain ⟨_, h2, p, hp, he⟩ := numPieces_mem _ _ _ h
  have h3 := pieces_size hp
  have h4 := pieces_len t
  refine ⟨?_, by omega⟩
  rw [he]
  show (unNoted p.data.toList).toArray.size ≤ _
  rw [List.size_toArray]
  have := unNoted_len p.data.toList
  rw [Array.length_toList] at this
  exact Nat.le_trans this h3
end Go.Proofs.YtkgmbogmeppmcaaDoor
