/- Lines put together are a text with the same words. -/
import Derived.Test.YtkgmbogmeppmcaaDoorLexMoreP
namespace Go.Proofs.YtkgmbogmeppmcaaDoor
open Go Go.Proofs Go.RowKit

/-- A byte of a word. -/
def wB (c : UInt8) : Bool := okB c && !blkB c && c != 35
theorem wB_iff {c : UInt8} : wB c = true ↔ okB c = true ∧ blkB c = false ∧ c ≠ 35 := by
  unfold wB
  simp [and_assoc]
theorem wB_ten {c : UInt8} (h : wB c = true) : c ≠ 10 := by
  rintro rfl
  revert h
  decide
/-- A word. -/
def Wd (y : ByteArray) : Prop := y.data.toList ≠ [] ∧ ∀ c ∈ y.data.toList, wB c = true
theorem wordsGo_wd : ∀ (l w : List UInt8) (out : List ByteArray), (∀ c ∈ l, okB c = true ∧ c ≠ 35) → (∀ c ∈ w, wB c = true) → (∀ y ∈ out, Wd y) → ∀ y ∈ wordsGo l w out, Wd y := by
  have fl : ∀ (w : List UInt8) (out : List ByteArray), (∀ c ∈ w, wB c = true) → (∀ y ∈ out, Wd y) → ∀ y ∈ flush w out, Wd y := by
    intro w out hw ho y hy
    unfold flush at hy
    split at hy
    · exact ho y hy
    · rename_i hne
      rcases List.mem_append.1 hy with h | h
      · exact ho y h
      · simp at h
        subst h
        exact ⟨hne, hw⟩
  intro l
  induction l with
  | nil => intro w out _ hw ho; exact fl w out hw ho
  | cons c r ih =>
    intro w out hl hw ho
    have hr : ∀ c ∈ r, okB c = true ∧ c ≠ 35 := fun d hd => hl d (by simp [hd])
    show ∀ y ∈ (if blkB c then wordsGo r [] (flush w out) else wordsGo r (w ++ [c]) out), Wd y
    split
    · exact ih [] _ hr (fun d hd => by simp at hd) (fl w out hw ho)
    · rename_i hb
      refine ih (w ++ [c]) out hr (fun d hd => ?_) ho
      rcases List.mem_append.1 hd with h | h
      · exact hw d h
      · simp at h
        subst h
        have := hl d (by simp)
        exact wB_iff.2 ⟨this.1, by simpa using hb, this.2⟩
theorem unNoted_no : ∀ (l : List UInt8), ∀ c ∈ unNoted l, c ≠ 35
  | [], c, hc => by simp [unNoted] at hc
  | d :: r, c, hc => by
    by_cases h : d = 35
    · subst h
      rw [unNoted_note] at hc
      simp at hc
    · rw [unNoted_cons h] at hc
      rcases List.mem_cons.1 hc with rfl | hc
      · exact h
      · exact unNoted_no r c hc
theorem lineOf_wd {l : List UInt8} {ws : List ByteArray} (h : lineOf l = some ws) : ∀ y ∈ ws, Wd y := by
  unfold lineOf at h
  rw [lineGo_eq] at h
  split at h
  · rename_i hok
    simp only [Option.some.injEq] at h
    subst h
    exact wordsGo_wd _ _ _ (fun c hc => ⟨List.all_eq_true.1 hok c hc, unNoted_no l c hc⟩) (fun c hc => by simp at hc) (fun y hy => by simp at hy)
  · cases h
theorem lexGo_wd : ∀ (ps : List (List UInt8)) (n : Nat) (acc : List Ln), (∀ x ∈ acc, x.2 ≠ [] ∧ ∀ y ∈ x.2, Wd y) → ∀ x ∈ (lexGo ps n acc).1, x.2 ≠ [] ∧ ∀ y ∈ x.2, Wd y
  | [], _, _, h => h
  | p :: r, n, acc, h => by
    show ∀ x ∈ (match lineOf p with | none => ([], n, 13) | some ws => lexGo r (n + 1) (addLn n ws acc)).1, _
    cases hl : lineOf p with
    | none => intro x hx; simp at hx
    | some ws =>
      refine lexGo_wd r (n + 1) _ ?_
      intro x hx
      unfold addLn at hx
      split at hx
      · exact h x hx
      · rename_i hw
        rcases List.mem_append.1 hx with hx | hx
        · exact h x hx
        · simp at hx
          subst hx
          exact ⟨hw, lineOf_wd hl⟩
theorem lexAns_wd {t : ByteArray} : ∀ x ∈ (lexAns t).1, x.2 ≠ [] ∧ ∀ y ∈ x.2, Wd y := by
  unfold lexAns
  split
  · intro x hx; simp at hx
  · exact lexGo_wd _ _ _ (fun x hx => by simp at hx)

/-! ### Reading them again -/
theorem lineGo_word : ∀ (x rest w : List UInt8) (out : List ByteArray), (∀ c ∈ x, wB c = true) → lineGo (x ++ rest) w out = lineGo rest (w ++ x) out
  | [], rest, w, out, _ => by rw [List.nil_append, List.append_nil]
  | c :: x, rest, w, out, h => by
    obtain ⟨h1, h2, h3⟩ := wB_iff.1 (h c (by simp))
    rw [List.cons_append, lineGo_byte h3 h2 h1, lineGo_word x rest (w ++ [c]) out (fun d hd => h d (by simp [hd])), List.append_assoc]
    rfl
theorem flush_wd (y : ByteArray) (h : y.data.toList ≠ []) (out : List ByteArray) : flush y.data.toList out = out ++ [y] := by
  unfold flush
  rw [if_neg h]
theorem lineGo_tail : ∀ (r : List ByteArray) (y : ByteArray) (out : List ByteArray), y.data.toList ≠ [] → (∀ x ∈ r, Wd x) → lineGo (Lib.joinTail [32] (r.map (·.data.toList))) y.data.toList out = some (out ++ [y] ++ r)
  | [], y, out, hy, _ => by
    show some (flush _ _) = _
    rw [flush_wd y hy, List.append_nil]
  | x :: r, y, out, hy, h => by
    have hx := h x (by simp)
    have e : Lib.joinTail [32] ((x :: r).map (·.data.toList)) = 32 :: (x.data.toList ++ Lib.joinTail [32] (r.map (·.data.toList))) := by simp [Lib.joinTail]
    rw [e, lineGo_blank (by decide), flush_wd y hy, lineGo_word _ _ _ _ hx.2, List.nil_append, lineGo_tail r x _ hx.1 (fun z hz => h z (by simp [hz]))]
    simp
theorem lineOf_join {ws : List ByteArray} (hne : ws ≠ []) (h : ∀ y ∈ ws, Wd y) : lineOf (Lib.join (ws.map (·.data.toList)) [32]) = some ws := by
  cases ws with
  | nil => exact absurd rfl hne
  | cons x r =>
    have hx := h x (by simp)
    rw [List.map_cons, Lib.join_cons]
    unfold lineOf
    rw [lineGo_word _ _ _ _ hx.2, List.nil_append, lineGo_tail r x [] hx.1 (fun z hz => h z (by simp [hz]))]
    rfl
theorem join_noten {ws : List ByteArray} (h : ∀ y ∈ ws, Wd y) : (10 : UInt8) ∉ Lib.join (ws.map (·.data.toList)) [32] := by
  have tail : ∀ r : List ByteArray, (∀ y ∈ r, Wd y) → (10 : UInt8) ∉ Lib.joinTail [32] (r.map (·.data.toList)) := by
    intro r h hm
    unfold Lib.joinTail at hm
    rw [List.mem_flatten] at hm
    obtain ⟨l, hl, hm⟩ := hm
    rw [List.map_map, List.mem_map] at hl
    obtain ⟨y, hy, rfl⟩ := hl
    simp only [Function.comp_apply, List.cons_append, List.nil_append, List.mem_cons] at hm
    rcases hm with hm | hm
    · exact absurd hm (by decide)
    · exact wB_ten ((h y hy).2 _ hm) rfl
  cases ws with
  | nil => simp [Lib.join_nil]
  | cons x r =>
    rw [List.map_cons, Lib.join_cons]
    intro hm
    rcases List.mem_append.1 hm with hm | hm
    · exact wB_ten ((h x (by simp)).2 _ hm) rfl
    · exact tail r (fun y hy => h y (by simp [hy])) hm
/-- Lines numbered anew. -/
def renum : Nat → List Ln → List Ln
  | _, [] => []
  | n, x :: r => (n, x.2) :: renum (n + 1) r
theorem pieces_joinL : ∀ ls : List Ln, (∀ x ∈ ls, x.2 ≠ [] ∧ ∀ y ∈ x.2, Wd y) → pieces (joinL ls) = (ls.map fun x : Ln => Lib.join (x.2.map (fun y : ByteArray => y.data.toList)) [32]) ++ [[]]
  | [], _ => rfl
  | x :: r, h => by
    have hx := h x (by simp)
    have e : joinL (x :: r) = Lib.join (x.2.map (·.data.toList)) [32] ++ 10 :: joinL r := by
      unfold joinL
      rw [List.flatMap_cons]
      unfold lineTx
      rw [List.append_assoc]
      rfl
    rw [e, pieces_at _ _ (join_noten hx.2), pieces_joinL r (fun y hy => h y (by simp [hy]))]
    rfl
theorem lexGo_joined : ∀ (ls : List Ln) (n : Nat) (acc : List Ln), (∀ x ∈ ls, x.2 ≠ [] ∧ ∀ y ∈ x.2, Wd y) → lexGo ((ls.map fun x : Ln => Lib.join (x.2.map (fun y : ByteArray => y.data.toList)) [32]) ++ [[]]) n acc = (acc ++ renum n ls, 0, 0)
  | [], n, acc, _ => by
    show (addLn n [] acc, 0, 0) = (acc ++ [], 0, 0)
    rw [List.append_nil]
    rfl
  | x :: r, n, acc, h => by
    have hx := h x (by simp)
    rw [List.map_cons, List.cons_append]
    show (match lineOf (Lib.join (x.2.map (·.data.toList)) [32]) with | none => ([], n, 13) | some ws => lexGo ((r.map fun x : Ln => Lib.join (x.2.map (fun y : ByteArray => y.data.toList)) [32]) ++ [[]]) (n + 1) (addLn n ws acc)) = _
    rw [lineOf_join hx.1 hx.2]
    dsimp only
    rw [lexGo_joined r (n + 1) _ (fun y hy => h y (by simp [hy]))]
    unfold addLn
    rw [if_neg hx.1, List.append_assoc]
    rfl
theorem lexAns_joined {ls : List Ln} (h : ∀ x ∈ ls, x.2 ≠ [] ∧ ∀ y ∈ x.2, Wd y) (hl : (joinL ls).length ≤ 65536) : lexAns ⟨(joinL ls).toArray⟩ = (renum 1 ls, 0, 0) := by
  rw [lexAns_of (by show (joinL ls).toArray.size ≤ _; rw [List.size_toArray]; exact hl)]
  show lexGo (pieces (joinL ls)) 1 [] = _
  rw [pieces_joinL ls h, lexGo_joined ls 1 [] h]
  rfl
theorem renum_length : ∀ (n : Nat) (ls : List Ln), (renum n ls).length = ls.length
  | _, [] => rfl
  | n, x :: r => by show (renum (n + 1) r).length + 1 = _; rw [renum_length]; rfl
theorem renum_at : ∀ (ls : List Ln) (n i : Nat) (x : Ln), ls[i]? = some x → (renum n ls)[i]? = some (n + i, x.2)
  | y :: r, n, 0, x, h => by
    simp at h
    subst h
    rfl
  | y :: r, n, i + 1, x, h => by
    have := renum_at r (n + 1) i x (by simpa using h)
    show (renum (n + 1) r)[i]? = _
    rw [this, show n + 1 + i = n + (i + 1) by omega]
theorem joinL_renum : ∀ (n : Nat) (ls : List Ln), joinL (renum n ls) = joinL ls
  | _, [] => rfl
  | n, x :: r => by
    have ih := joinL_renum (n + 1) r
    unfold joinL at *
    show ((n, x.2) :: renum (n + 1) r).flatMap _ = _
    rw [List.flatMap_cons, List.flatMap_cons, ih]

/-! ### How long, closely -/
def wt (ws : List ByteArray) : Nat := (ws.map fun y => y.size + 1).sum
theorem wt_append (a b : List ByteArray) : wt (a ++ b) = wt a + wt b := by unfold wt; rw [List.map_append, List.sum_append]
theorem wt_flush (w : List UInt8) (out : List ByteArray) : wt (flush w out) ≤ wt out + 2 * w.length := by
  unfold flush
  split
  · omega
  · rename_i h
    have : 0 < w.length := List.length_pos_iff.2 h
    rw [wt_append]
    have e : wt [(⟨w.toArray⟩ : ByteArray)] = w.length + 1 := by
      show (w.toArray.size + 1) + 0 = _
      rw [List.size_toArray]
    rw [e]
    omega
theorem wt_words : ∀ (l w : List UInt8) (out : List ByteArray), wt (wordsGo l w out) ≤ wt out + 2 * w.length + 2 * l.length
  | [], w, out => by have := wt_flush w out; show wt (flush w out) ≤ _; simp; omega
  | c :: r, w, out => by
    show wt (if blkB c then wordsGo r [] (flush w out) else wordsGo r (w ++ [c]) out) ≤ _
    split
    · have h1 := wt_words r [] (flush w out)
      have h2 := wt_flush w out
      simp at h1 ⊢
      omega
    · have h1 := wt_words r (w ++ [c]) out
      simp at h1 ⊢
      omega
theorem wt_line {l : List UInt8} {ws : List ByteArray} (h : lineOf l = some ws) : wt ws ≤ 2 * l.length := by
  unfold lineOf at h
  rw [lineGo_eq] at h
  split at h
  · simp only [Option.some.injEq] at h
    subst h
    have h1 := wt_words (unNoted l) [] []
    have h2 := unNoted_len l
    simp [wt] at h1 ⊢
    omega
  · cases h
theorem lineTx_wt {ws : List ByteArray} (h : ws ≠ []) : (lineTx ws).length = wt ws := by
  have tail : ∀ r : List ByteArray, (Lib.joinTail [32] (r.map (·.data.toList))).length = wt r := by
    intro r
    induction r with
    | nil => rfl
    | cons x r ih =>
      have h3 : x.data.size = x.size := rfl
      simp [Lib.joinTail, wt] at ih ⊢
      omega
  cases ws with
  | nil => exact absurd rfl h
  | cons x r =>
    unfold lineTx
    rw [List.map_cons, Lib.join_cons, List.length_append, List.length_append, tail r]
    have h3 : x.data.size = x.size := rfl
    simp [wt, h3]
    omega
theorem joinL_cons (x : Ln) (r : List Ln) : joinL (x :: r) = lineTx x.2 ++ joinL r := by unfold joinL; rw [List.flatMap_cons]
theorem lexGo_len : ∀ (ps : List (List UInt8)) (n : Nat) (acc : List Ln), (joinL (lexGo ps n acc).1).length ≤ (joinL acc).length + 2 * (ps.map List.length).sum
  | [], _, acc => by show (joinL acc).length ≤ _; omega
  | p :: r, n, acc => by
    show (joinL (match lineOf p with | none => ([], n, 13) | some ws => lexGo r (n + 1) (addLn n ws acc)).1).length ≤ _
    cases hl : lineOf p with
    | none => simp [joinL]
    | some ws =>
      have ih := lexGo_len r (n + 1) (addLn n ws acc)
      have hw := wt_line hl
      have ha : (joinL (addLn n ws acc)).length ≤ (joinL acc).length + 2 * p.length := by
        unfold addLn
        split
        · omega
        · rename_i hne
          rw [joinL_append, List.length_append, joinL_cons, List.length_append, lineTx_wt hne]
          simp [joinL]
          omega
      simp at ih ⊢
      omega
theorem pieces_sum : ∀ l : List UInt8, ((pieces l).map List.length).sum ≤ l.length
  | [] => by simp [pieces]
  | c :: r => by
    have ih := pieces_sum r
    show ((if c = 10 then [] :: pieces r else match pieces r with | [] => [[c]] | h :: t => (c :: h) :: t).map List.length).sum ≤ _
    split
    · simp at ih ⊢; omega
    · cases hp : pieces r with
      | nil => simp
      | cons a b => rw [hp] at ih; simp at ih ⊢; omega
theorem joinL_text (t : ByteArray) : (joinL (lexAns t).1).length ≤ 2 * t.size := by
  unfold lexAns
  split
  · simp [joinL]
  · have h1 := lexGo_len (pieces t.data.toList) 1 []
    have h2 := pieces_sum t.data.toList
    rw [size_list] at h2
    simp [joinL] at h1 ⊢
    omega
end Go.Proofs.YtkgmbogmeppmcaaDoor
