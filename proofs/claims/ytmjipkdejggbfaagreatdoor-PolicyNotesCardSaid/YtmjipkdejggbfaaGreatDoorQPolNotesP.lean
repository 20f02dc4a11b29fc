/- Blanks, empty lines and notes in a policy's text: plain facts. -/
import Derived.Test.YtmjipkdejggbfaaGreatDoorQPolTextQ
namespace Go.Proofs.YtmjipkdejggbfaaGreatDoor
open Go Go.Proofs Go.RowKit

/-- What a byte of a text becomes. -/
def noteB (note : List UInt8) (c : UInt8) : List UInt8 := if c = 32 then [32, 9, 32] else if c = 10 then [13, 35] ++ note ++ [10, 32, 10] else [c]
def notedL (note l : List UInt8) : List UInt8 := l.flatMap (noteB note)
def notedAll (note l : List UInt8) : List UInt8 := [35, 32] ++ note ++ [10, 10, 9] ++ notedL note l
theorem notedL_cons (note : List UInt8) (c : UInt8) (r : List UInt8) : notedL note (c :: r) = noteB note c ++ notedL note r := by unfold notedL; rw [List.flatMap_cons]
theorem notedL_app (note a b : List UInt8) : notedL note (a ++ b) = notedL note a ++ notedL note b := by unfold notedL; rw [List.flatMap_append]
theorem notedL_take (note l : List UInt8) (i : Nat) (c : UInt8) (h : l[i]? = some c) : notedL note (l.take (i + 1)) = notedL note (l.take i) ++ noteB note c := by
  unfold notedL
  rw [List.take_add_one, h, List.flatMap_append]
  simp
theorem notedL_len (note : List UInt8) (hn : note.length ≤ 30) : ∀ l : List UInt8, (notedL note l).length ≤ 3 * l.length + 35 * l.count 10
  | [] => by simp [notedL]
  | c :: r => by
    have ih := notedL_len note hn r
    rw [notedL_cons, List.length_append, List.length_cons, List.count_cons]
    have : (noteB note c).length ≤ 3 + 35 * (if (c == 10) = true then 1 else 0) := by
      unfold noteB
      by_cases h32 : c = 32
      · rw [if_pos h32]; simp
      · rw [if_neg h32]
        by_cases h10 : c = 10
        · rw [if_pos h10, if_pos (by simp [h10])]; simp; omega
        · rw [if_neg h10]; exact Nat.le_trans (show 1 ≤ 3 by decide) (Nat.le_add_right 3 _)
    omega
theorem notedL_word (note : List UInt8) : ∀ l : List UInt8, (∀ c ∈ l, wB c = true) → notedL note l = l
  | [], _ => rfl
  | c :: r, h => by
    have hc := h c (by simp)
    have h10 : c ≠ 10 := wB_ten hc
    have h32 : c ≠ 32 := by rintro rfl; revert hc; decide
    rw [notedL_cons, notedL_word note r (fun d hd => h d (by simp [hd]))]
    unfold noteB
    rw [if_neg h32, if_neg h10]
    rfl
theorem notedL_join (note : List UInt8) {ws : List ByteArray} (h : ∀ y ∈ ws, Wd y) : notedL note (Lib.join (ws.map (·.data.toList)) [32]) = Lib.join (ws.map (·.data.toList)) [32, 9, 32] := by
  have tail : ∀ r : List ByteArray, (∀ y ∈ r, Wd y) → notedL note (Lib.joinTail [32] (r.map (·.data.toList))) = Lib.joinTail [32, 9, 32] (r.map (·.data.toList)) := by
    intro r
    induction r with
    | nil => intro _; rfl
    | cons x r ih =>
      intro h
      rw [List.map_cons, joinTail_cons, joinTail_cons, notedL_app, notedL_app, ih (fun y hy => h y (by simp [hy])), notedL_word note _ (h x (by simp)).2]
      rfl
  cases ws with
  | nil => rfl
  | cons x r =>
    rw [List.map_cons, Lib.join_cons, Lib.join_cons, notedL_app, tail r (fun y hy => h y (by simp [hy])), notedL_word note _ (h x (by simp)).2]
theorem notedL_line (note : List UInt8) {ws : List ByteArray} (h : ∀ y ∈ ws, Wd y) : notedL note (lineTx ws) = Lib.join (ws.map (·.data.toList)) [32, 9, 32] ++ ([13, 35] ++ note ++ [10, 32, 10]) := by
  unfold lineTx
  rw [notedL_app, notedL_join note h, notedL_cons]
  congr 1
  show ([13, 35] ++ note ++ [10, 32, 10]) ++ [] = _
  rw [List.append_nil]
/-- The lines' words, with the empty lines between. -/
def spaced : List (List ByteArray) → List (List ByteArray)
  | [] => [[]]
  | x :: r => x :: [] :: spaced r
theorem spaced_filter : ∀ wss : List (List ByteArray), Good wss → (spaced wss).filter (fun ws => !ws.isEmpty) = wss
  | [], _ => rfl
  | x :: r, h => by
    have ih := spaced_filter r (fun y hy => h y (by simp [hy]))
    have hx : x.isEmpty = false := by
      have := (h x (by simp)).1
      cases x with
      | nil => exact absurd rfl this
      | cons a b => rfl
    unfold spaced
    rw [List.filter_cons, if_pos (by rw [hx]; rfl), List.filter_cons, if_neg (by simp), ih]
theorem pieces_noted {note : List UInt8} (hno : (10 : UInt8) ∉ note) : ∀ (wss : List (List ByteArray)) (pre : List UInt8), Good wss → (∀ c ∈ pre, blkB c = true) → (pieces (pre ++ notedL note (textOf wss))).map lineOf = (spaced wss).map some
  | [], pre, _, hp => by
    have h10 : (10 : UInt8) ∉ pre := fun h => by have := hp _ h; revert this; decide
    show (pieces (pre ++ [])).map lineOf = [some []]
    rw [List.append_nil, pieces_none pre h10]
    have : lineOf pre = some [] := by
      have := lineGo_pre pre [] [] hp
      rw [List.append_nil] at this
      unfold lineOf
      rw [this]
      rfl
    rw [List.map_cons, this]
    rfl
  | x :: r, pre, h, hp => by
    have h10 : (10 : UInt8) ∉ pre := fun h => by have := hp _ h; revert this; decide
    have hx := h x (by simp)
    have ih := pieces_noted hno r [] (fun y hy => h y (by simp [hy])) (fun c hc => by cases hc)
    rw [List.nil_append] at ih
    have e : pre ++ notedL note (textOf (x :: r)) = (pre ++ Lib.join (x.map (·.data.toList)) [32, 9, 32] ++ 13 :: 35 :: note) ++ 10 :: ([32] ++ 10 :: notedL note (textOf r)) := by
      have : textOf (x :: r) = lineTx x ++ textOf r := by unfold textOf; rw [List.flatMap_cons]
      rw [this, notedL_app, notedL_line note hx.2]
      simp
    have n1 : (10 : UInt8) ∉ pre ++ Lib.join (x.map (·.data.toList)) [32, 9, 32] ++ 13 :: 35 :: note := by
      intro hm
      rcases List.mem_append.1 hm with hm | hm
      · rcases List.mem_append.1 hm with hm | hm
        · exact h10 hm
        · exact join_noten (by decide) hx.2 hm
      · simp at hm
        exact hno hm
    rw [e, pieces_at _ _ n1, pieces_at [32] _ (by decide), List.map_cons, List.map_cons, ih]
    rw [lineOf_joinS hp ⟨32, [9, 32], rfl, by decide, by decide⟩ (tail_note note) hx.1 hx.2]
    rfl
theorem lexAns_noted {note : List UInt8} (hno : (10 : UInt8) ∉ note) {wss : List (List ByteArray)} (h : Good wss) {t : ByteArray} (ht : t.data.toList = notedAll note (textOf wss)) (hl : (notedAll note (textOf wss)).length ≤ 65536) : ∃ ls, lexAns t = (ls, 0, 0) ∧ ls.map (·.2) = wss := by
  have hts : t.size ≤ 65536 := by rw [← size_list, ht]; exact hl
  have e : notedAll note (textOf wss) = ([35, 32] ++ note) ++ 10 :: ([] ++ 10 :: ([9] ++ notedL note (textOf wss))) := by
    unfold notedAll
    simp
  have n1 : (10 : UInt8) ∉ [35, 32] ++ note := by
    intro hm
    simp at hm
    exact hno hm
  have hk : (pieces t.data.toList).map lineOf = ([] :: [] :: spaced wss).map some := by
    rw [ht, e, pieces_at _ _ n1, pieces_at [] _ (by decide), List.map_cons, List.map_cons, pieces_noted hno wss [9] h (by decide)]
    rfl
  obtain ⟨ls, h1, h2⟩ := lexAns_known hts hk
  refine ⟨ls, h1, ?_⟩
  rw [h2, List.filter_cons, if_neg (by simp), List.filter_cons, if_neg (by simp), spaced_filter wss h]
theorem count_text : ∀ wss : List (List ByteArray), Good wss → (textOf wss).count 10 = wss.length
  | [], _ => rfl
  | x :: r, h => by
    have ih := count_text r (fun y hy => h y (by simp [hy]))
    have : textOf (x :: r) = lineTx x ++ textOf r := by unfold textOf; rw [List.flatMap_cons]
    rw [this, List.count_append, ih]
    unfold lineTx
    rw [List.count_append, List.count_eq_zero.2 (join_noten (by decide) (h x (by simp)).2), List.length_cons]
    have : List.count (10 : UInt8) [10] = 1 := by decide
    omega
theorem polWs_len (p : PSt) : (polWs p).length ≤ 2 + p.rules.length := by
  obtain ⟨k, n, x, rs⟩ := p
  cases x <;> simp [polWs, xWs] <;> omega
theorem noted_fits {p : PSt} (hok : polOk p = true) (hl : (polTx p).length ≤ 20000) (hr : p.rules.length ≤ 40) {note : List UInt8} (hn : note.length ≤ 30) : (notedAll note (polTx p)).length ≤ 65536 := by
  have h1 := notedL_len note hn (polTx p)
  have h2 : (polTx p).count 10 = (polWs p).length := count_text _ (good_pol hok)
  have h3 := polWs_len p
  unfold notedAll
  simp only [List.length_append, List.length_cons, List.length_nil]
  omega
theorem polAns_noted {p : PSt} (hok : polOk p = true) (hn : PolN p) (hl : (polTx p).length ≤ 20000) (hr : p.rules.length ≤ 40) {note : List UInt8} (hln : note.length ≤ 30) (hno : (10 : UInt8) ∉ note) {t : ByteArray} (ht : t.data.toList = notedAll note (polTx p)) : polAns t = (p, 0, 0) := by
  obtain ⟨ls, h1, h2⟩ := lexAns_noted hno (good_pol hok) ht (noted_fits hok hl hr hln)
  exact polAns_lines hok hn h1 h2
end Go.Proofs.YtmjipkdejggbfaaGreatDoor
