/- Notes and blanks change nothing: plain facts. -/
import Derived.Test.YtkgmbogmeppmcaaDoorLexMoreP
namespace Go.Proofs.YtkgmbogmeppmcaaDoor
open Go Go.Proofs Go.RowKit

/-- What a byte of a text becomes. -/
def noteB (note : List UInt8) (c : UInt8) : List UInt8 := if c = 10 then [13, 32, 35] ++ note ++ [10] ++ [32] else [c]
def notedL (note l : List UInt8) : List UInt8 := l.flatMap (noteB note)
theorem notedL_cons (note : List UInt8) (c : UInt8) (r : List UInt8) : notedL note (c :: r) = noteB note c ++ notedL note r := by unfold notedL; rw [List.flatMap_cons]
theorem notedL_take (note l : List UInt8) (i : Nat) (c : UInt8) (h : l[i]? = some c) : notedL note (l.take (i + 1)) = notedL note (l.take i) ++ noteB note c := by
  unfold notedL
  rw [List.take_add_one, h, List.flatMap_append]
  simp
theorem notedL_len (note : List UInt8) (hn : note.length ≤ 50) : ∀ l : List UInt8, (notedL note l).length ≤ 55 * l.length
  | [] => by simp [notedL]
  | c :: r => by
    have ih := notedL_len note hn r
    rw [notedL_cons, List.length_append, List.length_cons]
    have : (noteB note c).length ≤ 55 := by
      unfold noteB
      split
      · simp; omega
      · simp
    omega
/-- The pieces, noted. -/
def nz (note : List UInt8) : List UInt8 → List (List UInt8) → List (List UInt8)
  | _, [] => []
  | pre, [p] => [pre ++ p ++ 35 :: note]
  | pre, p :: q :: r => (pre ++ p ++ ([13, 32, 35] ++ note)) :: nz note [32] (q :: r)
theorem nz_shift (note pre : List UInt8) (c : UInt8) (h : List UInt8) (t : List (List UInt8)) : nz note pre ((c :: h) :: t) = nz note (pre ++ [c]) (h :: t) := by
  cases t with
  | nil => simp [nz]
  | cons q r => simp [nz]
theorem pieces_noted (note : List UInt8) (hno : (10 : UInt8) ∉ note) : ∀ (l pre : List UInt8), (10 : UInt8) ∉ pre → pieces (pre ++ notedL note l ++ 35 :: note) = nz note pre (pieces l)
  | [], pre, hp => by
    have : (10 : UInt8) ∉ pre ++ notedL note [] ++ 35 :: note := by simp [notedL, hp, hno]
    rw [pieces_none _ this]
    simp [pieces, nz, notedL]
  | c :: r, pre, hp => by
    rw [notedL_cons]
    by_cases hc : c = 10
    · subst hc
      have e : pre ++ (noteB note 10 ++ notedL note r) ++ 35 :: note = (pre ++ ([13, 32, 35] ++ note)) ++ 10 :: ([32] ++ notedL note r ++ 35 :: note) := by simp [noteB]
      have hq : (10 : UInt8) ∉ pre ++ ([13, 32, 35] ++ note) := by simp [hp, hno]
      rw [e, pieces_at _ _ hq, pieces_noted note hno r [32] (by simp)]
      show _ = nz note pre (if (10 : UInt8) = 10 then [] :: pieces r else _)
      rw [if_pos rfl]
      cases hpr : pieces r with
      | nil => exact absurd hpr (pieces_ne r)
      | cons q t => simp [nz]
    · have e : pre ++ (noteB note c ++ notedL note r) ++ 35 :: note = (pre ++ [c]) ++ notedL note r ++ 35 :: note := by simp [noteB, hc]
      have hq : (10 : UInt8) ∉ pre ++ [c] := by
        intro hm
        rcases List.mem_append.1 hm with hm | hm
        · exact hp hm
        · simp at hm; exact hc hm.symm
      rw [e, pieces_noted note hno r (pre ++ [c]) hq]
      show _ = nz note pre (if c = 10 then [] :: pieces r else match pieces r with | [] => [[c]] | h :: t => (c :: h) :: t)
      rw [if_neg hc]
      cases hpr : pieces r with
      | nil => exact absurd hpr (pieces_ne r)
      | cons q t => exact (nz_shift note pre c q t).symm
theorem flush_nil (out : List ByteArray) : flush [] out = out := rfl
theorem lineGo_pre : ∀ (pre x : List UInt8) (out : List ByteArray), (∀ c ∈ pre, blkB c = true) → lineGo (pre ++ x) [] out = lineGo x [] out
  | [], _, _, _ => rfl
  | c :: pre, x, out, h => by
    rw [List.cons_append, lineGo_blank (h c (by simp)), flush_nil, lineGo_pre pre x out (fun d hd => h d (by simp [hd]))]
theorem lineGo_step {c : UInt8} (h35 : c ≠ 35) (r r' w : List UInt8) (out : List ByteArray) (h : ∀ w out, lineGo r w out = lineGo r' w out) : lineGo (c :: r) w out = lineGo (c :: r') w out := by
  by_cases hb : blkB c = true
  · rw [lineGo_blank hb, lineGo_blank hb, h]
  · have hb' : blkB c = false := by simpa using hb
    cases ho : okB c with
    | true => rw [lineGo_byte h35 hb' ho, lineGo_byte h35 hb' ho, h]
    | false => rw [lineGo_wrong h35 hb' ho, lineGo_wrong h35 hb' ho]
theorem lineGo_tailN (z : List UInt8) : ∀ (p w : List UInt8) (out : List ByteArray), lineGo (p ++ 35 :: z) w out = lineGo p w out
  | [], w, out => lineGo_note z w out
  | c :: p, w, out => by
    by_cases h35 : c = 35
    · subst h35
      rw [List.cons_append, lineGo_note, lineGo_note]
    · exact lineGo_step h35 _ _ _ _ (fun w out => lineGo_tailN z p w out)
theorem lineGo_tailB (z : List UInt8) : ∀ (p w : List UInt8) (out : List ByteArray), lineGo (p ++ ([13, 32, 35] ++ z)) w out = lineGo p w out
  | [], w, out => by
    show lineGo (13 :: 32 :: 35 :: z) w out = some (flush w out)
    rw [lineGo_blank (by decide), lineGo_blank (by decide), lineGo_note]
    rfl
  | c :: p, w, out => by
    by_cases h35 : c = 35
    · subst h35
      rw [List.cons_append, lineGo_note, lineGo_note]
    · exact lineGo_step h35 _ _ _ _ (fun w out => lineGo_tailB z p w out)
theorem lexGo_nz (note : List UInt8) : ∀ (ps : List (List UInt8)) (pre : List UInt8) (n : Nat) (acc : List Ln), (∀ c ∈ pre, blkB c = true) → lexGo (nz note pre ps) n acc = lexGo ps n acc
  | [], _, _, _, _ => rfl
  | [p], pre, n, acc, h => by
    have e : lineOf (pre ++ p ++ 35 :: note) = lineOf p := by
      unfold lineOf
      rw [List.append_assoc, lineGo_pre pre _ _ h, lineGo_tailN]
    show (match lineOf (pre ++ p ++ 35 :: note) with | none => ([], n, 13) | some ws => lexGo [] (n + 1) (addLn n ws acc)) = (match lineOf p with | none => ([], n, 13) | some ws => lexGo [] (n + 1) (addLn n ws acc))
    rw [e]
  | p :: q :: r, pre, n, acc, h => by
    have e : lineOf (pre ++ p ++ ([13, 32, 35] ++ note)) = lineOf p := by
      unfold lineOf
      rw [List.append_assoc, lineGo_pre pre _ _ h, lineGo_tailB]
    show (match lineOf (pre ++ p ++ ([13, 32, 35] ++ note)) with | none => ([], n, 13) | some ws => lexGo (nz note [32] (q :: r)) (n + 1) (addLn n ws acc)) = (match lineOf p with | none => ([], n, 13) | some ws => lexGo (q :: r) (n + 1) (addLn n ws acc))
    rw [e]
    cases lineOf p with
    | none => rfl
    | some ws => exact lexGo_nz note (q :: r) [32] (n + 1) _ (fun c hc => by simp at hc; subst hc; decide)
theorem lexAns_noted {t s : ByteArray} {note : List UInt8} (ht : t.size ≤ 1000) (hn : note.length ≤ 50) (hno : (10 : UInt8) ∉ note) (hs : s.data.toList = [32, 9] ++ notedL note t.data.toList ++ 35 :: note) : lexAns s = lexAns t := by
  have hl := notedL_len note hn t.data.toList
  rw [size_list] at hl
  have hss : s.size ≤ 65536 := by
    rw [← size_list, hs]
    simp
    omega
  rw [lexAns_of hss, lexAns_of (by omega), hs, pieces_noted note hno _ _ (by decide), lexGo_nz note _ _ _ _ (fun c hc => by simp at hc; rcases hc with rfl | rfl <;> decide)]
end Go.Proofs.YtkgmbogmeppmcaaDoor
