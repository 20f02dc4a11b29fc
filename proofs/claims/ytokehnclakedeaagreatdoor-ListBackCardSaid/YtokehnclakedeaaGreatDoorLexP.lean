/- Lines of words, as plain lists: what a text's lines are, piece by piece. -/
import Derived.Lib.FieldsP
import Derived.Lib.IndexMore
import Derived.Lib.RuneCountTail
namespace Go.Proofs.YtokehnclakedeaaGreatDoor
open Go Go.Proofs

/-- A blank. -/
def blkB (c : UInt8) : Bool := c == 32 || c == 9 || c == 13
/-- A byte that may stand in a line. -/
def okB (c : UInt8) : Bool := blkB c || (32 ≤ c && c ≤ 126)
/-- A text's pieces between its line ends. -/
def pieces : List UInt8 → List (List UInt8)
  | [] => [[]]
  | c :: r => if c = 10 then [] :: pieces r else match pieces r with
    | [] => [[c]]
    | h :: t => (c :: h) :: t
/-- What is ahead of a note. -/
def unNoted (l : List UInt8) : List UInt8 := l.takeWhile (· ≠ 35)
/-- A word more, if there is one. -/
def flush (w : List UInt8) (out : List ByteArray) : List ByteArray := if w = [] then out else out ++ [⟨w.toArray⟩]
/-- The words of a line (each byte taken). -/
def wordsGo : List UInt8 → List UInt8 → List ByteArray → List ByteArray
  | [], w, out => flush w out
  | c :: r, w, out => if blkB c then wordsGo r [] (flush w out) else wordsGo r (w ++ [c]) out
/-- The words of a line ahead of its note; none: it has another byte. -/
def lineGo : List UInt8 → List UInt8 → List ByteArray → Option (List ByteArray)
  | [], w, out => some (flush w out)
  | c :: r, w, out => if c = 35 then some (flush w out) else if blkB c then lineGo r [] (flush w out) else if okB c then lineGo r (w ++ [c]) out else none
def lineOf (l : List UInt8) : Option (List ByteArray) := lineGo l [] []
abbrev Ln := Nat × List ByteArray
/-- A line that counts. -/
def addLn (n : Nat) (ws : List ByteArray) (acc : List Ln) : List Ln := if ws = [] then acc else acc ++ [(n, ws)]
/-- The lines of pieces: the lines, the number of the wrong one, an error's number. -/
def lexGo : List (List UInt8) → Nat → List Ln → List Ln × Nat × Nat
  | [], _, acc => (acc, 0, 0)
  | p :: r, n, acc => match lineOf p with
    | none => ([], n, 13)
    | some ws => lexGo r (n + 1) (addLn n ws acc)
def lexAns (t : ByteArray) : List Ln × Nat × Nat := if 65536 < t.size then ([], 0, 3) else lexGo (pieces t.data.toList) 1 []

theorem pieces_ne (l : List UInt8) : pieces l ≠ [] := by
  cases l with
  | nil => simp [pieces]
  | cons c r => unfold pieces; split; · simp
                split <;> simp
theorem pieces_none : ∀ l : List UInt8, (10 : UInt8) ∉ l → pieces l = [l]
  | [], _ => rfl
  | c :: r, h => by
    have hc : c ≠ 10 := fun e => h (by simp [e])
    have hr : (10 : UInt8) ∉ r := fun e => h (by simp [e])
    unfold pieces
    rw [if_neg hc, pieces_none r hr]
theorem pieces_at : ∀ (a b : List UInt8), (10 : UInt8) ∉ a → pieces (a ++ 10 :: b) = a :: pieces b
  | [], b, _ => by show pieces (10 :: b) = _; unfold pieces; rw [if_pos rfl]; cases b <;> rfl
  | c :: r, b, h => by
    have hc : c ≠ 10 := fun e => h (by simp [e])
    have hr : (10 : UInt8) ∉ r := fun e => h (by simp [e])
    rw [List.cons_append]
    show (if c = 10 then _ else _) = _
    rw [if_neg hc, pieces_at r b hr]

theorem index_one_none : ∀ (l : List UInt8) (b : UInt8), b ∉ l → Lib.index l [b] = -1
  | [], _, _ => rfl
  | c :: r, b, h => by
    have hc : ¬ b = c := fun e => h (by simp [e])
    have hr : b ∉ r := fun e => h (by simp [e])
    unfold Lib.index
    rw [if_neg (by simp [List.isPrefixOf, hc]), index_one_none r b hr]
    rfl
theorem index_one_at : ∀ (a r : List UInt8) (b : UInt8), b ∉ a → Lib.index (a ++ b :: r) [b] = a.length
  | [], r, b, _ => by
    show Lib.index (b :: r) [b] = _
    unfold Lib.index
    rw [if_pos (by simp [List.isPrefixOf])]
    rfl
  | c :: a, r, b, h => by
    have hc : ¬ b = c := fun e => h (by simp [e])
    have hr : b ∉ a := fun e => h (by simp [e])
    rw [List.cons_append]
    unfold Lib.index
    rw [if_neg (by simp [List.isPrefixOf, hc]), index_one_at a r b hr, if_neg (by simp)]
    simp
theorem indexByte_none : ∀ (l : List UInt8) (b : UInt8), b ∉ l → Lib.indexByte l b = -1
  | [], _, _ => rfl
  | c :: r, b, h => by
    have hc : ¬ c = b := fun e => h (by simp [e])
    have hr : b ∉ r := fun e => h (by simp [e])
    have := indexByte_none r b hr
    simp [Lib.indexByte, hc, this]
theorem indexByte_at : ∀ (a r : List UInt8) (b : UInt8), b ∉ a → Lib.indexByte (a ++ b :: r) b = a.length
  | [], r, b, _ => by simp [Lib.indexByte]
  | c :: a, r, b, h => by
    have hc : ¬ c = b := fun e => h (by simp [e])
    have hr : b ∉ a := fun e => h (by simp [e])
    have := indexByte_at a r b hr
    simp [Lib.indexByte, hc, this]
    try omega
theorem split_at (l : List UInt8) (b : UInt8) (h : b ∈ l) : ∃ a r, l = a ++ b :: r ∧ b ∉ a := by
  induction l with
  | nil => simp at h
  | cons c l ih =>
    by_cases e : b = c
    · subst e
      exact ⟨[], l, rfl, by simp⟩
    · obtain ⟨a, r, h1, h2⟩ := ih (by simpa [e] using h)
      exact ⟨c :: a, r, by rw [h1]; rfl, by simp [e, h2]⟩

theorem takeWhile_all {α : Type} : ∀ (l : List α) (p : α → Bool), (∀ x ∈ l, p x = true) → l.takeWhile p = l
  | [], _, _ => rfl
  | c :: r, p, h => by rw [List.takeWhile_cons, if_pos (h c (by simp)), takeWhile_all r p (fun x hx => h x (by simp [hx]))]

/-- strings.Cut at the note's sign. -/
theorem cut_note (l : List UInt8) : (Lib.cut l [35]).1 = unNoted l := by
  unfold Lib.cut unNoted
  by_cases h : (35 : UInt8) ∈ l
  · obtain ⟨a, r, rfl, ha⟩ := split_at l 35 h
    rw [index_one_at a r 35 ha, if_pos (by omega)]
    have : ∀ x ∈ a, (decide (x ≠ 35)) = true := fun x hx => by have : x ≠ 35 := (fun e => ha (by rw [← e]; exact hx)); simpa using this
    rw [List.takeWhile_append_of_pos this]
    simp
  · rw [index_one_none l 35 h, if_neg (by omega)]
    exact (takeWhile_all l _ (fun x hx => by have : x ≠ 35 := (fun e => h (by rw [← e]; exact hx)); simpa using this)).symm

theorem blk_ok {c : UInt8} (h : blkB c = true) : okB c = true := by unfold okB; rw [h]; rfl
theorem unNoted_note (r : List UInt8) : unNoted (35 :: r) = [] := by unfold unNoted; rw [List.takeWhile_cons, if_neg (by simp)]
theorem unNoted_cons {c : UInt8} (h : c ≠ 35) (r : List UInt8) : unNoted (c :: r) = c :: unNoted r := by
  unfold unNoted
  have : decide (c ≠ 35) = true := by simpa using h
  rw [List.takeWhile_cons, if_pos this]
theorem lineGo_eq : ∀ (l w : List UInt8) (out : List ByteArray), lineGo l w out = if (unNoted l).all okB then some (wordsGo (unNoted l) w out) else none
  | [], w, out => by simp [lineGo, unNoted, wordsGo]
  | c :: r, w, out => by
    unfold lineGo
    by_cases h35 : c = 35
    · subst h35
      rw [if_pos rfl, unNoted_note]
      rfl
    · rw [if_neg h35, unNoted_cons h35, List.all_cons]
      by_cases hb : blkB c = true
      · rw [if_pos hb, lineGo_eq r, blk_ok hb, Bool.true_and]
        have : wordsGo (c :: unNoted r) w out = wordsGo (unNoted r) [] (flush w out) := by
          show (if blkB c then _ else _) = _
          rw [if_pos hb]
        rw [this]
      · rw [if_neg hb]
        by_cases ho : okB c = true
        · rw [if_pos ho, lineGo_eq r, ho, Bool.true_and]
          have : wordsGo (c :: unNoted r) w out = wordsGo (unNoted r) (w ++ [c]) out := by
            show (if blkB c then _ else _) = _
            rw [if_neg hb]
          rw [this]
        · rw [if_neg ho, if_neg (by simp [ho])]

/-! ### The library's fields of a line without other bytes -/
/-- A blank, as the function value says it of a rune. -/
def blkR (c : Nat) : Bool := c == 32 || c == 9 || c == 13
theorem decode_low (s : ByteArray) (pos : Nat) (h : pos < s.size) (hb : (s[pos]'h).toNat < 128) : Utf8.decode s pos = ((s[pos]'h).toNat, 1) := by
  unfold Utf8.decode
  have : s.get! pos = s[pos]'h := by
    show s.data[pos]! = s.data[pos]
    rw [getElem!_pos]
  simp only [Nat.add_zero, this]
  rw [if_pos hb]
theorem decode_high (s : ByteArray) (pos : Nat) (h : pos < s.size) (hb : 128 ≤ (s[pos]'h).toNat) : 128 ≤ (Utf8.decode s pos).1 := by
  unfold Utf8.decode
  have : s.get! pos = s[pos]'h := by
    show s.data[pos]! = s.data[pos]
    rw [getElem!_pos]
  simp only [Nat.add_zero, this]
  rw [if_neg (by omega)]
  repeat' split
  all_goals simp_all [Utf8.runeError]
  all_goals omega
theorem blkR_byte (c : UInt8) : blkR c.toNat = blkB c := by
  unfold blkR blkB
  rw [Bool.eq_iff_iff]
  simp [← UInt8.toNat_inj]
/-- The word under way, if one is. -/
def wordAt (s : ByteArray) (st : Option Nat) (pos : Nat) : List UInt8 := match st with
  | none => []
  | some a => (s.data.toList.take pos).drop a
theorem extract_word (s : ByteArray) (a b : Nat) : s.extract a b = ⟨((s.data.toList.take b).drop a).toArray⟩ := by
  apply ByteArray.ext
  apply Array.toList_inj.1
  rw [ByteArray.data_extract, Array.toList_extract]
  simp [List.extract, List.drop_take]
theorem spans_words (s : ByteArray) (hok : ∀ j (h : j < s.size), (s[j]'h).toNat < 128) : ∀ (f pos : Nat) (st : Option Nat) (acc : List (Nat × Nat)), s.size ≤ pos + f → pos ≤ s.size → (∀ a, st = some a → a < pos) →
    (Lib.closeSpans s (Lib.spansFromP blkR s f pos st acc)).map (fun x => s.extract x.1 x.2) = wordsGo (s.data.toList.drop pos) (wordAt s st pos) (acc.map fun x => s.extract x.1 x.2) := by
  have hlen : s.data.toList.length = s.size := Array.length_toList
  have fl : ∀ (st : Option Nat) (acc : List (Nat × Nat)) (pos : Nat), pos ≤ s.size → (∀ a, st = some a → a < pos) → List.map (fun x : Nat × Nat => s.extract x.1 x.2) (match st with | some a => acc ++ [(a, pos)] | none => acc) = flush (wordAt s st pos) (acc.map fun x => s.extract x.1 x.2) := by
    intro st acc pos hp ha
    unfold flush wordAt
    cases st with
    | none => rw [if_pos rfl]
    | some a =>
      have := ha a rfl
      have hne : ¬ (s.data.toList.take pos).drop a = [] := fun e => by
        have := congrArg List.length e
        simp [hlen] at this
        have e2 : s.data.size = s.size := rfl
        omega
      dsimp only
      rw [if_neg hne, List.map_append]
      simp only [List.map_cons, List.map_nil, extract_word]
  have eend : ∀ (st : Option Nat) (acc : List (Nat × Nat)), (∀ a, st = some a → a < s.size) → (Lib.closeSpans s (acc, st)).map (fun x => s.extract x.1 x.2) = wordsGo (s.data.toList.drop s.size) (wordAt s st s.size) (acc.map fun x => s.extract x.1 x.2) := by
    intro st acc ha
    rw [List.drop_eq_nil_of_le (by rw [hlen]; exact Nat.le_refl _)]
    exact fl st acc s.size (Nat.le_refl _) ha
  intro f
  induction f with
  | zero =>
    intro pos st acc h1 h2 h3
    obtain rfl : pos = s.size := by omega
    exact eend st acc h3
  | succ f ih =>
    intro pos st acc h1 h2 h3
    by_cases hlt : pos < s.size
    · have hd := decode_low s pos hlt (hok pos hlt)
      have hdrop : s.data.toList.drop pos = s[pos]'hlt :: s.data.toList.drop (pos + 1) := by
        rw [List.drop_eq_getElem_cons (by rw [hlen]; exact hlt)]
        rfl
      have htake : s.data.toList.take (pos + 1) = s.data.toList.take pos ++ [s[pos]'hlt] := by
        rw [List.take_succ_eq_append_getElem (by rw [hlen]; exact hlt)]
        rfl
      unfold Lib.spansFromP
      rw [if_pos hlt, hd]
      dsimp only
      rw [blkR_byte, hdrop]
      unfold wordsGo
      by_cases hb : blkB (s[pos]'hlt) = true
      · rw [if_pos hb, if_pos hb]
        have := fl st acc pos h2 h3
        rw [← this]
        cases st with
        | none => exact ih (pos + 1) none acc (by omega) (by omega) (fun a e => by cases e)
        | some a => exact ih (pos + 1) none (acc ++ [(a, pos)]) (by omega) (by omega) (fun a e => by cases e)
      · rw [if_neg hb, if_neg hb]
        cases st with
        | none =>
          have := ih (pos + 1) (some pos) acc (by omega) (by omega) (fun a e => by cases e; omega)
          rw [this]
          congr 1
          show (s.data.toList.take (pos + 1)).drop pos = [] ++ [s[pos]'hlt]
          rw [htake, List.drop_append, List.drop_eq_nil_of_le (by rw [List.length_take, hlen]; omega), List.length_take, hlen, Nat.min_eq_left h2, Nat.sub_self]
          rfl
        | some a =>
          have := ih (pos + 1) (some a) acc (by omega) (by omega) (fun b e => by cases e; have := h3 a rfl; omega)
          rw [this]
          congr 1
          show (s.data.toList.take (pos + 1)).drop a = (s.data.toList.take pos).drop a ++ [s[pos]'hlt]
          have := h3 a rfl
          rw [htake, List.drop_append_of_le_length (by simp [hlen]; have e2 : s.data.size = s.size := rfl; omega)]
    · obtain rfl : pos = s.size := by omega
      rw [Lib.spansFromP_end _ _ _ _ _ _ hlt]
      exact eend st acc h3
theorem fields_words (s : ByteArray) (hok : ∀ j (h : j < s.size), (s[j]'h).toNat < 128) : Lib.goFieldsP blkR s = wordsGo s.data.toList [] [] := by
  have := spans_words s hok s.size 0 none [] (by omega) (by omega) (fun a e => by cases e)
  exact this
end Go.Proofs.YtokehnclakedeaaGreatDoor
