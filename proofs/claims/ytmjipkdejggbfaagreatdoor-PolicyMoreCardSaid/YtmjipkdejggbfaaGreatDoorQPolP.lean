/- What a policy's text says, by definition: plain words. -/
import Derived.Test.YtmjipkdejggbfaaGreatDoorQAct
import Derived.Test.YtmjipkdejggbfaaGreatDoorQCond
import Derived.Test.YtmjipkdejggbfaaGreatDoorQSys
import Derived.Test.YtmjipkdejggbfaaGreatDoorQLex
namespace Go.Proofs.YtmjipkdejggbfaaGreatDoor
open Go Go.Proofs Go.RowKit

/-- A condition: its argument, its operator, its mask, its value. -/
structure PCond where
  (a o m v : Int)
structure PRule where
  name : ByteArray
  (k n : Int)
  conds : List PCond
/-- What has been read of a policy: its default, x32, its rules. -/
structure PSt where
  (k n : Int)
  x : Bool
  rules : List PRule
def PSt.zero : PSt := ⟨0, 0, false, []⟩

def okNB (c : UInt8) : Bool := (decide (97 ≤ c.toNat) && decide (c.toNat ≤ 122)) || (decide (48 ≤ c.toNat) && decide (c.toNat ≤ 57)) || c.toNat == 95
/-- May a rule's name be? -/
def nameB (s : ByteArray) : Bool :=
  decide (s.size ≤ 30) && (match s.data.toList with | [] => false | c :: _ => decide (97 ≤ c.toNat) && decide (c.toNat ≤ 122)) && !(s.toList == [100, 101, 102, 97, 117, 108, 116]) && !(s.toList == [120, 51, 50]) && s.data.toList.all okNB
theorem okNB_iff (c : UInt8) : okNB c = true ↔ SysP.okN c.toNat := by
  unfold okNB SysP.okN
  simp only [Bool.or_eq_true, Bool.and_eq_true, decide_eq_true_eq, beq_iff_eq]
  constructor
  · rintro ((h | h) | h)
    · exact .inl h
    · exact .inr (.inl h)
    · exact .inr (.inr h)
  · rintro (h | h | h)
    · exact .inl (.inl h)
    · exact .inl (.inr h)
    · exact .inr h
theorem nameB_iff (s : ByteArray) : nameB s = true ↔ SysP.refNameP s := by
  have hl : s.data.toList.length = s.size := Array.length_toList
  have hall : (s.data.toList.all okNB = true) ↔ ∀ j (h : j < s.size), SysP.okN (s[j]'h).toNat := by
    rw [List.all_eq_true]
    constructor
    · intro h j hj
      exact (okNB_iff _).1 (h _ (List.getElem_mem (by rw [hl]; exact hj)))
    · intro h c hc
      obtain ⟨j, hj, rfl⟩ := List.mem_iff_getElem.1 hc
      exact (okNB_iff _).2 (h j (by rw [← hl]; exact hj))
  have hhd : (match s.data.toList with | [] => false | c :: _ => decide (97 ≤ c.toNat) && decide (c.toNat ≤ 122)) = true ↔ ∃ h : 0 < s.size, 97 ≤ (s[0]'h).toNat ∧ (s[0]'h).toNat ≤ 122 := by
    constructor
    · intro h
      have h0 : 0 < s.size := by
        rw [← hl]
        cases he : s.data.toList with
        | nil => rw [he] at h; cases h
        | cons c r => simp
      have e : s.data.toList = s[0]'h0 :: s.data.toList.drop 1 := by
        conv => lhs; rw [← List.drop_zero (l := s.data.toList)]
        rw [List.drop_eq_getElem_cons (by rw [hl]; exact h0)]
        rfl
      rw [e] at h
      refine ⟨h0, ?_⟩
      simpa using h
    · rintro ⟨h0, h⟩
      have e : s.data.toList = s[0]'h0 :: s.data.toList.drop 1 := by
        conv => lhs; rw [← List.drop_zero (l := s.data.toList)]
        rw [List.drop_eq_getElem_cons (by rw [hl]; exact h0)]
        rfl
      rw [e]
      simpa using h
  unfold nameB SysP.refNameP
  simp only [Bool.and_eq_true, decide_eq_true_eq, Bool.not_eq_true', beq_eq_false_iff_ne, ne_eq, hall, hhd]
  constructor
  · rintro ⟨⟨⟨⟨h1, h2⟩, h3⟩, h4⟩, h5⟩
    exact ⟨h1, h2, h3, h4, h5⟩
  · rintro ⟨h1, h2, h3, h4, h5⟩
    exact ⟨⟨⟨⟨h1, h2⟩, h3⟩, h4⟩, h5⟩

/-- An error of a part, as a line's. -/
def formE (e : Int) : Int := if e = 4 then 13 else e
def ifB : List UInt8 := [105, 102]
def andB : List UInt8 := [97, 110, 100]
def wordC (acc : List PCond) : List UInt8 := if acc.length = 0 then ifB else andB
def condsStep (acc : List PCond) (w0 : ByteArray) (r : List ByteArray) : Int ⊕ (List PCond × List ByteArray) :=
  if (w0.toList == wordC acc) = false then .inl 13
  else if 6 ≤ acc.length then .inl 3
  else if (CondP.readAns r).e ≠ 0 then .inl (formE (CondP.readAns r).e)
  else .inr (acc ++ [⟨(CondP.readAns r).a, (CondP.readAns r).o, (CondP.readAns r).m, (CondP.readAns r).v⟩], r.drop (CondP.readAns r).n.toNat)
/-- The conditions behind a rule's action, or an error's number. -/
def condsGo (acc : List PCond) (ws : List ByteArray) : Int ⊕ List PCond :=
  match ws with
  | [] => .inr acc
  | w0 :: r =>
    match h : condsStep acc w0 r with
    | .inl e => .inl e
    | .inr (acc', ws') => condsGo acc' ws'
termination_by ws.length
decreasing_by
  unfold condsStep at h
  split at h
  · cases h
  · split at h
    · cases h
    · split at h
      · cases h
      · cases h
        rw [List.length_drop]
        simp only [List.length_cons]
        omega
theorem condsGo_nil (acc : List PCond) : condsGo acc [] = .inr acc := by unfold condsGo; rfl
theorem condsGo_err {acc : List PCond} {w0 : ByteArray} {r : List ByteArray} {e : Int} (h : condsStep acc w0 r = .inl e) : condsGo acc (w0 :: r) = .inl e := by
  rw [condsGo]
  split
  · rename_i h2; rw [h] at h2; exact congrArg _ (Sum.inl.inj h2).symm
  · rename_i h2; rw [h] at h2; cases h2
theorem condsGo_step {acc acc' : List PCond} {w0 : ByteArray} {r ws' : List ByteArray} (h : condsStep acc w0 r = .inr (acc', ws')) : condsGo acc (w0 :: r) = condsGo acc' ws' := by
  conv => lhs; rw [condsGo]
  split
  · rename_i h2; rw [h] at h2; cases h2
  · rename_i h2
    rw [h] at h2
    obtain ⟨rfl, rfl⟩ := Prod.mk.inj (Sum.inr.inj h2)
    rfl
def mkRule (w0 : ByteArray) (k n : Int) : Int ⊕ List PCond → Int ⊕ PRule
  | .inl e => .inl e
  | .inr cs => .inr ⟨w0, k, n, cs⟩
/-- A rule of words (the first: its name), when so many rules are there; or an error's number. -/
def ruleGo (many : Nat) (w0 : ByteArray) (r : List ByteArray) : Int ⊕ PRule :=
  if nameB w0 = false then .inl 13
  else if 500 ≤ many then .inl 3
  else if (ActP.readAns r).2.2.2 ≠ 0 then .inl (formE (ActP.readAns r).2.2.2)
  else mkRule w0 (ActP.readAns r).1 (ActP.readAns r).2.1 (condsGo [] (r.drop (ActP.readAns r).2.2.1.toNat))
def defaultB : List UInt8 := [100, 101, 102, 97, 117, 108, 116]
def x32B : List UInt8 := [120, 51, 50]
def onB : List UInt8 := [111, 110]
def offB : List UInt8 := [111, 102, 102]
def pX32 (cnt : Nat) (st : PSt) : List ByteArray → Int ⊕ PSt
  | [w1] => if cnt = 1 ∧ ((w1.toList == onB) = true ∨ (w1.toList == offB) = true) then .inr { st with x := w1.toList == onB } else .inl 13
  | _ => .inl 13
def addRule (st : PSt) : Int ⊕ PRule → Int ⊕ PSt
  | .inl e => .inl e
  | .inr x => .inr { st with rules := st.rules ++ [x] }
/-- A line's words (one at least), behind so many lines that count; or an error's number. -/
def pLine (cnt : Nat) (st : PSt) (w0 : ByteArray) (r : List ByteArray) : Int ⊕ PSt :=
  if (w0.toList == defaultB) = true then
    (if cnt ≠ 0 then .inl 13 else if (ActP.readAns r).2.2.2 ≠ 0 then .inl (formE (ActP.readAns r).2.2.2) else if (r.drop (ActP.readAns r).2.2.1.toNat).length ≠ 0 then .inl 13 else .inr { st with k := (ActP.readAns r).1, n := (ActP.readAns r).2.1 })
  else if (w0.toList == x32B) = true then
    pX32 cnt st r
  else if cnt = 0 then .inl 13
  else addRule st (ruleGo st.rules.length w0 r)
def pLines (cnt : Nat) (st : PSt) : List Ln → PSt × Int × Int
  | [] => (st, 0, 0)
  | (n, []) :: _ => (PSt.zero, n, 13)
  | (n, w0 :: r) :: l => match pLine cnt st w0 r with
    | .inl e => (PSt.zero, n, e)
    | .inr st' => pLines (cnt + 1) st' l
/-- The policy of a text, the first wrong line's number, an error's number. -/
def polAns (t : ByteArray) : PSt × Int × Int :=
  if (lexAns t).2.2 ≠ 0 then (PSt.zero, (lexAns t).2.1, (lexAns t).2.2)
  else if (lexAns t).1.length = 0 then (PSt.zero, 0, 4)
  else pLines 0 PSt.zero (lexAns t).1
end Go.Proofs.YtmjipkdejggbfaaGreatDoor
