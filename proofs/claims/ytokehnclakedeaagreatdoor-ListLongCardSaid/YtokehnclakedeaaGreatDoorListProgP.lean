/- What a text of lines says, by definition; a program's text: plain facts. -/
import Derived.Test.YtokehnclakedeaaGreatDoorListReadsW
import Derived.Test.YtokehnclakedeaaGreatDoorSplit
namespace Go.Proofs.YtokehnclakedeaaGreatDoor
open Go Go.Proofs Go.RowKit

abbrev Ins4 := Nat × Nat × Nat × Nat
/-- What a line says, as read. -/
def ansB (x : ByteArray) : Ins4 × Nat := listAns x.data.toList
def progGo : Nat → List Ins4 → List ByteArray → List Ins4 × Nat × Nat
  | _, acc, [] => (acc, 0, 0)
  | n, acc, p :: r => if (ansB p).2 = 0 then progGo (n + 1) (acc ++ [(ansB p).1]) r else if (ansB p).2 = 4 then progGo (n + 1) acc r else ([], n + 1, (ansB p).2)
/-- The instructions of a text, the first wrong line's number, an error's number. -/
def progAns (t : ByteArray) : List Ins4 × Nat × Nat := if 65536 < t.size then ([], 0, 3) else progGo 0 [] (piecesB t)
def okP (x : ByteArray) : Bool := (ansB x).2 == 0 || (ansB x).2 == 4
def accP (l : List ByteArray) : List Ins4 := l.flatMap fun x => if (ansB x).2 = 0 then [(ansB x).1] else []
theorem accP_snoc (l : List ByteArray) (x : ByteArray) : accP (l ++ [x]) = accP l ++ (if (ansB x).2 = 0 then [(ansB x).1] else []) := by
  unfold accP; rw [List.flatMap_append]; simp
theorem accP_cons (x : ByteArray) (l : List ByteArray) : accP (x :: l) = (if (ansB x).2 = 0 then [(ansB x).1] else []) ++ accP l := by
  unfold accP; rw [List.flatMap_cons]
theorem accP_length_le : ∀ l : List ByteArray, (accP l).length ≤ l.length
  | [] => by simp [accP]
  | x :: l => by
    have := accP_length_le l
    rw [accP_cons, List.length_append]
    split <;> simp <;> omega
theorem progGo_all : ∀ (ps : List ByteArray) (n : Nat) (acc : List Ins4), (∀ x ∈ ps, okP x = true) → progGo n acc ps = (acc ++ accP ps, 0, 0)
  | [], n, acc, _ => by show (acc, 0, 0) = _; simp [accP]
  | p :: r, n, acc, h => by
    have hp := h p (by simp)
    have ih := fun acc => progGo_all r (n + 1) acc (fun x hx => h x (by simp [hx]))
    show (if (ansB p).2 = 0 then progGo (n + 1) (acc ++ [(ansB p).1]) r else if (ansB p).2 = 4 then progGo (n + 1) acc r else ([], n + 1, (ansB p).2)) = _
    rw [accP_cons]
    by_cases h0 : (ansB p).2 = 0
    · rw [if_pos h0, if_pos h0, ih]; simp
    · have h4 : (ansB p).2 = 4 := by unfold okP at hp; simpa [h0] using hp
      rw [if_neg h0, if_pos h4, if_neg h0, ih]; simp
theorem progGo_bad : ∀ (init : List ByteArray) (n : Nat) (acc : List Ins4) (x : ByteArray) (r : List ByteArray), (∀ y ∈ init, okP y = true) → okP x = false → progGo n acc (init ++ x :: r) = ([], n + init.length + 1, (ansB x).2)
  | [], n, acc, x, r, _, hx => by
    unfold okP at hx
    simp at hx
    show (if (ansB x).2 = 0 then _ else if (ansB x).2 = 4 then _ else ([], n + 1, (ansB x).2)) = _
    rw [if_neg hx.1, if_neg hx.2]
    rfl
  | p :: init, n, acc, x, r, h, hx => by
    have hp := h p (by simp)
    have ih := fun acc => progGo_bad init (n + 1) acc x r (fun y hy => h y (by simp [hy])) hx
    have e : n + 1 + init.length + 1 = n + (p :: init).length + 1 := by simp; omega
    show (if (ansB p).2 = 0 then progGo (n + 1) (acc ++ [(ansB p).1]) (init ++ x :: r) else if (ansB p).2 = 4 then progGo (n + 1) acc (init ++ x :: r) else ([], n + 1, (ansB p).2)) = _
    by_cases h0 : (ansB p).2 = 0
    · rw [if_pos h0, ih, e]
    · have h4 : (ansB p).2 = 4 := by unfold okP at hp; simpa [h0] using hp
      rw [if_neg h0, if_pos h4, ih, e]
theorem progAns_long {t : ByteArray} (h : 65536 < t.size) : progAns t = ([], 0, 3) := by unfold progAns; rw [if_pos h]
theorem progAns_all {t : ByteArray} (ht : t.size ≤ 65536) (h : ∀ x ∈ piecesB t, okP x = true) : progAns t = (accP (piecesB t), 0, 0) := by
  unfold progAns; rw [if_neg (by omega), progGo_all _ _ _ h]; rfl
theorem progAns_bad {t : ByteArray} (ht : t.size ≤ 65536) {init : List ByteArray} {x : ByteArray} (hp : init ++ [x] <+: piecesB t) (hy : ∀ y ∈ init, okP y = true) (hx : okP x = false) : progAns t = ([], init.length + 1, (ansB x).2) := by
  obtain ⟨r, hr⟩ := hp
  unfold progAns
  rw [if_neg (by omega), ← hr, List.append_assoc]
  show progGo 0 [] (init ++ x :: r) = _
  rw [progGo_bad init 0 [] x r hy hx, Nat.zero_add]
def insC (x : Ins4) : List Value := [.int .u16 (x.1 : Int), .int .u8 (x.2.1 : Int), .int .u8 (x.2.2.1 : Int), .int .u32 (x.2.2.2 : Int)]
def flatI (l : List Ins4) : List Value := l.flatMap insC
theorem flatI_snoc (l : List Ins4) (x : Ins4) : flatI (l ++ [x]) = flatI l ++ insC x := by unfold flatI; rw [List.flatMap_append]; simp
theorem flatI_len : ∀ l : List Ins4, (flatI l).length = l.length * 4
  | [] => rfl
  | x :: l => by
    have := flatI_len l
    unfold flatI at *
    rw [List.flatMap_cons, List.length_append, this]
    show 4 + l.length * 4 = (l.length + 1) * 4
    omega
theorem flatI_at : ∀ (l : List Ins4) (j : Nat) (x : Ins4), l[j]? = some x → ∀ i, i < 4 → (flatI l)[j * 4 + i]? = (insC x)[i]?
  | [], j, x, h, i, _ => by simp at h
  | y :: l, 0, x, h, i, hi => by
    obtain rfl : y = x := by simpa using h
    unfold flatI
    rw [List.flatMap_cons, Nat.zero_mul, Nat.zero_add, List.getElem?_append_left (by show i < 4; exact hi)]
  | y :: l, j + 1, x, h, i, hi => by
    have := flatI_at l j x (by simpa using h) i hi
    unfold flatI at *
    rw [List.flatMap_cons, List.getElem?_append_right (by show 4 ≤ _; omega)]
    rw [← this]
    congr 1
    show (j + 1) * 4 + i - 4 = _
    omega
/-- The bounds of what a line says. -/
theorem listAns_code {l : List UInt8} : (listAns l).2 = 0 ∨ (listAns l).2 = 4 ∨ (listAns l).2 = 13 := by
  unfold listAns
  cases lineWords l with
  | nil => exact .inr (.inl rfl)
  | cons w0 r =>
    show (readL (lineV w0 r)).2 = 0 ∨ _
    cases h : lineV w0 r with
    | none => exact .inr (.inr (by show (readL (lineV w0 r)).2 = 13; rw [h]; rfl))
    | some x => exact .inl rfl
end Go.Proofs.YtokehnclakedeaaGreatDoor
