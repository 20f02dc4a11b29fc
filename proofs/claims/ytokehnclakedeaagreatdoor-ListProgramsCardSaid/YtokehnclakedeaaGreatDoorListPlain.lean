/- The document's line and the program's are one: plain facts. -/
import Derived.Test.YtokehnclakedeaaGreatDoorListRef
import Derived.Test.YtokehnclakedeaaGreatDoorListLine
namespace Go.Proofs.YtokehnclakedeaaGreatDoor
open Go Go.Proofs Go.RowKit

def otherTag (kind : Nat) (x : Bool) : Nat :=
  if x = true then 0 else if kind = 1 then 1 else if kind = 3 ∨ kind = 6 ∨ kind = 8 ∨ kind = 9 then 2 else if kind = 4 ∨ kind = 7 then 3 else if kind = 10 ∨ kind = 11 ∨ kind = 12 then 4 else if kind = 13 then 5 else if kind = 15 then 6 else 7
def tagT (t : Nat) (k : ByteArray) : ByteArray × Bool :=
  if t = 0 then (⟨#[120]⟩, false) else if t = 1 then (⟨#[91]⟩ ++ k ++ ⟨#[93]⟩, true) else if t = 2 then (⟨#[109, 91]⟩ ++ k ++ ⟨#[93]⟩, true)
  else if t = 3 then (⟨#[108, 101, 110]⟩, false) else if t = 4 then (⟨#[]⟩, false) else if t = 5 then (k, true) else if t = 6 then (⟨#[97]⟩, false) else (⟨#[35]⟩ ++ k, true)
theorem other_tag (kind : Nat) (x : Bool) (k : ByteArray) : otherT kind x k = tagT (otherTag kind x) k := by
  unfold otherT otherTag
  repeat' split
  all_goals first | rfl | (simp_all [tagT])
def formTag (o : ByteArray) : Nat :=
  if o = ⟨#[91, 93]⟩ then 1 else if o = ⟨#[109, 91, 93]⟩ then 2 else if o = ⟨#[35]⟩ then 7 else if o = ⟨#[107]⟩ then 5
  else if o = ⟨#[120]⟩ then 0 else if o = ⟨#[108, 101, 110]⟩ then 3 else if o = ⟨#[]⟩ then 4 else if o = ⟨#[97]⟩ then 6 else 8
theorem form_tag (o k : ByteArray) (h : formTag o ≠ 8) : writtenF o k = (tagT (formTag o) k).1 := by
  unfold formTag at h ⊢
  unfold writtenF
  by_cases h1 : o = ⟨#[91, 93]⟩
  · rw [if_pos h1, if_pos h1]; rfl
  rw [if_neg h1] at h ⊢
  rw [if_neg h1]
  by_cases h2 : o = ⟨#[109, 91, 93]⟩
  · rw [if_pos h2, if_pos h2]; rfl
  rw [if_neg h2] at h ⊢
  rw [if_neg h2]
  by_cases h3 : o = ⟨#[35]⟩
  · rw [if_pos h3, if_pos h3]; rfl
  rw [if_neg h3] at h ⊢
  rw [if_neg h3]
  by_cases h4 : o = ⟨#[107]⟩
  · rw [if_pos h4, if_pos h4]; rfl
  rw [if_neg h4] at h ⊢
  rw [if_neg h4]
  by_cases h5 : o = ⟨#[120]⟩
  · rw [if_pos h5, h5]; rfl
  rw [if_neg h5] at h ⊢
  by_cases h6 : o = ⟨#[108, 101, 110]⟩
  · rw [if_pos h6, h6]; rfl
  rw [if_neg h6] at h ⊢
  by_cases h7 : o = ⟨#[]⟩
  · rw [if_pos h7, h7]; rfl
  rw [if_neg h7] at h ⊢
  by_cases h8 : o = ⟨#[97]⟩
  · rw [if_pos h8, h8]; rfl
  · rw [if_neg h8] at h
    exact absurd rfl h
def tagB (t : Nat) : Bool := t == 1 || t == 2 || t == 5 || t == 7
theorem tagT_b (t : Nat) (k : ByteArray) (h : t ≤ 7) : (tagT t k).2 = tagB t := by
  have : t = 0 ∨ t = 1 ∨ t = 2 ∨ t = 3 ∨ t = 4 ∨ t = 5 ∨ t = 6 ∨ t = 7 := by omega
  rcases this with rfl | rfl | rfl | rfl | rfl | rfl | rfl | rfl <;> rfl
theorem forms_table : ∀ f ∈ formsL, (ofN f.code).1 ≠ 0 ∧ (ofN f.code).1 ≤ 28 ∧ wordN (ofN f.code).1 = f.word ∧ otherTag (ofN f.code).1 (ofN f.code).2 = formTag f.other ∧ formTag f.other ≤ 7 ∧ numberedF f.other = tagB (formTag f.other) ∧ decide (25 ≤ (ofN f.code).1) = f.jumps := by decide +kernel
theorem forms_apart : ∀ f ∈ formsL, ∀ g ∈ formsL, f.code = g.code → f.word = g.word ∧ f.other = g.other ∧ f.x = g.x ∧ f.jumps = g.jumps := by decide +kernel
theorem forms_uniq {f g : Frm} (hf : f ∈ formsL) (hg : g ∈ formsL) (h : f.code = g.code) : f = g := by
  obtain ⟨h1, h2, h3, h4⟩ := forms_apart f hf g hg h
  cases f
  cases g
  simp_all
theorem ofB_mem (c : Nat) : ∀ (l : List Nat) (i : Nat), (ofB c l i).1 ≠ 0 → ∃ b ∈ l, c = b ∨ c = b + 8
  | [], _, h => absurd rfl h
  | b :: r, i, h => by
    unfold ofB at h
    split at h
    · exact ⟨b, by simp, .inl ‹_›⟩
    · split at h
      · exact ⟨b, by simp, .inr ‹_›⟩
      · obtain ⟨x, hx, h2⟩ := ofB_mem c r (i + 1) h
        exact ⟨x, by simp [hx], h2⟩
theorem ofA_mem (c : Nat) : ∀ (l : List Nat) (i : Nat), (ofA c l i).1 ≠ 0 → c ∈ l ∨ ∃ b ∈ bothL, c = b ∨ c = b + 8
  | [], _, h => .inr (ofB_mem c bothL 0 h)
  | a :: r, i, h => by
    unfold ofA at h
    split at h
    · rename_i e; exact .inl (by simp [e])
    · rcases ofA_mem c r (i + 1) h with h2 | h2
      · exact .inl (by simp [h2])
      · exact .inr h2
theorem alone_form : ∀ a ∈ aloneL, formsL.any (fun f => f.code == a) = true := by decide +kernel
theorem both_form : ∀ b ∈ bothL, formsL.any (fun f => f.code == b) = true ∧ formsL.any (fun f => f.code == b + 8) = true := by decide +kernel
theorem of_form {c : Nat} (h : (ofN c).1 ≠ 0) : ∃ f ∈ formsL, f.code = c := by
  have key : ∀ d, formsL.any (fun f => f.code == d) = true → ∃ f ∈ formsL, f.code = d := fun d hd => by
    obtain ⟨f, hf, h2⟩ := List.any_eq_true.1 hd
    exact ⟨f, hf, by simpa using h2⟩
  rcases ofA_mem c aloneL 0 h with h2 | ⟨b, hb, h2 | h2⟩
  · exact key c (alone_form c h2)
  · exact key c (by rw [h2]; exact (both_form b hb).1)
  · exact key c (by rw [h2]; exact (both_form b hb).2)
theorem find_uniq {p : Frm → Bool} {f : Frm} (hf : f ∈ formsL) (hp : ∀ g ∈ formsL, p g = true → g = f) : formsL.find? p = if p f = true then some f else none := by
  cases h : formsL.find? p with
  | none =>
    rw [List.find?_eq_none] at h
    rw [if_neg (h f hf)]
  | some g =>
    have h1 := List.find?_some h
    have h2 := List.mem_of_find?_eq_some h
    have := hp g h2 h1
    subst this
    rw [if_pos h1]

/-- The document's line of a kind. -/
def rawS (c jt jf k : Nat) : ByteArray := ⟨#[46, 99, 111, 100, 101, 32]⟩ ++ decS c ++ ⟨#[32]⟩ ++ decS jt ++ ⟨#[32]⟩ ++ decS jf ++ ⟨#[32]⟩ ++ decS k
def headS (wd o : ByteArray) : ByteArray := if o = ⟨#[]⟩ then wd else wd ++ (⟨#[32]⟩ ++ o)
def tailS (jt jf : Nat) : ByteArray := ⟨#[32]⟩ ++ decS jt ++ ⟨#[32]⟩ ++ decS jf
theorem ba_ext {a b : ByteArray} (h : a.data.toList = b.data.toList) : a = b := ByteArray.ext (Array.toList_inj.1 h)
theorem raw_eq (c jt jf k : Nat) : joinB (rawWs c jt jf k) = rawS c jt jf k := by
  apply ba_ext
  unfold joinB rawWs rawS
  simp [Lib.join]
theorem form_eq (f : Frm) (jt jf k : Nat) (h : formTag f.other ≤ 7) : joinB (formWs f jt jf k) = if f.jumps = true then headS f.word (writtenF f.other (decS k)) ++ tailS jt jf else headS f.word (writtenF f.other (decS k)) := by
  have hw : writtenF f.other (decS k) = ⟨#[]⟩ ↔ f.other = ⟨#[]⟩ := by
    constructor
    · intro e
      have e2 : (writtenF f.other (decS k)).size = 0 := by rw [e]; rfl
      have h1 : (⟨#[91]⟩ : ByteArray).size = 1 := rfl
      have h2 : (⟨#[93]⟩ : ByteArray).size = 1 := rfl
      have h3 : (⟨#[109, 91]⟩ : ByteArray).size = 2 := rfl
      have h4 : (⟨#[35]⟩ : ByteArray).size = 1 := rfl
      have h5 : 1 ≤ (decS k).size := by
        have := Lib.nDigits_pos k
        rw [← Lib.decDigits_length] at this
        exact this
      unfold writtenF at e e2
      repeat' split at e2
      all_goals first | (simp only [ByteArray.size_append, h1, h2, h3, h4] at e2; omega) | omega | skip
      · simp_all
    · intro e
      rw [e]
      rfl
  apply ba_ext
  unfold joinB formWs w1 headS tailS
  by_cases ho : f.other = ⟨#[]⟩
  · rw [if_pos ho, if_pos (hw.2 ho)]
    cases f.jumps <;> simp [Lib.join]
  · rw [if_neg ho, if_neg (fun e => ho (hw.1 e))]
    cases f.jumps <;> simp [Lib.join]
theorem line_raw {c jt jf k : Nat} (h : (ofN c).1 = 0) : lineS c jt jf k = rawS c jt jf k := by
  unfold lineS lineWs
  rw [show formsL.find? (okF c jt jf k) = none from by
    rw [List.find?_eq_none]
    intro f hf hok
    unfold okF at hok
    simp only [Bool.and_eq_true, beq_iff_eq] at hok
    have := (forms_table f hf).1
    rw [hok.1.1] at this
    exact this h]
  exact raw_eq c jt jf k
theorem line_kind {c : Nat} (jt jf k : Nat) (h : (ofN c).1 ≠ 0) :
    lineS c jt jf k = if ((otherT (ofN c).1 (ofN c).2 (decS k)).2 || k == 0) && (decide (25 ≤ (ofN c).1) || (jt == 0 && jf == 0)) then (if decide (25 ≤ (ofN c).1) = true then headS (wordN (ofN c).1) (otherT (ofN c).1 (ofN c).2 (decS k)).1 ++ tailS jt jf else headS (wordN (ofN c).1) (otherT (ofN c).1 (ofN c).2 (decS k)).1) else rawS c jt jf k := by
  obtain ⟨f, hf, rfl⟩ := of_form h
  obtain ⟨_, _, t1, t2, t3, t4, t5⟩ := forms_table f hf
  have hfi := find_uniq (p := okF f.code jt jf k) hf (fun g hg hok => by
    unfold okF at hok
    simp only [Bool.and_eq_true, beq_iff_eq] at hok
    exact forms_uniq hg hf hok.1.1)
  have hb : (otherT (ofN f.code).1 (ofN f.code).2 (decS k)).2 = numberedF f.other := by rw [other_tag, t2, tagT_b _ _ t3, t4]
  have ho : (otherT (ofN f.code).1 (ofN f.code).2 (decS k)).1 = writtenF f.other (decS k) := by rw [other_tag, t2, form_tag _ _ (by omega)]
  have hok : okF f.code jt jf k f = ((numberedF f.other || k == 0) && (f.jumps || (jt == 0 && jf == 0))) := by unfold okF; simp
  unfold lineS lineWs
  rw [hfi, hok, hb, ho, t1, t5]
  by_cases hp : ((numberedF f.other || k == 0) && (f.jumps || (jt == 0 && jf == 0))) = true
  · rw [if_pos hp, if_pos hp]
    exact form_eq f jt jf k t3
  · rw [if_neg hp, if_neg hp]
    exact raw_eq _ jt jf k
theorem of_le (c : Nat) : (ofN c).1 ≤ 28 := by
  by_cases h : (ofN c).1 = 0
  · omega
  · obtain ⟨f, hf, rfl⟩ := of_form h
    exact (forms_table f hf).2.1
end Go.Proofs.YtokehnclakedeaaGreatDoor
