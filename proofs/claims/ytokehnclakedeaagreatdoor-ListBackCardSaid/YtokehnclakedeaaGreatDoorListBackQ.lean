/- What is told is read as it was, whole: plain facts; the instructions as the program's. -/
import Derived.Test.YtokehnclakedeaaGreatDoorListText
namespace Go.Proofs.YtokehnclakedeaaGreatDoor
open Go Go.Proofs Go.RowKit

theorem dec_no10 (n : Nat) : ∀ b ∈ Lib.decDigits n, b ≠ 10 := by
  intro b hb e
  have := dec_digB n b hb
  rw [e] at this
  revert this
  decide
theorem forms_no10 : ∀ f ∈ formsL, (∀ b ∈ f.word.data.toList, b ≠ 10) ∧ (∀ b ∈ f.other.data.toList, b ≠ 10) := by decide +kernel
theorem written_no10 (o : ByteArray) (k : Nat) (ho : ∀ b ∈ o.data.toList, b ≠ 10) : ∀ b ∈ (writtenF o (decS k)).data.toList, b ≠ 10 := by
  have hd := dec_no10 k
  intro b hb
  unfold writtenF at hb
  repeat' split at hb
  · rw [app_list3, app_list3] at hb
    rcases List.mem_append.1 hb with hb | hb
    · rcases List.mem_append.1 hb with hb | hb
      · exact (by decide : ∀ b ∈ [(91 : UInt8)], b ≠ 10) b hb
      · exact hd b hb
    · exact (by decide : ∀ b ∈ [(93 : UInt8)], b ≠ 10) b hb
  · rw [app_list3, app_list3] at hb
    rcases List.mem_append.1 hb with hb | hb
    · rcases List.mem_append.1 hb with hb | hb
      · exact (by decide : ∀ b ∈ [(109 : UInt8), 91], b ≠ 10) b hb
      · exact hd b hb
    · exact (by decide : ∀ b ∈ [(93 : UInt8)], b ≠ 10) b hb
  · rw [app_list3] at hb
    rcases List.mem_append.1 hb with hb | hb
    · exact (by decide : ∀ b ∈ [(35 : UInt8)], b ≠ 10) b hb
    · exact hd b hb
  · exact hd b hb
  · exact ho b hb
theorem lineWs_no10 (c jt jf k : Nat) : ∀ x ∈ (lineWs c jt jf k).map (·.data.toList), ∀ b ∈ x, b ≠ 10 := by
  intro x hx b hb
  obtain ⟨s, hs, rfl⟩ := List.mem_map.1 hx
  rcases lineWs_cases c jt jf k with ⟨f, hf, rfl, ho, e⟩ | e <;> rw [e] at hs
  · have hx : s = f.word ∨ s = writtenF f.other (decS k) ∨ s = decS jt ∨ s = decS jf := by
      unfold formWs w1 at hs
      split at hs <;> split at hs <;> simp at hs <;> first | (rcases hs with h | h | h | h <;> simp [h]) | (rcases hs with h | h | h <;> simp [h]) | (rcases hs with h | h <;> simp [h]) | simp [hs]
    rcases hx with rfl | rfl | rfl | rfl
    · exact (forms_no10 f hf).1 b hb
    · exact written_no10 _ k (forms_no10 f hf).2 b hb
    · exact dec_no10 jt b hb
    · exact dec_no10 jf b hb
  · simp only [rawWs, List.mem_cons, List.not_mem_nil, or_false] at hs
    rcases hs with rfl | rfl | rfl | rfl | rfl
    · exact (by decide : ∀ b ∈ [(46 : UInt8), 99, 111, 100, 101], b ≠ 10) b hb
    · exact dec_no10 c b hb
    · exact dec_no10 jt b hb
    · exact dec_no10 jf b hb
    · exact dec_no10 k b hb
theorem lineS_no10 (c jt jf k : Nat) : ∀ b ∈ (lineS c jt jf k).data.toList, b ≠ 10 := by
  intro b hb
  rw [lineS_list] at hb
  rcases gapJ_mem _ _ b hb with h | ⟨x, hx, hb⟩
  · exact (by decide : ∀ b ∈ [(32 : UInt8)], b ≠ 10) b h
  · exact lineWs_no10 c jt jf k x hx b hb
theorem lineS_size120 (c jt jf k : Nat) (h : InsB c jt jf k) : (lineS c jt jf k).size ≤ 120 := by
  obtain ⟨h1, h2⟩ := lineWs_small c jt jf k h
  have h3 := join_bound _ h1
  have e : (lineS c jt jf k).size = (Lib.join ((lineWs c jt jf k).map (·.data.toList)) [32]).length := by
    rw [← sizeL]
    rfl
  omega
def InsB4 (x : Ins4) : Prop := InsB x.1 x.2.1 x.2.2.1 x.2.2.2
def lineI (x : Ins4) : ByteArray := lineS x.1 x.2.1 x.2.2.1 x.2.2.2
theorem textL_len120 : ∀ l : List Ins4, (∀ x ∈ l, InsB4 x) → (textL l).length ≤ l.length * 121
  | [], _ => by simp [textL]
  | x :: l, h => by
    have ih := textL_len120 l (fun y hy => h y (by simp [hy]))
    have h1 := lineS_size120 _ _ _ _ (h x (by simp))
    unfold textL at *
    rw [List.flatMap_cons, List.length_append, List.length_cons]
    have : (insT x).length = (lineS x.1 x.2.1 x.2.2.1 x.2.2.2).size + 1 := by unfold insT; rw [List.length_append, sizeL]; rfl
    omega
theorem pieces_text : ∀ l : List Ins4, pieces (textL l) = l.map (fun x => (lineI x).data.toList) ++ [[]]
  | [] => rfl
  | x :: l => by
    have ih := pieces_text l
    have e : textL (x :: l) = (lineI x).data.toList ++ 10 :: textL l := by
      unfold textL
      rw [List.flatMap_cons]
      unfold insT lineI
      simp
    rw [e, pieces_at (lineI x).data.toList _ (fun hm => lineS_no10 x.1 x.2.1 x.2.2.1 x.2.2.2 10 hm rfl), ih]
    rfl
theorem ansB_line (x : Ins4) (h : InsB4 x) : ansB (lineI x) = (x, 0) := list_readsBack x.1 x.2.1 x.2.2.1 x.2.2.2 h.1 h.2.1 h.2.2.1 h.2.2.2
theorem ansB_empty : ansB ⟨#[]⟩ = ((0, 0, 0, 0), 4) := rfl
theorem progAns_text (l : List Ins4) (h : ∀ x ∈ l, InsB4 x) (hl : l.length ≤ 100) : progAns ⟨(textL l).toArray⟩ = (l, 0, 0) := by
  have hs : (⟨(textL l).toArray⟩ : ByteArray).size ≤ 65536 := by
    show (textL l).toArray.size ≤ _
    rw [List.size_toArray]
    have := textL_len120 l h
    omega
  have hp : piecesB ⟨(textL l).toArray⟩ = l.map lineI ++ [⟨#[]⟩] := by
    unfold piecesB
    show (pieces (textL l)).map _ = _
    rw [pieces_text, List.map_append, List.map_map]
    congr 1
  rw [progAns_all hs, hp]
  · have : accP (l.map lineI ++ [⟨#[]⟩]) = l := by
      rw [accP_snoc, ansB_empty, if_neg (by decide), List.append_nil]
      clear hs hp hl
      induction l with
      | nil => rfl
      | cons x l ih =>
        rw [List.map_cons, accP_cons, ansB_line x (h x (by simp)), if_pos rfl, ih (fun y hy => h y (by simp [hy]))]
        rfl
    rw [this]
  · rw [hp]
    intro x hx
    unfold okP
    rcases List.mem_append.1 hx with hx | hx
    · obtain ⟨y, hy, rfl⟩ := List.mem_map.1 hx
      rw [ansB_line y (h y hy)]
      rfl
    · rw [List.mem_singleton.1 hx, ansB_empty]
      rfl

/-- Instructions that lie in memory. -/
def InssV (w : World) (v : Value) (l : List Ins4) : Prop := ∃ a c, v = .slice a l.length c ∧ (l = [] ∨ ∃ b off, a = some ⟨b, off, none⟩ ∧ b < w.heap.size ∧ ∀ j x, l[j]? = some x → ∀ i u, (insC x)[i]? = some u → w.cell? ⟨b, off + j * 4 + i, none⟩ = some u)
theorem InssV.below {w W : World} {v : Value} {l : List Ins4} (h : InssV w v l) (hb : Below w.heap.size w W) : InssV W v l := by
  obtain ⟨a, c, h1, h2⟩ := h
  refine ⟨a, c, h1, ?_⟩
  rcases h2 with h2 | ⟨b, off, h3, h4, h5⟩
  · exact .inl h2
  · exact .inr ⟨b, off, h3, Nat.lt_of_lt_of_le h4 hb.size, fun j x hj i u hu => lcell hb (h5 j x hj i u hu)⟩
theorem InssV.slice {w : World} {v : Value} {l : List Ins4} (h : InssV w v l) (hne : 0 < l.length) : ∃ b off c, v = .slice (some ⟨b, off, none⟩) l.length c ∧ b < w.heap.size ∧ ∀ j x, l[j]? = some x → ∀ i u, (insC x)[i]? = some u → w.cell? ⟨b, off + j * 4 + i, none⟩ = some u := by
  obtain ⟨a, c, h1, h2⟩ := h
  rcases h2 with rfl | ⟨b, off, h3, h4, h5⟩
  · simp at hne
  · exact ⟨b, off, c, by rw [h1, h3], h4, h5⟩
theorem InssV.own {w : World} {B : Nat} {v : Value} {l : List Ins4} (h : w.ownsRow B 25 4 v l.length (flatI l)) : InssV w v l := by
  have h' := h
  rcases h.2 with ⟨h1, h0⟩ | ⟨g, c, cur, rfl, _, h3, _⟩
  · exact ⟨none, 0, by rw [h1, h0], .inl (List.eq_nil_of_length_eq_zero h0)⟩
  · refine ⟨_, c, rfl, .inr ⟨g, 0, rfl, (Array.getElem?_eq_some_iff.1 h3).1, fun j x hj i u hu => ?_⟩⟩
    have hjl := (List.getElem?_eq_some_iff.1 hj).1
    have hi : i < 4 := (List.getElem?_eq_some_iff.1 hu).1
    have h4 := h'.cellAt (j * 4 + i) (by omega)
    rw [flatI_at l j x hj i hi, hu] at h4
    rw [Nat.zero_add]
    exact h4
end Go.Proofs.YtokehnclakedeaaGreatDoor
