/- The words of a told line: plain facts. -/
import Derived.Test.YtokehnclakedeaaGreatDoorListBackP
namespace Go.Proofs.YtokehnclakedeaaGreatDoor
open Go Go.Proofs Go.RowKit

/-- A byte that may stand in a told word. -/
def wB (b : UInt8) : Bool := !(b == 32 || b == 9 || b == 13 || b == 59)
theorem wB_blk {b : UInt8} (h : wB b = true) : blkB b = false := by
  unfold wB at h
  unfold blkB
  simp only [Bool.not_eq_true', Bool.or_eq_false_iff] at h
  simp only [Bool.or_eq_false_iff]
  exact h.1
theorem wB_note {b : UInt8} (h : wB b = true) : b ≠ 59 := by
  rintro rfl
  revert h
  decide
theorem wordsGo_word : ∀ (x l w : List UInt8) (out : List ByteArray), (∀ b ∈ x, wB b = true) → wordsGo (x ++ l) w out = wordsGo l (w ++ x) out
  | [], l, w, out, _ => by rw [List.append_nil]; rfl
  | b :: x, l, w, out, h => by
    rw [List.cons_append]
    show (if blkB b then wordsGo (x ++ l) [] (flush w out) else wordsGo (x ++ l) (w ++ [b]) out) = _
    rw [wB_blk (h b (by simp)), if_neg (by decide), wordsGo_word x l _ out (fun c hc => h c (by simp [hc])), List.append_assoc]
    rfl
theorem wordsGo_blanks : ∀ (x l : List UInt8) (out : List ByteArray), (∀ b ∈ x, blkB b = true) → wordsGo (x ++ l) [] out = wordsGo l [] out
  | [], _, _, _ => rfl
  | b :: x, l, out, h => by
    rw [List.cons_append]
    show (if blkB b then wordsGo (x ++ l) [] (flush [] out) else _) = _
    rw [h b (by simp), if_pos rfl]
    exact wordsGo_blanks x l out (fun c hc => h c (by simp [hc]))
theorem wordsGo_gap (x l w : List UInt8) (out : List ByteArray) (hne : x ≠ []) (h : ∀ b ∈ x, blkB b = true) : wordsGo (x ++ l) w out = wordsGo l [] (flush w out) := by
  cases x with
  | nil => exact absurd rfl hne
  | cons b x =>
    rw [List.cons_append]
    show (if blkB b then wordsGo (x ++ l) [] (flush w out) else _) = _
    rw [h b (by simp), if_pos rfl]
    exact wordsGo_blanks x l _ (fun c hc => h c (by simp [hc]))
/-- Words with gaps between them. -/
def gapJ (g : List UInt8) : List (List UInt8) → List UInt8
  | [] => []
  | [x] => x
  | x :: y :: r => x ++ (g ++ gapJ g (y :: r))
theorem join_gap : ∀ xs : List (List UInt8), Lib.join xs [32] = gapJ [32] xs
  | [] => by simp [Lib.join, gapJ]
  | [x] => by simp [Lib.join, gapJ]
  | x :: y :: r => by
    have := join_gap (y :: r)
    unfold gapJ
    rw [← this]
    simp [Lib.join]
theorem wordsGo_gapJ (g : List UInt8) (hg : g ≠ []) (hb : ∀ b ∈ g, blkB b = true) (t : List UInt8) (ht : ∀ b ∈ t, blkB b = true) : ∀ (ws : List ByteArray) (out : List ByteArray), (∀ x ∈ ws, x.data.toList ≠ [] ∧ ∀ b ∈ x.data.toList, wB b = true) →
    wordsGo (gapJ g (ws.map (·.data.toList)) ++ t) [] out = out ++ ws
  | [], out, _ => by
    show wordsGo ([] ++ t) [] out = _
    have := wordsGo_blanks t [] out ht
    rw [List.append_nil] at this
    rw [List.nil_append, this]
    show flush [] out = _
    simp [flush]
  | [x], out, h => by
    have hx := h x (by simp)
    show wordsGo (x.data.toList ++ t) [] out = _
    rw [wordsGo_word _ _ _ _ hx.2, List.nil_append]
    cases t with
    | nil =>
      show flush x.data.toList out = _
      unfold flush
      rw [if_neg hx.1]
    | cons b t =>
      have := wordsGo_gap (b :: t) [] x.data.toList out (by simp) ht
      rw [List.append_nil] at this
      rw [this]
      show flush [] (flush x.data.toList out) = _
      unfold flush
      rw [if_pos rfl, if_neg hx.1]
  | x :: y :: r, out, h => by
    have hx := h x (by simp)
    show wordsGo ((x.data.toList ++ (g ++ gapJ g ((y :: r).map (·.data.toList)))) ++ t) [] out = _
    rw [List.append_assoc, wordsGo_word _ _ _ _ hx.2, List.nil_append, List.append_assoc, wordsGo_gap g _ _ _ hg hb]
    rw [show flush x.data.toList out = out ++ [x] by unfold flush; rw [if_neg hx.1]]
    rw [wordsGo_gapJ g hg hb t ht (y :: r) (out ++ [x]) (fun z hz => h z (by simp [hz]))]
    simp
theorem noteCut_at (a r : List UInt8) (h : ∀ b ∈ a, b ≠ 59) : noteCut (a ++ 59 :: r) = a := by
  unfold noteCut
  rw [cutV_at 59 a r (fun hm => h 59 hm rfl)]
theorem noteCut_none (a : List UInt8) (h : ∀ b ∈ a, b ≠ 59) : noteCut a = a := by
  unfold noteCut
  rw [cutV_none 59 a (fun hm => h 59 hm rfl)]
theorem dec_wB (n : Nat) : ∀ b ∈ Lib.decDigits n, wB b = true := by
  have : ∀ (l : List UInt8) (acc m : Nat), Lib.decFrom acc l = some m → ∀ b ∈ l, wB b = true := by
    intro l
    induction l with
    | nil => intro _ _ _ b hb; cases hb
    | cons x r ih =>
      intro acc m h b hb
      unfold Lib.decFrom at h
      split at h
      · rename_i d hd
        rcases List.mem_cons.1 hb with rfl | hb
        · unfold Lib.digitVal at hd
          split at hd
          · rename_i hr
            have h1 : ∀ c : UInt8, 48 ≤ b.toNat → c.toNat < 48 ∨ 57 < c.toNat → (b == c) = false := fun c _ hc => by
              rw [beq_eq_false_iff_ne]
              rintro rfl
              omega
            unfold wB
            rw [h1 32 hr.1 (by decide), h1 9 hr.1 (by decide), h1 13 hr.1 (by decide), h1 59 hr.1 (by decide)]
            rfl
          · cases hd
        · exact ih _ _ h b hb
      · cases h
  exact this _ _ _ (decFrom_dec n)
theorem forms_wB : ∀ f ∈ formsL, f.word.data.toList ≠ [] ∧ (∀ b ∈ f.word.data.toList, wB b = true) ∧ (∀ b ∈ f.other.data.toList, wB b = true) := by decide +kernel
theorem written_wB (o : ByteArray) (k : Nat) (ho : ∀ b ∈ o.data.toList, wB b = true) : ∀ b ∈ (writtenF o (decS k)).data.toList, wB b = true := by
  have hd := dec_wB k
  intro b hb
  unfold writtenF at hb
  repeat' split at hb
  · rw [app_list3, app_list3] at hb
    rcases List.mem_append.1 hb with hb | hb
    · rcases List.mem_append.1 hb with hb | hb
      · exact (by decide : ∀ b ∈ [(91 : UInt8)], wB b = true) b hb
      · exact hd b hb
    · exact (by decide : ∀ b ∈ [(93 : UInt8)], wB b = true) b hb
  · rw [app_list3, app_list3] at hb
    rcases List.mem_append.1 hb with hb | hb
    · rcases List.mem_append.1 hb with hb | hb
      · exact (by decide : ∀ b ∈ [(109 : UInt8), 91], wB b = true) b hb
      · exact hd b hb
    · exact (by decide : ∀ b ∈ [(93 : UInt8)], wB b = true) b hb
  · rw [app_list3] at hb
    rcases List.mem_append.1 hb with hb | hb
    · exact (by decide : ∀ b ∈ [(35 : UInt8)], wB b = true) b hb
    · exact hd b hb
  · exact hd b hb
  · exact ho b hb
theorem dec_ne (n : Nat) : (decS n).data.toList ≠ [] := by
  obtain ⟨c, r, e, _⟩ := dec_head3 n
  rw [decS_list, e]
  simp
theorem written_ne (o : ByteArray) (k : Nat) (ho : o ≠ ⟨#[]⟩) : (writtenF o (decS k)).data.toList ≠ [] := by
  unfold writtenF
  repeat' split
  · rw [app_list3, app_list3]; simp
  · rw [app_list3, app_list3]; simp
  · rw [app_list3]; simp
  · exact dec_ne k
  · intro e
    exact ho (ba_ext e)
theorem lineWs_wB (c jt jf k : Nat) : ∀ x ∈ lineWs c jt jf k, x.data.toList ≠ [] ∧ ∀ b ∈ x.data.toList, wB b = true := by
  intro s hs
  rcases lineWs_cases c jt jf k with ⟨f, hf, rfl, ho, e⟩ | e <;> rw [e] at hs
  · have hx : s = f.word ∨ (f.other ≠ ⟨#[]⟩ ∧ s = writtenF f.other (decS k)) ∨ s = decS jt ∨ s = decS jf := by
      unfold formWs w1 at hs
      by_cases he : f.other = ⟨#[]⟩
      · rw [if_pos he] at hs
        split at hs <;> simp at hs <;> first | (rcases hs with h | h | h <;> simp [h]) | simp [hs]
      · rw [if_neg he] at hs
        split at hs <;> simp at hs <;> first | (rcases hs with h | h | h | h <;> simp [h, he]) | (rcases hs with h | h <;> simp [h, he])
    rcases hx with rfl | ⟨he, rfl⟩ | rfl | rfl
    · exact ⟨(forms_wB f hf).1, (forms_wB f hf).2.1⟩
    · exact ⟨written_ne _ k he, written_wB _ k (forms_wB f hf).2.2⟩
    · exact ⟨dec_ne jt, dec_wB jt⟩
    · exact ⟨dec_ne jf, dec_wB jf⟩
  · simp only [rawWs, List.mem_cons, List.not_mem_nil, or_false] at hs
    rcases hs with rfl | rfl | rfl | rfl | rfl
    · exact ⟨by simp, by decide +kernel⟩
    · exact ⟨dec_ne c, dec_wB c⟩
    · exact ⟨dec_ne jt, dec_wB jt⟩
    · exact ⟨dec_ne jf, dec_wB jf⟩
    · exact ⟨dec_ne k, dec_wB k⟩
theorem gapJ_mem (g : List UInt8) : ∀ (xs : List (List UInt8)) (b : UInt8), b ∈ gapJ g xs → b ∈ g ∨ ∃ x ∈ xs, b ∈ x
  | [], b, h => by cases h
  | [x], b, h => .inr ⟨x, by simp, h⟩
  | x :: y :: r, b, h => by
    unfold gapJ at h
    rcases List.mem_append.1 h with h | h
    · exact .inr ⟨x, by simp, h⟩
    · rcases List.mem_append.1 h with h | h
      · exact .inl h
      · rcases gapJ_mem g (y :: r) b h with h | ⟨z, hz, hb⟩
        · exact .inl h
        · exact .inr ⟨z, by simp [List.mem_cons.1 hz], hb⟩
theorem lineWs_note (c jt jf k : Nat) (g : List UInt8) (hg : ∀ b ∈ g, b ≠ 59) : ∀ b ∈ gapJ g ((lineWs c jt jf k).map (·.data.toList)), b ≠ 59 := by
  intro b hb
  rcases gapJ_mem _ _ b hb with h | ⟨x, hx, hb⟩
  · exact hg b h
  · obtain ⟨s, hs, rfl⟩ := List.mem_map.1 hx
    exact wB_note ((lineWs_wB c jt jf k s hs).2 b hb)
/-- A told line's words. -/
theorem lineS_words (c jt jf k : Nat) : lineWords (lineS c jt jf k).data.toList = lineWs c jt jf k := by
  have e : (lineS c jt jf k).data.toList = gapJ [32] ((lineWs c jt jf k).map (·.data.toList)) := by
    rw [← join_gap]
    rfl
  unfold lineWords
  rw [e, noteCut_none _ (lineWs_note c jt jf k [32] (by decide))]
  have := wordsGo_gapJ [32] (by simp) (by decide) [] (by simp) (lineWs c jt jf k) [] (lineWs_wB c jt jf k)
  rw [List.append_nil] at this
  rw [this]
  rfl
theorem list_readsBack (c jt jf k : Nat) (hc : c < 65536) (hjt : jt < 256) (hjf : jf < 256) (hk : k < 4294967296) : listAns (lineS c jt jf k).data.toList = ((c, jt, jf, k), 0) := by
  unfold listAns
  rw [lineS_words, list_back c jt jf k hc hjt hjf hk]
end Go.Proofs.YtokehnclakedeaaGreatDoor
