/- What a line says, read backwards: a form that is met is the line's own. Plain facts. -/
import Derived.Test.YtokehnclakedeaaGreatDoorListCanon
import Derived.Test.YtokehnclakedeaaGreatDoorListRWordsP
namespace Go.Proofs.YtokehnclakedeaaGreatDoor
open Go Go.Proofs Go.RowKit

/-- The number of the first figures in a line's second word. -/
def rdK (r : List ByteArray) : Nat := match r with | [] => 0 | w1 :: _ => (numV (digitsV w1.data.toList) 32).getD 0
theorem dec_digB (n : Nat) : ∀ b ∈ Lib.decDigits n, digB b = true := by
  induction n using Nat.strongRecOn with
  | _ n ih =>
    have h10 : ∀ r, r < 10 → digB (UInt8.ofNat (48 + r)) = true := by decide +kernel
    by_cases h1 : n < 10
    · rw [Lib.decDigits_one h1]
      intro b hb
      rw [List.mem_singleton.1 hb]
      exact h10 n h1
    · rw [Lib.decDigits, dif_neg h1]
      intro b hb
      rcases List.mem_append.1 hb with h | h
      · exact ih (n / 10) (by omega) b h
      · rw [List.mem_singleton.1 h]
        exact h10 _ (by omega)
theorem digitsV_mid (p d q : List UInt8) (hp : ∀ b ∈ p, digB b = false) (hd : ∀ b ∈ d, digB b = true) (hne : d ≠ []) (hq : ∀ c t, q = c :: t → digB c = false) : digitsV (p ++ (d ++ q)) = d := by
  unfold digitsV
  rw [dropWhile_app, takeWhile_app _ _ hd hq]
  · intro x hx; rw [hp x hx]; rfl
  · intro c t h
    cases d with
    | nil => exact absurd rfl hne
    | cons x d =>
      rw [List.cons_append] at h
      rw [← (List.cons.inj h).1, hd x (by simp)]
      rfl
theorem digitsV_none (l : List UInt8) (h : ∀ b ∈ l, digB b = false) : digitsV l = [] := by
  unfold digitsV
  have := dropWhile_app (p := fun c => !digB c) l [] (fun x hx => by rw [h x hx]; rfl) (fun c t e => by cases e)
  rw [List.append_nil] at this
  rw [this]
  rfl
theorem pre_nodig (t : Nat) : ∀ b ∈ preT t, digB b = false := by
  unfold preT
  repeat' split
  all_goals decide
theorem post_nodig (t : Nat) : ∀ c r, postT t = c :: r → digB c = false := by
  intro c r h
  unfold postT at h
  split at h
  · rw [← (List.cons.inj h).1]; decide
  · cases h
theorem dec_ne3 (k : Nat) : Lib.decDigits k ≠ [] := by
  obtain ⟨c, r, e, _⟩ := dec_head3 k
  rw [e]
  simp
theorem untag_self {o : ByteArray} (s : ByteArray) (ht : formTag o ≤ 7) (hb : tagB (formTag o) = false) : writtenF o s = o := by
  rcases form_o ht with rfl | rfl | rfl | rfl | rfl | rfl | rfl | rfl
  · exact absurd hb (by decide +kernel)
  · exact absurd hb (by decide +kernel)
  · exact absurd hb (by decide +kernel)
  · exact absurd hb (by decide +kernel)
  all_goals rfl
theorem untag_nodig {o : ByteArray} (ht : formTag o ≤ 7) (hb : tagB (formTag o) = false) : ∀ b ∈ o.data.toList, digB b = false := by
  rcases form_o ht with rfl | rfl | rfl | rfl | rfl | rfl | rfl | rfl
  · exact absurd hb (by decide +kernel)
  · exact absurd hb (by decide +kernel)
  · exact absurd hb (by decide +kernel)
  · exact absurd hb (by decide +kernel)
  all_goals decide +kernel
theorem pre_split {l p : List UInt8} (h : Lib.hasPrefix l p = true) : l = p ++ Lib.trimPrefix l p := by
  have h2 : p.isPrefixOf l = true := h
  rw [List.isPrefixOf_iff_prefix] at h2
  obtain ⟨t, rfl⟩ := h2
  rw [(pre_app p t).2]
theorem suf_split {l p : List UInt8} (h : Lib.hasSuffix l p = true) : l = Lib.trimSuffix l p ++ p := by
  have h2 : p.isSuffixOf l = true := h
  rw [List.isSuffixOf_iff_suffix] at h2
  obtain ⟨t, rfl⟩ := h2
  rw [(suf_app t p).2]
theorem decS_canon {s : ByteArray} {bits n : Nat} (h : numV s.data.toList bits = some n) : s = decS n := ba_ext (by rw [numV_canon h, decS_list])
/-- The second word that a form takes is the one that it writes. -/
theorem inner_back {o w1 : ByteArray} (k : Nat) (ht : formTag o ≤ 7) (h2 : (innerV (formTag o) o.data.toList w1.data.toList).2 = true)
    (hk : (if tagB (formTag o) = true then numV (innerV (formTag o) o.data.toList w1.data.toList).1 32 else some 0) = some k) :
    w1 = writtenF o (decS k) ∧ (tagB (formTag o) = true ∨ k = 0) ∧ (numV (digitsV w1.data.toList) 32).getD 0 = k := by
  cases hb : tagB (formTag o) with
  | true =>
    rw [if_pos hb] at hk
    have e1 : (innerV (formTag o) o.data.toList w1.data.toList).1 = innerK (formTag o) w1.data.toList := by unfold innerV; rw [if_pos hb]
    have e2 : (innerV (formTag o) o.data.toList w1.data.toList).2 = (Lib.hasPrefix w1.data.toList (preT (formTag o)) && Lib.hasSuffix (Lib.trimPrefix w1.data.toList (preT (formTag o))) (postT (formTag o)) && digH (innerK (formTag o) w1.data.toList)) := by unfold innerV; rw [if_pos hb]
    rw [e1] at hk
    rw [e2] at h2
    simp only [Bool.and_eq_true] at h2
    have hw : w1.data.toList = preT (formTag o) ++ (Lib.decDigits k ++ postT (formTag o)) := by
      rw [← numV_canon hk]
      conv => lhs; rw [pre_split h2.1.1]
      congr 1
      exact suf_split h2.1.2
    refine ⟨ba_ext ?_, .inl rfl, ?_⟩
    · rw [form_tag o _ (by omega), tag_list _ _ hb, hw]
    · rw [hw, digitsV_mid _ _ _ (pre_nodig _) (dec_digB k) (dec_ne3 k) (post_nodig _)]
      have : Lib.decDigits k = innerK (formTag o) w1.data.toList := (numV_canon hk).symm
      rw [this, hk]
      rfl
  | false =>
    rw [if_neg (by rw [hb]; decide)] at hk
    cases hk
    have e2 : (innerV (formTag o) o.data.toList w1.data.toList).2 = (w1.data.toList == o.data.toList) := by unfold innerV; rw [if_neg (by rw [hb]; decide)]
    rw [e2] at h2
    have hw : w1 = o := ba_ext (beq_iff_eq.1 h2)
    subst hw
    refine ⟨(untag_self _ ht hb).symm, .inr rfl, ?_⟩
    rw [digitsV_none _ (untag_nodig ht hb)]
    rfl
/-- A form that reads a line: the line is its own. -/
theorem formed_inv {f : Frm} (hf : f ∈ formsL) {w0 : ByteArray} {r : List ByteArray} {c a b k : Nat} (h : formedV f (w0 :: r) = some (some (c, a, b, k))) :
    c = f.code ∧ w0 :: r = formWs f a b k ∧ okF c a b k f = true ∧ rdK r = k ∧ (r.length = 3 → numV (r.getD 1 ⟨#[]⟩).data.toList 8 = some a ∧ numV (r.getD 2 ⟨#[]⟩).data.toList 8 = some b) ∧ (r.length ≠ 3 → a = 0 ∧ b = 0) := by
  obtain ⟨_, _, _, _, t3, t4, _⟩ := forms_table f hf
  obtain ⟨_, s2⟩ := forms_shape f hf
  have hv : formedV f (w0 :: r) = (if (w0.toList == f.word.toList) = true then (if r.length + 1 = countF f.other f.jumps then (if f.other.toList.isEmpty = true then some (some (f.code, 0, 0, 0)) else formedU f r) else some none) else some none) := rfl
  rw [hv] at h
  clear hv
  split at h
  case isFalse => cases h
  rename_i h0
  split at h
  case isFalse => cases h
  rename_i hlen
  obtain rfl : w0 = f.word := bytes_eqT (by simpa using h0)
  unfold countF at hlen
  split at h
  case isTrue he =>
    have hj := s2 he
    rw [if_pos he, hj, if_neg (by decide)] at hlen
    obtain rfl : r = [] := List.eq_nil_of_length_eq_zero (by omega)
    cases h
    refine ⟨rfl, ?_, ?_, rfl, (fun e => absurd e (by decide)), (fun _ => ⟨rfl, rfl⟩)⟩
    · unfold formWs w1
      rw [hj, if_pos ((empty_iff _).1 he)]
      rfl
    · unfold okF
      simp
  case isFalse he =>
    rw [if_neg he] at hlen
    have he' : ¬ f.other = ⟨#[]⟩ := fun e => he ((empty_iff _).2 e)
    obtain ⟨w1', r, rfl⟩ : ∃ x t, r = x :: t := by
      cases r with
      | nil => simp at hlen; omega
      | cons x t => exact ⟨x, t, rfl⟩
    have hu : formedU f (w1' :: r) = (if (innerV (formTag f.other) f.other.data.toList w1'.data.toList).2 = true then (match (if tagB (formTag f.other) = true then numV (innerV (formTag f.other) f.other.data.toList w1'.data.toList).1 32 else some 0) with | none => none | some k => formedJ f k r) else some none) := rfl
    rw [hu] at h
    clear hu
    split at h
    case isFalse => cases h
    rename_i hin
    cases hk : (if tagB (formTag f.other) = true then numV (innerV (formTag f.other) f.other.data.toList w1'.data.toList).1 32 else some 0) with
    | none => rw [hk] at h; cases h
    | some k' =>
      rw [hk] at h
      dsimp only at h
      obtain ⟨q1, q2, q3⟩ := inner_back k' t3 hin hk
      have hrd : rdK (w1' :: r) = k' := q3
      have hnum : (numberedF f.other || k' == 0) = true := by
        rw [t4]
        rcases q2 with q | q
        · rw [q]; rfl
        · rw [q]; simp
      cases hj : f.jumps with
      | true =>
        rw [hj, if_pos rfl] at hlen
        obtain ⟨x, y, rfl⟩ : ∃ x y, r = [x, y] := by
          match r, hlen with
          | [x, y], _ => exact ⟨x, y, rfl⟩
        unfold formedJ at h
        rw [if_pos hj] at h
        cases ha : numV (([x, y] : List ByteArray).getD 0 ⟨#[]⟩).data.toList 8 with
        | none => rw [ha] at h; cases h
        | some a' =>
          rw [ha] at h
          dsimp only at h
          cases hb : numV (([x, y] : List ByteArray).getD 1 ⟨#[]⟩).data.toList 8 with
          | none => rw [hb] at h; cases h
          | some b' =>
            rw [hb] at h
            dsimp only at h
            cases h
            have hx : x = decS a := decS_canon ha
            have hy : y = decS b := decS_canon hb
            refine ⟨rfl, ?_, ?_, hrd, (fun _ => ⟨ha, hb⟩), (fun e => absurd rfl e)⟩
            · unfold formWs w1
              rw [hj, if_pos rfl, if_neg he', q1, hx, hy]
              rfl
            · unfold okF
              rw [hnum, hj]
              simp
      | false =>
        rw [hj, if_neg (by decide)] at hlen
        obtain rfl : r = [] := List.eq_nil_of_length_eq_zero (by have h9 : (w1' :: r).length = r.length + 1 := rfl; omega)
        unfold formedJ at h
        rw [if_neg (by rw [hj]; decide)] at h
        cases h
        refine ⟨rfl, ?_, ?_, hrd, (fun e => absurd (show 1 = 3 from e) (by decide)), (fun _ => ⟨rfl, rfl⟩)⟩
        · unfold formWs w1
          rw [hj, if_neg (by decide), if_neg he', q1]
        · unfold okF
          rw [hnum, hj]
          simp
theorem lineF_inv {ws : List ByteArray} {x : Nat × Nat × Nat × Nat} : ∀ l : List Frm, lineF l ws = some x → ∃ f ∈ l, formedV f ws = some (some x)
  | [], h => by cases h
  | f :: l, h => by
    have h2 : (match formedV f ws with | none => none | some none => lineF l ws | some (some x) => some x) = some x := h
    cases hv : formedV f ws with
    | none => rw [hv] at h2; cases h2
    | some o =>
      cases o with
      | none =>
        rw [hv] at h2
        obtain ⟨g, hg, h3⟩ := lineF_inv l h2
        exact ⟨g, by simp [hg], h3⟩
      | some y =>
        rw [hv] at h2
        cases h2
        exact ⟨f, by simp, hv⟩
theorem forms_256 : ∀ f ∈ formsL, f.code < 256 := by decide +kernel
/-- A line that says something, by no `.code`: it is the told line of what it says. -/
theorem line_inv {w0 : ByteArray} {r : List ByteArray} {c a b k : Nat} (h0 : ¬ (w0.toList == dotCode) = true) (h : lineV w0 r = some (c, a, b, k)) :
    c < 256 ∧ lineWs c a b k = w0 :: r ∧ rdK r = k ∧ (r.length = 3 → numV (r.getD 1 ⟨#[]⟩).data.toList 8 = some a ∧ numV (r.getD 2 ⟨#[]⟩).data.toList 8 = some b) ∧ (r.length ≠ 3 → a = 0 ∧ b = 0) := by
  unfold lineV at h
  rw [if_neg h0] at h
  obtain ⟨f, hf, hv⟩ := lineF_inv formsL h
  obtain ⟨rfl, hw, ho, hk, h1, h2⟩ := formed_inv hf hv
  refine ⟨forms_256 f hf, ?_, hk, h1, h2⟩
  rw [hw]
  unfold lineWs
  rw [find_uniq hf, if_pos ho]
  intro g hg hp
  unfold okF at hp
  simp only [Bool.and_eq_true, beq_iff_eq] at hp
  exact forms_uniq hg hf hp.1.1
/-- The numbers that the document takes for the jumps. -/
def rdJ (r : List ByteArray) : Option (Nat × Nat) :=
  if r.length = 3 then (match numV (r.getD 1 ⟨#[]⟩).data.toList 8, numV (r.getD 2 ⟨#[]⟩).data.toList 8 with | some a, some b => some (a, b) | _, _ => none) else some (0, 0)
theorem reads_bad {w0 : ByteArray} {r : List ByteArray} (h0 : ¬ (w0.toList == dotCode) = true) (hj : rdJ r = none) : listAnsW (w0 :: r) = ((0, 0, 0, 0), 13) := by
  show readL (lineV w0 r) = _
  cases h : lineV w0 r with
  | none => rfl
  | some x =>
    obtain ⟨c, a, b, k⟩ := x
    obtain ⟨_, _, _, h1, h2⟩ := line_inv h0 h
    unfold rdJ at hj
    split at hj
    · rename_i h3
      obtain ⟨e1, e2⟩ := h1 h3
      rw [e1, e2] at hj
      cases hj
    · cases hj
theorem reads_none {w0 : ByteArray} {r : List ByteArray} {jt jf : Nat} (h0 : ¬ (w0.toList == dotCode) = true) (hj : rdJ r = some (jt, jf)) (hno : ∀ c, c < 256 → lineWs c jt jf (rdK r) ≠ w0 :: r) : listAnsW (w0 :: r) = ((0, 0, 0, 0), 13) := by
  show readL (lineV w0 r) = _
  cases h : lineV w0 r with
  | none => rfl
  | some x =>
    obtain ⟨c, a, b, k⟩ := x
    obtain ⟨hc, hw, hk, h1, h2⟩ := line_inv h0 h
    exfalso
    have hab : a = jt ∧ b = jf := by
      unfold rdJ at hj
      split at hj
      · rename_i h3
        obtain ⟨e1, e2⟩ := h1 h3
        rw [e1, e2] at hj
        cases hj
        exact ⟨rfl, rfl⟩
      · rename_i h3
        cases hj
        exact h2 h3
    obtain ⟨rfl, rfl⟩ := hab
    rw [← hk] at hw
    exact hno c hc hw
theorem rdK_lt (r : List ByteArray) : rdK r < 4294967296 := by
  unfold rdK
  split
  · decide
  · cases h : numV _ 32 with
    | none => decide
    | some n => exact numV_lt h
theorem rdJ_lt {r : List ByteArray} {jt jf : Nat} (h : rdJ r = some (jt, jf)) : jt < 256 ∧ jf < 256 := by
  unfold rdJ at h
  split at h
  · split at h
    · rename_i ha hb
      cases h
      exact ⟨numV_lt ha, numV_lt hb⟩
    · cases h
  · cases h; decide
theorem reads_found {w0 : ByteArray} {r : List ByteArray} {c jt jf : Nat} (hc : c < 256) (hj : rdJ r = some (jt, jf)) (h : lineWs c jt jf (rdK r) = w0 :: r) : listAnsW (w0 :: r) = ((c, jt, jf, rdK r), 0) := by
  rw [← h]
  exact list_back c jt jf (rdK r) (by omega) (rdJ_lt hj).1 (rdJ_lt hj).2 (rdK_lt r)
theorem lineWs_small3 (c jt jf k : Nat) (h1 : c < 65536) (h2 : jt < 256) (h3 : jf < 256) (h4 : k < 4294967296) : (∀ x ∈ lineWs c jt jf k, x.size ≤ 23) ∧ (lineWs c jt jf k).length ≤ 5 := by
  have h1 := decS_le c (Nat.lt_trans h1 (by decide))
  have h2 := decS_le jt (Nat.lt_trans h2 (by decide))
  have h3 := decS_le jf (Nat.lt_trans h3 (by decide))
  have h4 := decS_le k h4
  rcases lineWs_cases c jt jf k with ⟨f, hf, rfl, ho, e⟩ | e <;> rw [e]
  · obtain ⟨f1, _, f3⟩ := forms_ok f hf
    have h5 := written_size f.other (decS k) f1 h4
    constructor
    · intro s hs
      have hx : s = f.word ∨ s = writtenF f.other (decS k) ∨ s = decS jt ∨ s = decS jf := by
        unfold formWs w1 at hs
        split at hs <;> split at hs <;> simp at hs <;> first | (rcases hs with h | h | h | h <;> simp [h]) | (rcases hs with h | h | h <;> simp [h]) | (rcases hs with h | h <;> simp [h]) | simp [hs]
      rcases hx with rfl | rfl | rfl | rfl <;> omega
    · unfold formWs w1
      split <;> split <;> simp
  · constructor
    · intro s hs
      simp only [rawWs, List.mem_cons, List.not_mem_nil, or_false] at hs
      rcases hs with rfl | rfl | rfl | rfl | rfl
      · decide +kernel
      · omega
      · omega
      · omega
      · omega
    · simp [rawWs]
theorem lineS_size3 (c jt jf k : Nat) (h1 : c < 65536) (h2 : jt < 256) (h3 : jf < 256) (h4 : k < 4294967296) : (lineS c jt jf k).size ≤ 1000 := by
  obtain ⟨h1, h2⟩ := lineWs_small3 c jt jf k h1 h2 h3 h4
  have h3 := join_bound _ h1
  have e : (lineS c jt jf k).size = (Lib.join ((lineWs c jt jf k).map (·.data.toList)) [32]).length := by
    rw [← listSize]
    rfl
  omega
/-- Two lists of words, compared word by word so far. -/
def sameUpto (a b : List ByteArray) (n : Nat) (B : Bool) : Prop := (B = true → a.length = b.length ∧ ∀ j, j < n → a[j]? = b[j]?) ∧ (B = false → a ≠ b)
theorem same_end {a b : List ByteArray} {n : Nat} (h : sameUpto a b n true) (hn : b.length ≤ n) : a = b := by
  obtain ⟨h1, h2⟩ := h.1 rfl
  apply List.ext_getElem?
  intro j
  by_cases hj : j < n
  · exact h2 j hj
  · rw [List.getElem?_eq_none (by omega), List.getElem?_eq_none (by omega)]
theorem same_step {a b : List ByteArray} {n : Nat} {x y : ByteArray} (h : sameUpto a b n true) (ha : a[n]? = some x) (hb : b[n]? = some y) : sameUpto a b (n + 1) (x.toList == y.toList) := by
  obtain ⟨h1, h2⟩ := h.1 rfl
  constructor
  · intro e
    have hxy : x = y := bytes_eqT (by simpa using e)
    refine ⟨h1, fun j hj => ?_⟩
    by_cases e2 : j = n
    · subst e2; rw [ha, hb, hxy]
    · exact h2 j (by omega)
  · intro e hab
    rw [hab, hb] at ha
    rw [Option.some.inj ha] at e
    simp at e
end Go.Proofs.YtokehnclakedeaaGreatDoor
