/- What is told is read as it was: plain facts. -/
import Derived.Test.YtokehnclakedeaaGreatDoorListRead
import Derived.Test.YtokehnclakedeaaGreatDoorListInj
namespace Go.Proofs.YtokehnclakedeaaGreatDoor
open Go Go.Proofs Go.RowKit

theorem figD10 : ∀ r, r < 10 → figV (UInt8.ofNat (48 + r)) = some r := by decide +kernel

theorem numFrom_snoc (B : Nat) (c : UInt8) : ∀ (l : List UInt8) (acc : Nat), numFrom B acc (l ++ [c]) = (numFrom B acc l).bind fun a => match figV c with | some d => if d < B ∧ a * B + d < 18446744073709551616 then some (a * B + d) else none | none => none
  | [], acc => by
    show numFrom B acc [c] = _
    unfold numFrom
    cases figV c with
    | none => rfl
    | some d =>
      dsimp only
      split
      · simp [numFrom, *]
      · simp [numFrom, *]
  | x :: l, acc => by
    rw [List.cons_append]
    unfold numFrom
    cases figV x with
    | none => rfl
    | some d =>
      dsimp only
      split
      · exact numFrom_snoc B c l _
      · rfl
theorem num_dec (n : Nat) (h : n < 18446744073709551616) : numFrom 10 0 (Lib.decDigits n) = some n := by
  induction n using Nat.strongRecOn with
  | _ n ih =>
    by_cases h1 : n < 10
    · rw [Lib.decDigits_one h1, show [UInt8.ofNat (48 + n)] = [] ++ [UInt8.ofNat (48 + n)] from rfl, numFrom_snoc, figD10 n h1]
      show (if n < 10 ∧ 0 * 10 + n < _ then _ else _) = _
      rw [if_pos (by omega)]
      simp
    · have e : Lib.decDigits n = Lib.decDigits (n / 10) ++ [UInt8.ofNat (48 + n % 10)] := by rw [Lib.decDigits, dif_neg h1]
      rw [e, numFrom_snoc, ih (n / 10) (by omega) (by omega), figD10 (n % 10) (by omega)]
      show (if n % 10 < 10 ∧ n / 10 * 10 + n % 10 < _ then _ else _) = _
      rw [if_pos (by omega)]
      congr 1
      omega
/-- How figures begin. -/
theorem dec_head (n : Nat) : ∃ c r, Lib.decDigits n = c :: r ∧ 48 ≤ c.toNat ∧ c.toNat ≤ 57 ∧ (c = 48 → n = 0) := by
  induction n using Nat.strongRecOn with
  | _ n ih =>
    by_cases h1 : n < 10
    · refine ⟨_, [], Lib.decDigits_one h1, ?_⟩
      have : ∀ n, n < 10 → 48 ≤ (UInt8.ofNat (48 + n)).toNat ∧ (UInt8.ofNat (48 + n)).toNat ≤ 57 ∧ (UInt8.ofNat (48 + n) = 48 → n = 0) := by decide +kernel
      exact this n h1
    · obtain ⟨c, r, e, h2, h3, h4⟩ := ih (n / 10) (by omega)
      refine ⟨c, r ++ [UInt8.ofNat (48 + n % 10)], ?_, h2, h3, fun e => by have := h4 e; omega⟩
      rw [Lib.decDigits, dif_neg h1, e]
      rfl
theorem numRest_dec (n : Nat) (h : n < 18446744073709551616) : numRest 10 (Lib.decDigits n) = some n := by
  obtain ⟨c, r, e, h2, h3, h4⟩ := dec_head n
  unfold numRest
  rw [if_neg]
  · exact num_dec n h
  · rintro (h5 | ⟨h5, h6⟩)
    · rw [e] at h5; cases h5
    · rw [e] at h5
      have := h4 (Option.some.inj h5)
      subst this
      exact h6 (Lib.decDigits_one (by omega))
theorem nD_le : ∀ (k u : Nat), u < 10 ^ (k + 1) → Lib.nDigits u ≤ k + 1
  | 0, u, h => by rw [Lib.nDigits_small (by simpa using h)]; omega
  | k + 1, u, h => by
    by_cases h1 : u < 10
    · rw [Lib.nDigits_small h1]; omega
    · rw [Lib.nDigits_big h1]
      have := nD_le k (u / 10) (by
        rw [Nat.pow_succ] at h
        exact Nat.div_lt_of_lt_mul (by rw [Nat.mul_comm]; exact h))
      omega
theorem dec_len10 (n : Nat) (h : n < 4294967296) : (Lib.decDigits n).length ≤ 10 := by
  rw [Lib.decDigits_length]
  exact nD_le 9 n (Nat.lt_of_lt_of_le h (by decide))
theorem numV_dec (n bits : Nat) (h : n < 4294967296) (hb : n < 2 ^ bits) : numV (decS n).data.toList bits = some n := by
  rw [decS_list]
  unfold numV
  rw [if_pos (dec_len10 n h), numRest_dec n (by omega)]
  show (if n < 2 ^ bits then some n else none) = _
  rw [if_pos hb]
theorem pre_app (p l : List UInt8) : Lib.hasPrefix (p ++ l) p = true ∧ Lib.trimPrefix (p ++ l) p = l := by
  have h : Lib.hasPrefix (p ++ l) p = true := by
    show p.isPrefixOf (p ++ l) = true
    rw [List.isPrefixOf_iff_prefix]
    exact List.prefix_append p l
  exact ⟨h, by unfold Lib.trimPrefix; rw [if_pos h, List.drop_left]⟩
theorem suf_app (l p : List UInt8) : Lib.hasSuffix (l ++ p) p = true ∧ Lib.trimSuffix (l ++ p) p = l := by
  have h : Lib.hasSuffix (l ++ p) p = true := by
    show p.isSuffixOf (l ++ p) = true
    rw [List.isSuffixOf_iff_suffix]
    exact List.suffix_append l p
  exact ⟨h, by unfold Lib.trimSuffix; rw [if_pos h, List.length_append, Nat.add_sub_cancel, List.take_left]⟩
theorem tag_list (t k : Nat) (hb : tagB t = true) : (tagT t (decS k)).1.data.toList = preT t ++ (Lib.decDigits k ++ postT t) := by
  have : t = 1 ∨ t = 2 ∨ t = 5 ∨ t = 7 := by unfold tagB at hb; simpa [or_assoc] using hb
  rcases this with rfl | rfl | rfl | rfl <;> simp [tagT, preT, postT, decS]
theorem form_o {o : ByteArray} (ht : formTag o ≤ 7) : o = ⟨#[91, 93]⟩ ∨ o = ⟨#[109, 91, 93]⟩ ∨ o = ⟨#[35]⟩ ∨ o = ⟨#[107]⟩ ∨ o = ⟨#[120]⟩ ∨ o = ⟨#[108, 101, 110]⟩ ∨ o = ⟨#[]⟩ ∨ o = ⟨#[97]⟩ := by
  unfold formTag at ht
  repeat' split at ht
  all_goals first | (simp [*]; done) | omega
theorem digH_dec (k : Nat) : digH (Lib.decDigits k) = true := by
  obtain ⟨c, r, e, h1, h2⟩ := dec_head3 k
  rw [e]
  show (decide (48 ≤ c.toNat) && decide (c.toNat ≤ 57)) = true
  simp [h1, h2]
/-- The form's own second word. -/
theorem innerV_own (o : ByteArray) (k : Nat) (ht : formTag o ≤ 7) : innerV (formTag o) o.data.toList (writtenF o (decS k)).data.toList = (if tagB (formTag o) = true then (Lib.decDigits k) else [], true) := by
  rw [form_tag o _ (by omega)]
  unfold innerV
  cases hb : tagB (formTag o) with
  | true =>
    rw [if_pos rfl, if_pos rfl, tag_list _ _ hb]
    unfold innerK
    rw [(pre_app _ _).1, (pre_app _ _).2, (suf_app _ _).1, (suf_app _ _).2, digH_dec]
    rfl
  | false =>
    rw [if_neg (by decide), if_neg (by decide)]
    rcases form_o ht with rfl | rfl | rfl | rfl | rfl | rfl | rfl | rfl
    · exact absurd hb (by decide +kernel)
    · exact absurd hb (by decide +kernel)
    · exact absurd hb (by decide +kernel)
    · exact absurd hb (by decide +kernel)
    all_goals rfl
theorem pre_head {s p : List UInt8} {c : UInt8} (h : Lib.hasPrefix s (c :: p) = true) : ∃ r, s = c :: r := by
  have h2 : (c :: p).isPrefixOf s = true := h
  rw [List.isPrefixOf_iff_prefix] at h2
  obtain ⟨t, ht⟩ := h2
  exact ⟨p ++ t, by rw [← ht]; rfl⟩
/-- A second word that has another form's beginning. -/
theorem innerV_hit {o : ByteArray} {s : List UInt8} (ht : formTag o ≤ 7) (h5 : formTag o ≠ 5) (h : (innerV (formTag o) o.data.toList s).2 = true) : recog s = formTag o := by
  unfold innerV at h
  rcases form_o ht with rfl | rfl | rfl | rfl | rfl | rfl | rfl | rfl
  · rw [if_pos (by decide +kernel)] at h
    simp only [Bool.and_eq_true] at h
    obtain ⟨r, rfl⟩ := pre_head (c := 91) (p := []) (by have := h.1.1; rwa [show preT (formTag ⟨#[91, 93]⟩) = [91] by decide +kernel] at this)
    exact (show recog (91 :: r) = 1 by simp [recog]).trans (by decide +kernel)
  · rw [if_pos (by decide +kernel)] at h
    simp only [Bool.and_eq_true] at h
    obtain ⟨r, rfl⟩ := pre_head (c := 109) (p := [91]) (by have := h.1.1; rwa [show preT (formTag ⟨#[109, 91, 93]⟩) = [109, 91] by decide +kernel] at this)
    exact (show recog (109 :: r) = 2 by simp [recog]).trans (by decide +kernel)
  · rw [if_pos (by decide +kernel)] at h
    simp only [Bool.and_eq_true] at h
    obtain ⟨r, rfl⟩ := pre_head (c := 35) (p := []) (by have := h.1.1; rwa [show preT (formTag ⟨#[35]⟩) = [35] by decide +kernel] at this)
    exact (show recog (35 :: r) = 7 by simp [recog]).trans (by decide +kernel)
  · exact absurd (by decide +kernel) h5
  all_goals
    rw [if_neg (by decide +kernel)] at h
    have h := beq_iff_eq.1 h
    rw [h]
    decide +kernel
theorem forms_five : ∀ f ∈ formsL, ∀ g ∈ formsL, f.word = g.word → formTag g.other = 5 → formTag f.other = 5 := by decide +kernel
theorem nil_tag : formTag ⟨#[]⟩ = 4 := by decide +kernel
theorem empty_iff (o : ByteArray) : (o.toList.isEmpty = true) ↔ o = ⟨#[]⟩ := by
  constructor
  · intro h
    have h2 : o.toList = [] := by simpa using h
    exact bytes_eqT (h2.trans (by decide +kernel))
  · rintro rfl
    decide +kernel
/-- A form says of another form's line that it is not its own. -/
theorem formed_other {f g : Frm} (hf : f ∈ formsL) (hg : g ∈ formsL) (hne : f.code ≠ g.code) (jt jf k : Nat) : formedV g (formWs f jt jf k) = some none := by
  obtain ⟨_, _, _, _, t3, _, _⟩ := forms_table f hf
  obtain ⟨_, _, _, _, t3', _, _⟩ := forms_table g hg
  by_cases hw : f.word = g.word
  case neg =>
    obtain ⟨r, hr⟩ := formWs_head f jt jf k
    rw [hr]
    show (if (f.word.toList == g.word.toList) = true then _ else _) = _
    rw [if_neg]
    intro h
    exact hw (bytes_eqT (by simpa using h))
  obtain ⟨q1, q2, q3⟩ := forms_word f hf g hg hw
  have ht : formTag f.other ≠ formTag g.other := fun e => hne (q3 e)
  have he : ¬ f.other = ⟨#[]⟩ := by
    intro e
    have e' : g.other = ⟨#[]⟩ := by rw [← q1]; exact e
    exact ht (by rw [e, e'])
  have he' : ¬ g.other.toList.isEmpty = true := fun e => he (by rw [q1]; exact (empty_iff _).1 e)
  have h5 : formTag g.other ≠ 5 := fun e => ht (by rw [e, forms_five f hf g hg hw e])
  have hin : (innerV (formTag g.other) g.other.data.toList (writtenF f.other (decS k)).data.toList).2 = false := by
    rw [Bool.eq_false_iff]
    intro h
    have h1 := innerV_hit t3' h5 h
    rw [form_tag _ _ (by omega), recog_tag _ _ t3] at h1
    exact ht h1
  obtain ⟨r, hr⟩ : ∃ r, formWs f jt jf k = f.word :: writtenF f.other (decS k) :: r := by
    unfold formWs w1
    rw [if_neg he]
    split <;> exact ⟨_, rfl⟩
  rw [hr]
  show (if (f.word.toList == g.word.toList) = true then (if _ then (if g.other.toList.isEmpty = true then _ else formedU g (writtenF f.other (decS k) :: r)) else some none) else some none) = some none
  rw [if_pos (by rw [hw]; simp), if_neg he']
  split
  · unfold formedU
    rw [show (writtenF f.other (decS k) :: r).getD 0 ⟨#[]⟩ = writtenF f.other (decS k) from rfl, if_neg (by rw [hin]; decide)]
  · rfl
/-- A form reads its own line. -/
theorem formed_own {f : Frm} (hf : f ∈ formsL) (jt jf k : Nat) (hjt : jt < 256) (hjf : jf < 256) (hk : k < 4294967296) (h1 : numberedF f.other = true ∨ k = 0) (h2 : f.jumps = true ∨ (jt = 0 ∧ jf = 0)) :
    formedV f (formWs f jt jf k) = some (some (f.code, jt, jf, k)) := by
  obtain ⟨_, _, _, _, t3, t4, _⟩ := forms_table f hf
  obtain ⟨_, s2⟩ := forms_shape f hf
  by_cases he : f.other = ⟨#[]⟩
  · have hj : f.jumps = false := s2 ((empty_iff _).2 he)
    have hk0 : k = 0 := by
      rcases h1 with h | h
      · rw [t4, he, nil_tag] at h; exact absurd h (by decide)
      · exact h
    obtain ⟨rfl, rfl⟩ : jt = 0 ∧ jf = 0 := by
      rcases h2 with h | h
      · rw [hj] at h; cases h
      · exact h
    subst hk0
    have hr : formWs f 0 0 0 = [f.word] := by unfold formWs w1; rw [hj, if_pos he]; rfl
    rw [hr]
    show (if (f.word.toList == f.word.toList) = true then (if _ = countF f.other f.jumps then (if f.other.toList.isEmpty = true then _ else _) else _) else _) = _
    rw [if_pos (by simp), if_pos ((empty_iff _).2 he), if_pos]
    unfold countF
    rw [if_pos ((empty_iff _).2 he), hj]
    rfl
  have he' : ¬ f.other.toList.isEmpty = true := fun e => he ((empty_iff _).1 e)
  have hnum : (match (if tagB (formTag f.other) = true then numV (innerV (formTag f.other) f.other.data.toList (writtenF f.other (decS k)).data.toList).1 32 else some 0) with | none => none | some k' => formedJ f k' (if f.jumps = true then [decS jt, decS jf] else [])) = formedJ f k (if f.jumps = true then [decS jt, decS jf] else []) := by
    rw [innerV_own _ _ t3]
    cases hb : tagB (formTag f.other) with
    | true =>
      rw [if_pos rfl, if_pos rfl]
      rw [show numV (Lib.decDigits k) 32 = some k from numV_dec k 32 hk hk]
    | false =>
      rw [t4, hb] at h1
      rcases h1 with h | rfl
      · cases h
      · rfl
  have hr : formWs f jt jf k = f.word :: writtenF f.other (decS k) :: (if f.jumps = true then [decS jt, decS jf] else []) := by
    unfold formWs w1
    rw [if_neg he]
    split <;> rfl
  rw [hr]
  show (if (f.word.toList == f.word.toList) = true then (if _ = countF f.other f.jumps then (if f.other.toList.isEmpty = true then _ else formedU f (writtenF f.other (decS k) :: _)) else _) else _) = _
  rw [if_pos (by simp), if_neg he', if_pos]
  · unfold formedU
    rw [show ∀ r : List ByteArray, (writtenF f.other (decS k) :: r).getD 0 ⟨#[]⟩ = writtenF f.other (decS k) from fun _ => rfl, show ∀ r : List ByteArray, (writtenF f.other (decS k) :: r).drop 1 = r from fun _ => rfl, if_pos (by rw [innerV_own _ _ t3])]
    refine Eq.trans hnum ?_
    unfold formedJ
    cases hj : f.jumps with
    | true =>
      rw [if_pos rfl, if_pos rfl]
      rw [show ([decS jt, decS jf] : List ByteArray).getD 0 ⟨#[]⟩ = decS jt from rfl, show ([decS jt, decS jf] : List ByteArray).getD 1 ⟨#[]⟩ = decS jf from rfl, numV_dec jt 8 (by omega) hjt, numV_dec jf 8 (by omega) hjf]
    | false =>
      rw [if_neg (by decide)]
      rcases h2 with h | ⟨rfl, rfl⟩
      · rw [hj] at h; cases h
      · rfl
  · unfold countF
    rw [if_neg he']
    cases f.jumps <;> rfl
theorem lineF_own {f : Frm} (hf : f ∈ formsL) (jt jf k : Nat) {x : Nat × Nat × Nat × Nat} (ho : formedV f (formWs f jt jf k) = some (some x)) : ∀ l : List Frm, (∀ g ∈ l, g ∈ formsL) → f ∈ l → lineF l (formWs f jt jf k) = some x
  | g :: l, hl, hm => by
    have hg := hl g (by simp)
    show (match formedV g (formWs f jt jf k) with | none => none | some none => lineF l (formWs f jt jf k) | some (some x) => some x) = some x
    by_cases e : f.code = g.code
    · obtain rfl := forms_uniq hf hg e
      rw [ho]
    · rw [formed_other hf hg e]
      refine lineF_own hf jt jf k ho l (fun g' h => hl g' (by simp [h])) ?_
      rcases List.mem_cons.1 hm with rfl | h
      · exact absurd rfl e
      · exact h
/-- What is told is read as it was. -/
theorem list_back (c jt jf k : Nat) (hc : c < 65536) (hjt : jt < 256) (hjf : jf < 256) (hk : k < 4294967296) : listAnsW (lineWs c jt jf k) = ((c, jt, jf, k), 0) := by
  rcases lineWs_cases c jt jf k with ⟨f, hf, rfl, ho, e⟩ | e
  · rw [e]
    unfold okF at ho
    simp only [Bool.and_eq_true, Bool.or_eq_true, beq_iff_eq, true_and] at ho
    have h1 := lineF_own hf jt jf k (formed_own hf jt jf k hjt hjf hk ho.1 ho.2) formsL (fun _ h => h) hf
    obtain ⟨r, hr⟩ := formWs_head f jt jf k
    rw [hr] at h1 ⊢
    show readL (if (f.word.toList == dotCode) = true then _ else lineF formsL (f.word :: r)) = _
    rw [if_neg, h1]
    · rfl
    · intro h
      exact forms_nocode f hf (bytes_eqT ((show f.word.toList = dotCode by simpa using h).trans (by decide +kernel)))
  · rw [e]
    show readL (if ((⟨#[46, 99, 111, 100, 101]⟩ : ByteArray).toList == dotCode) = true then (if _ then codeV [decS c, decS jt, decS jf, decS k] else _) else _) = _
    rw [if_pos (by decide +kernel), if_pos (show [decS c, decS jt, decS jf, decS k].length + 1 = 5 from rfl)]
    have : codeV [decS c, decS jt, decS jf, decS k] = some (c, jt, jf, k) := by
      show (match numV (decS c).data.toList 16 with | none => none | some c => (match numV (decS jt).data.toList 8 with | none => none | some a => (match numV (decS jf).data.toList 8 with | none => none | some b => (match numV (decS k).data.toList 32 with | none => none | some k => some (c, a, b, k))))) = _
      rw [numV_dec c 16 (by omega) hc, numV_dec jt 8 (by omega) hjt, numV_dec jf 8 (by omega) hjf, numV_dec k 32 hk hk]
    rw [this]
    rfl
end Go.Proofs.YtokehnclakedeaaGreatDoor
