/- No two instructions have one line: plain facts. -/
import Derived.Test.YtokehnclakedeaaGreatDoorListPlain
import Derived.Test.YtokehnclakedeaaGreatDoorCut32
import Derived.Lib.Atoi
namespace Go.Proofs.YtokehnclakedeaaGreatDoor
open Go Go.Proofs Go.RowKit

theorem decFrom_app : ∀ (l : List UInt8) (acc m d : Nat) (b : UInt8), Lib.decFrom acc l = some m → Lib.digitVal b = some d → Lib.decFrom acc (l ++ [b]) = some (m * 10 + d)
  | [], acc, m, d, b, h, hb => by
    simp only [Lib.decFrom, Option.some.injEq] at h
    subst h
    simp [Lib.decFrom, hb]
  | x :: r, acc, m, d, b, h, hb => by
    rw [List.cons_append]
    unfold Lib.decFrom at h ⊢
    split at h
    · exact decFrom_app r _ m d b h hb
    · cases h
theorem digit_val (d : Nat) (h : d < 10) : Lib.digitVal (UInt8.ofNat (48 + d)) = some d := by
  have hn : (UInt8.ofNat (48 + d)).toNat = 48 + d := by simp; omega
  unfold Lib.digitVal
  rw [hn, if_pos ⟨by omega, by omega⟩]
  congr 1
  omega
theorem decFrom_dec (n : Nat) : Lib.decFrom 0 (Lib.decDigits n) = some n := by
  induction n using Nat.strongRecOn with
  | _ n ih =>
    by_cases h : n < 10
    · rw [Lib.decDigits_one h]
      have := digit_val n h
      show (match Lib.digitVal (UInt8.ofNat (48 + n)) with | some d => Lib.decFrom (0 * 10 + d) [] | none => none) = some n
      rw [this]
      simp [Lib.decFrom]
    · rw [Lib.decDigits, dif_neg h, decFrom_app _ 0 (n / 10) (n % 10) _ (ih (n / 10) (by omega)) (digit_val _ (by omega))]
      congr 1
      omega
theorem decS_list (n : Nat) : (decS n).data.toList = Lib.decDigits n := rfl
theorem decS_inj {m n : Nat} (h : decS m = decS n) : m = n := by
  have h2 : Lib.decDigits m = Lib.decDigits n := by rw [← decS_list, ← decS_list, h]
  have h3 := decFrom_dec m
  rw [h2, decFrom_dec n] at h3
  exact (Option.some.inj h3).symm
theorem dec_head3 (n : Nat) : ∃ c r, Lib.decDigits n = c :: r ∧ 48 ≤ c.toNat ∧ c.toNat ≤ 57 := by
  induction n using Nat.strongRecOn with
  | _ n ih =>
    by_cases h : n < 10
    · rw [Lib.decDigits_one h]
      have hn : (UInt8.ofNat (48 + n)).toNat = 48 + n := by simp; omega
      exact ⟨_, _, rfl, by omega, by omega⟩
    · rw [Lib.decDigits, dif_neg h]
      obtain ⟨c, r, e, h1, h2⟩ := ih (n / 10) (by omega)
      rw [e]
      exact ⟨c, _, rfl, h1, h2⟩
/-- The tag that a second word's first byte tells. -/
def recog : List UInt8 → Nat
  | [] => 4
  | c :: _ => if c = 120 then 0 else if c = 91 then 1 else if c = 109 then 2 else if c = 108 then 3 else if c = 97 then 6 else if c = 35 then 7 else 5
theorem recog_tag (t k : Nat) (ht : t ≤ 7) : recog (tagT t (decS k)).1.data.toList = t := by
  have : t = 0 ∨ t = 1 ∨ t = 2 ∨ t = 3 ∨ t = 4 ∨ t = 5 ∨ t = 6 ∨ t = 7 := by omega
  rcases this with rfl | rfl | rfl | rfl | rfl | rfl | rfl | rfl
  · rfl
  · simp [tagT, recog]
  · simp [tagT, recog]
  · rfl
  · rfl
  · obtain ⟨c, r, e, h1, h2⟩ := dec_head3 k
    have e2 : (tagT 5 (decS k)).1.data.toList = c :: r := by rw [← e]; rfl
    rw [e2]
    show (if c = 120 then 0 else if c = 91 then 1 else if c = 109 then 2 else if c = 108 then 3 else if c = 97 then 6 else if c = 35 then 7 else 5) = 5
    have hne : ∀ b : UInt8, 57 < b.toNat ∨ b.toNat < 48 → c ≠ b := fun b hb e => by rw [e] at h1 h2; omega
    rw [if_neg (hne 120 (by decide)), if_neg (hne 91 (by decide)), if_neg (hne 109 (by decide)), if_neg (hne 108 (by decide)), if_neg (hne 97 (by decide)), if_neg (hne 35 (by decide))]
  · rfl
  · simp [tagT, recog]
theorem tag_inj {t k k' : Nat} (ht : t ≤ 7) (hb : tagB t = true) (h : (tagT t (decS k)).1 = (tagT t (decS k')).1) : k = k' := by
  have h2 := congrArg (fun x : ByteArray => x.data.toList) h
  have : t = 0 ∨ t = 1 ∨ t = 2 ∨ t = 3 ∨ t = 4 ∨ t = 5 ∨ t = 6 ∨ t = 7 := by omega
  rcases this with rfl | rfl | rfl | rfl | rfl | rfl | rfl | rfl
  · cases hb
  · refine decS_inj (ba_ext ?_); simpa [tagT] using h2
  · refine decS_inj (ba_ext ?_); simpa [tagT] using h2
  · cases hb
  · cases hb
  · exact decS_inj h
  · cases hb
  · refine decS_inj (ba_ext ?_); simpa [tagT] using h2
theorem forms_word : ∀ f ∈ formsL, ∀ g ∈ formsL, f.word = g.word → ((f.other = ⟨#[]⟩) = (g.other = ⟨#[]⟩)) ∧ f.jumps = g.jumps ∧ (formTag f.other = formTag g.other → f.code = g.code) := by
  have h : ∀ f ∈ formsL, ∀ g ∈ formsL, f.word = g.word → (decide (f.other = ⟨#[]⟩) = decide (g.other = ⟨#[]⟩)) ∧ f.jumps = g.jumps ∧ (formTag f.other = formTag g.other → f.code = g.code) := by decide +kernel
  intro f hf g hg e
  obtain ⟨h1, h2, h3⟩ := h f hf g hg e
  exact ⟨by simpa using h1, h2, h3⟩
theorem forms_nocode : ∀ f ∈ formsL, f.word ≠ ⟨#[46, 99, 111, 100, 101]⟩ := by decide +kernel
theorem formWs_head (f : Frm) (jt jf k : Nat) : ∃ r, formWs f jt jf k = f.word :: r := by
  unfold formWs w1
  split <;> split <;> exact ⟨_, rfl⟩
theorem lineWs_cases (c jt jf k : Nat) : (∃ f ∈ formsL, f.code = c ∧ okF c jt jf k f = true ∧ lineWs c jt jf k = formWs f jt jf k) ∨ lineWs c jt jf k = rawWs c jt jf k := by
  unfold lineWs
  cases h : formsL.find? (okF c jt jf k) with
  | none => exact .inr rfl
  | some f =>
    have h1 := List.find?_some h
    have h2 := List.mem_of_find?_eq_some h
    refine .inl ⟨f, h2, ?_, h1, rfl⟩
    unfold okF at h1
    simp only [Bool.and_eq_true, beq_iff_eq] at h1
    exact h1.1.1
theorem lineWs_inj {c jt jf k c' jt' jf' k' : Nat} (h : lineWs c jt jf k = lineWs c' jt' jf' k') : c = c' ∧ jt = jt' ∧ jf = jf' ∧ k = k' := by
  rcases lineWs_cases c jt jf k with ⟨f, hf, rfl, ho, e⟩ | e <;> rcases lineWs_cases c' jt' jf' k' with ⟨g, hg, rfl, ho', e'⟩ | e'
  · rw [e, e'] at h
    have hw : f.word = g.word := by
      obtain ⟨r, hr⟩ := formWs_head f jt jf k
      obtain ⟨r', hr'⟩ := formWs_head g jt' jf' k'
      rw [hr, hr'] at h
      exact (List.cons.inj h).1
    obtain ⟨q1, q2, q3⟩ := forms_word f hf g hg hw
    obtain ⟨_, _, _, _, t3, t4, _⟩ := forms_table f hf
    obtain ⟨_, _, _, _, t3', t4', _⟩ := forms_table g hg
    unfold okF at ho ho'
    simp only [Bool.and_eq_true, Bool.or_eq_true, beq_iff_eq, true_and, t4, t4'] at ho ho'
    unfold formWs w1 at h
    by_cases he : f.other = ⟨#[]⟩
    · have he' : g.other = ⟨#[]⟩ := by rw [← q1]; exact he
      have hc := q3 (by rw [he, he'])
      have hk : k = k' := by
        rcases ho.1 with hb | hb
        · rw [he] at hb; cases hb
        · rcases ho'.1 with hb' | hb'
          · rw [he'] at hb'; cases hb'
          · omega
      rw [if_pos he, if_pos he', ← q2] at h
      cases hj : f.jumps with
      | true =>
        rw [hj] at h
        simp at h
        exact ⟨hc, decS_inj h.2.1, decS_inj h.2.2, hk⟩
      | false =>
        rw [← q2, hj] at ho'
        rw [hj] at ho
        simp at ho ho'
        exact ⟨hc, by omega, by omega, hk⟩
    · have he' : ¬ g.other = ⟨#[]⟩ := by rw [← q1]; exact he
      rw [if_neg he, if_neg he', ← q2] at h
      have hwr : writtenF f.other (decS k) = writtenF g.other (decS k') := by
        cases hj : f.jumps <;> rw [hj] at h <;> simp at h
        · exact h.2
        · exact h.2.1
      rw [form_tag _ _ (by omega), form_tag _ _ (by omega)] at hwr
      have ht : formTag f.other = formTag g.other := by
        rw [← recog_tag (formTag f.other) k t3, ← recog_tag (formTag g.other) k' t3', hwr]
      have hc := q3 ht
      have hk : k = k' := by
        rw [← ht] at hwr
        cases hb : tagB (formTag f.other) with
        | true => exact tag_inj t3 hb hwr
        | false =>
          rw [hb] at ho
          rw [← ht, hb] at ho'
          have := ho.1.resolve_left (by decide)
          have := ho'.1.resolve_left (by decide)
          omega
      cases hj : f.jumps with
      | true =>
        rw [hj] at h
        simp at h
        exact ⟨hc, decS_inj h.2.2.1, decS_inj h.2.2.2, hk⟩
      | false =>
        rw [← q2, hj] at ho'
        rw [hj] at ho
        simp at ho ho'
        exact ⟨hc, by omega, by omega, hk⟩
  · rw [e, e'] at h
    obtain ⟨r, hr⟩ := formWs_head f jt jf k
    rw [hr] at h
    exact absurd (List.cons.inj h).1 (forms_nocode f hf)
  · rw [e, e'] at h
    obtain ⟨r, hr⟩ := formWs_head g jt' jf' k'
    rw [hr] at h
    exact absurd (List.cons.inj h).1.symm (forms_nocode g hg)
  · rw [e, e'] at h
    simp [rawWs] at h
    exact ⟨decS_inj h.1, decS_inj h.2.1, decS_inj h.2.2.1, decS_inj h.2.2.2⟩

theorem dec_no32 (n : Nat) : ∀ b ∈ Lib.decDigits n, b ≠ 32 := by
  intro b hb e
  have : ∀ (l : List UInt8) (acc m : Nat), Lib.decFrom acc l = some m → ∀ b ∈ l, b ≠ 32 := by
    intro l
    induction l with
    | nil => intro _ _ _ b hb; cases hb
    | cons x r ih =>
      intro acc m h b hb
      unfold Lib.decFrom at h
      split at h
      · rename_i d hd
        rcases List.mem_cons.1 hb with rfl | hb
        · intro e
          rw [e] at hd
          have h32 : Lib.digitVal 32 = none := by decide
          rw [h32] at hd
          cases hd
        · exact ih _ _ h b hb
      · cases h
  exact this _ _ _ (decFrom_dec n) b hb e
theorem forms_no32 : ∀ f ∈ formsL, (∀ b ∈ f.word.data.toList, b ≠ 32) ∧ (∀ b ∈ f.other.data.toList, b ≠ 32) := by decide +kernel
theorem app_list3 (x y : ByteArray) : (x ++ y).data.toList = x.data.toList ++ y.data.toList := by simp
theorem written_no32 (o : ByteArray) (k : Nat) (ho : ∀ b ∈ o.data.toList, b ≠ 32) : ∀ b ∈ (writtenF o (decS k)).data.toList, b ≠ 32 := by
  have hd := dec_no32 k
  intro b hb
  unfold writtenF at hb
  repeat' split at hb
  · rw [app_list3, app_list3] at hb
    rcases List.mem_append.1 hb with hb | hb
    · rcases List.mem_append.1 hb with hb | hb
      · exact (by decide : ∀ b ∈ [(91 : UInt8)], b ≠ 32) b hb
      · exact hd b hb
    · exact (by decide : ∀ b ∈ [(93 : UInt8)], b ≠ 32) b hb
  · rw [app_list3, app_list3] at hb
    rcases List.mem_append.1 hb with hb | hb
    · rcases List.mem_append.1 hb with hb | hb
      · exact (by decide : ∀ b ∈ [(109 : UInt8), 91], b ≠ 32) b hb
      · exact hd b hb
    · exact (by decide : ∀ b ∈ [(93 : UInt8)], b ≠ 32) b hb
  · rw [app_list3] at hb
    rcases List.mem_append.1 hb with hb | hb
    · exact (by decide : ∀ b ∈ [(35 : UInt8)], b ≠ 32) b hb
    · exact hd b hb
  · exact hd b hb
  · exact ho b hb
theorem lineWs_no32 (c jt jf k : Nat) : ∀ x ∈ (lineWs c jt jf k).map (·.data.toList), ∀ b ∈ x, b ≠ 32 := by
  intro x hx b hb
  obtain ⟨s, hs, rfl⟩ := List.mem_map.1 hx
  rcases lineWs_cases c jt jf k with ⟨f, hf, rfl, ho, e⟩ | e <;> rw [e] at hs
  · have hx : s = f.word ∨ s = writtenF f.other (decS k) ∨ s = decS jt ∨ s = decS jf := by
      unfold formWs w1 at hs
      split at hs <;> split at hs <;> simp at hs <;> first | (rcases hs with h | h | h | h <;> simp [h]) | (rcases hs with h | h | h <;> simp [h]) | (rcases hs with h | h <;> simp [h]) | simp [hs]
    rcases hx with rfl | rfl | rfl | rfl
    · exact (forms_no32 f hf).1 b hb
    · exact written_no32 _ k (forms_no32 f hf).2 b hb
    · exact dec_no32 jt b hb
    · exact dec_no32 jf b hb
  · simp only [rawWs, List.mem_cons, List.not_mem_nil, or_false] at hs
    rcases hs with rfl | rfl | rfl | rfl | rfl
    · exact (by decide : ∀ b ∈ [(46 : UInt8), 99, 111, 100, 101], b ≠ 32) b hb
    · exact dec_no32 c b hb
    · exact dec_no32 jt b hb
    · exact dec_no32 jf b hb
    · exact dec_no32 k b hb
theorem lineWs_ne (c jt jf k : Nat) : lineWs c jt jf k ≠ [] := by
  rcases lineWs_cases c jt jf k with ⟨f, hf, rfl, ho, e⟩ | e <;> rw [e]
  · obtain ⟨r, hr⟩ := formWs_head f jt jf k
    rw [hr]
    simp
  · simp [rawWs]
theorem joinB_cut {ws : List ByteArray} (hne : ws ≠ []) (h : ∀ x ∈ ws.map (·.data.toList), ∀ b ∈ x, b ≠ 32) : (cutF (joinB ws).data.toList).1 ++ [(cutF (joinB ws).data.toList).2] = ws.map (·.data.toList) := by
  obtain ⟨xs, y, e⟩ : ∃ xs y, ws.map (·.data.toList) = xs ++ [y] := by
    have h2 : ws.map (·.data.toList) ≠ [] := by simpa using hne
    exact ⟨_, _, (List.dropLast_concat_getLast h2).symm⟩
  unfold joinB cutF
  dsimp only
  rw [e] at h ⊢
  rw [cut_join xs y [] h]
  simp
theorem map_list_inj : ∀ {a b : List ByteArray}, a.map (·.data.toList) = b.map (·.data.toList) → a = b
  | [], [], _ => rfl
  | [], _ :: _, h => by simp at h
  | _ :: _, [], h => by simp at h
  | x :: r, y :: s, h => by
    simp only [List.map_cons, List.cons.injEq] at h
    rw [ba_ext h.1, map_list_inj h.2]
theorem lineS_inj {c jt jf k c' jt' jf' k' : Nat} (h : lineS c jt jf k = lineS c' jt' jf' k') : c = c' ∧ jt = jt' ∧ jf = jf' ∧ k = k' := by
  have h1 := joinB_cut (lineWs_ne c jt jf k) (lineWs_no32 c jt jf k)
  have h2 := joinB_cut (lineWs_ne c' jt' jf' k') (lineWs_no32 c' jt' jf' k')
  unfold lineS at h
  rw [h] at h1
  exact lineWs_inj (map_list_inj (h1.symm.trans h2))
end Go.Proofs.YtokehnclakedeaaGreatDoor
