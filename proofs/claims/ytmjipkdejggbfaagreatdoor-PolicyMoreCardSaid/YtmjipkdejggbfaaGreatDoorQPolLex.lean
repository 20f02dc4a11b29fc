/- policy: how many words a text has, how long they are. -/
import Derived.Test.YtmjipkdejggbfaaGreatDoorQPolLine
namespace Go.Proofs.YtmjipkdejggbfaaGreatDoor
open Go Go.Proofs Go.RowKit

theorem size_listP (t : ByteArray) : t.data.toList.length = t.size := Array.length_toList
theorem lexAns_small {t : ByteArray} {k : Nat} (ht : t.size ≤ k) : (lexAns t).1.length ≤ k + 1 ∧ ∀ x ∈ (lexAns t).1, x.2.length ≤ k := by
  have hw : ∀ (l w : List UInt8) (out : List ByteArray), (wordsGo l w out).length ≤ out.length + l.length + (if w = [] then 0 else 1) := by
    intro l
    induction l with
    | nil =>
      intro w out
      show (flush w out).length ≤ _
      unfold flush
      split <;> simp
    | cons c r ih =>
      intro w out
      show (if blkB c then wordsGo r [] (flush w out) else wordsGo r (w ++ [c]) out).length ≤ _
      split
      · have := ih [] (flush w out)
        rw [if_pos rfl] at this
        unfold flush at this ⊢
        split at this
        · rename_i e; rw [if_pos e] at *; simp at this ⊢; omega
        · rename_i e; rw [if_neg e] at *; simp at this ⊢; omega
      · have := ih (w ++ [c]) out
        rw [if_neg (by simp)] at this
        simp at this ⊢
        split <;> omega
  have hg : ∀ (ps : List (List UInt8)) (n : Nat) (acc : List Ln), (∀ p ∈ ps, p.length ≤ k) → (∀ x ∈ acc, x.2.length ≤ k) → (lexGo ps n acc).1.length ≤ acc.length + ps.length ∧ ∀ x ∈ (lexGo ps n acc).1, x.2.length ≤ k := by
    intro ps
    induction ps with
    | nil => intro n acc _ h; exact ⟨by show acc.length ≤ _; simp, h⟩
    | cons p r ih =>
      intro n acc hp h
      have hpk := hp p (by simp)
      show (match lineOf p with | none => ([], n, 13) | some ws => lexGo r (n + 1) (addLn n ws acc)).1.length ≤ _ ∧ ∀ x ∈ (match lineOf p with | none => ([], n, 13) | some ws => lexGo r (n + 1) (addLn n ws acc)).1, _
      cases hl : lineOf p with
      | none => exact ⟨by simp, fun x hx => by simp at hx⟩
      | some ws =>
        have hws : ws.length ≤ k := by
          unfold lineOf at hl
          rw [lineGo_eq] at hl
          split at hl
          · simp only [Option.some.injEq] at hl
            subst hl
            have := hw (unNoted p) [] []
            rw [if_pos rfl] at this
            have h2 := unNoted_len p
            simp at this
            omega
          · cases hl
        have ih' := ih (n + 1) (addLn n ws acc) (fun q hq => hp q (by simp [hq])) (by
          intro x hx
          unfold addLn at hx
          split at hx
          · exact h x hx
          · rcases List.mem_append.1 hx with hx | hx
            · exact h x hx
            · simp at hx; subst hx; exact hws)
        refine ⟨Nat.le_trans ih'.1 ?_, ih'.2⟩
        have : (addLn n ws acc).length ≤ acc.length + 1 := by unfold addLn; split <;> simp
        simp
        omega
  unfold lexAns
  split
  · exact ⟨by simp, fun x hx => by simp at hx⟩
  · have h1 := hg (pieces t.data.toList) 1 [] (fun p hp => by have := pieces_mem _ p hp; rw [size_list] at this; omega) (fun x hx => by simp at hx)
    have h2 := pieces_count t.data.toList
    rw [size_list] at h2
    exact ⟨by have := h1.1; simp at this; omega, h1.2⟩

theorem wordsGo_size : ∀ (l w : List UInt8) (out : List ByteArray), ∀ x ∈ wordsGo l w out, x ∈ out ∨ x.size ≤ w.length + l.length
  | [], w, out, x, hx => by
    have hx' : x ∈ flush w out := hx
    unfold flush at hx'
    split at hx'
    · exact .inl hx'
    · rcases List.mem_append.1 hx' with h | h
      · exact .inl h
      · simp at h
        subst h
        right
        show w.toArray.size ≤ _
        simp
  | c :: r, w, out, x, hx => by
    have hx' : x ∈ (if blkB c then wordsGo r [] (flush w out) else wordsGo r (w ++ [c]) out) := hx
    split at hx'
    · rcases wordsGo_size r [] _ x hx' with h | h
      · unfold flush at h
        split at h
        · exact .inl h
        · rcases List.mem_append.1 h with h | h
          · exact .inl h
          · simp at h
            subst h
            right
            show w.toArray.size ≤ _
            simp
      · right; simp at h ⊢; omega
    · rcases wordsGo_size r (w ++ [c]) out x hx' with h | h
      · exact .inl h
      · right; simp at h ⊢; omega
theorem lexGo_good (k : Nat) : ∀ (ps : List (List UInt8)) (n : Nat) (acc : List Ln), (∀ p ∈ ps, p.length ≤ k) → (∀ x ∈ acc, x.2 ≠ [] ∧ ∀ y ∈ x.2, y.size ≤ k) → ∀ x ∈ (lexGo ps n acc).1, x.2 ≠ [] ∧ ∀ y ∈ x.2, y.size ≤ k
  | [], _, _, _, h => h
  | p :: r, n, acc, hp, h => by
    show ∀ x ∈ (match lineOf p with | none => ([], n, 13) | some ws => lexGo r (n + 1) (addLn n ws acc)).1, _
    cases hl : lineOf p with
    | none => intro x hx; simp at hx
    | some ws =>
      refine lexGo_good k r (n + 1) _ (fun q hq => hp q (by simp [hq])) ?_
      intro x hx
      unfold addLn at hx
      split at hx
      · exact h x hx
      · rename_i hw
        rcases List.mem_append.1 hx with hx | hx
        · exact h x hx
        · simp at hx
          subst hx
          refine ⟨hw, fun y hy => ?_⟩
          unfold lineOf at hl
          rw [lineGo_eq] at hl
          split at hl
          · simp only [Option.some.injEq] at hl
            subst hl
            rcases wordsGo_size _ _ _ y hy with h | h
            · simp at h
            · have h2 := unNoted_len p
              have h3 := hp p (by simp)
              simp at h
              omega
          · cases hl
theorem lexAns_fine (t : ByteArray) : (lexAns t).1.length ≤ 65537 ∧ ∀ x ∈ (lexAns t).1, x.2 ≠ [] ∧ x.2.length ≤ 65536 ∧ ∀ y ∈ x.2, y.size ≤ 65536 := by
  by_cases h : 65536 < t.size
  · rw [lexAns_long h]
    exact ⟨by simp, fun x hx => by simp at hx⟩
  · obtain ⟨h1, h2⟩ := lexAns_small (t := t) (k := 65536) (by omega)
    refine ⟨h1, fun x hx => ?_⟩
    have h3 : ∀ x ∈ (lexAns t).1, x.2 ≠ [] ∧ ∀ y ∈ x.2, y.size ≤ 65536 := by
      unfold lexAns
      rw [if_neg h]
      exact lexGo_good 65536 _ _ _ (fun p hp => by have := pieces_mem _ p hp; rw [size_listP] at this; omega) (fun x hx => by simp at hx)
    exact ⟨(h3 x hx).1, h2 x hx, (h3 x hx).2⟩
theorem pwords_of {lo R : Nat} {W : World} {u : Value} {ws : List ByteArray} (h : W.ownsRow lo 9 1 u ws.length (ws.map Value.string)) (hR : ∀ g, u.ownBlock = some g → g < R) : PWords R W u ws := by
  have hc := fun g hg => World.ownsRow.cells h (g := g) hg
  have hl := h.lt
  rcases h.2 with ⟨hv, hn⟩ | ⟨g, cap, cur, hv, hb, hg, hcap, _⟩
  · refine ⟨none, 0, by rw [hv, hn], by omega, .inl (List.eq_nil_of_length_eq_zero hn)⟩
  · refine ⟨some ⟨g, 0, none⟩, cap, hv, hcap, .inr ⟨g, 0, rfl, hR g (by rw [hv]; rfl), (Array.getElem?_eq_some_iff.1 hg).1, fun j s hj => ?_⟩⟩
    have := hc g (by rw [hv]; rfl) j (.string s) (by rw [List.getElem?_map, hj]; rfl)
    rw [Addr.add_lit] at this
    exact this
theorem lines_at {tl lo : Nat} {W : World} {a : Option Addr} {n c : Nat} {ls : List Ln} (h : LinesR tl lo W (.slice a n c) ls) {i : Nat} {x : Ln} (hx : ls[i]? = some x) :
    ∃ g ua uc, a = some ⟨g, 0, none⟩ ∧ W.cell? ⟨g, i * 2, none⟩ = some (.int .i64 (x.1 : Int)) ∧ W.cell? ⟨g, i * 2 + 1, none⟩ = some (.slice ua x.2.length uc) ∧ g < W.heap.size ∧ x.2.length ≤ uc ∧
      ∀ (k : Nat) (s : ByteArray), x.2[k]? = some s → ∃ gu, ua = some ⟨gu, 0, none⟩ ∧ W.cell? ⟨gu, k, none⟩ = some (.string s) ∧ gu < W.heap.size := by
  obtain ⟨us, h1, h2, h3⟩ := h
  have hil := (List.getElem?_eq_some_iff.1 hx).1
  obtain ⟨u, hu⟩ : ∃ u, us[i]? = some u := ⟨_, List.getElem?_eq_getElem (by omega)⟩
  obtain ⟨c1, c2⟩ := rowCells_at us ls i u x hu hx
  have hw := h3 i u x hu hx
  rcases h2.2 with ⟨hv, h0⟩ | ⟨g, cap, cur, hv, _, hg, _⟩
  · omega
  · cases hv
    have d1 := h2.cellAt (2 * i) (by omega)
    have d2 := h2.cellAt (2 * i + 1) (by omega)
    rw [c1, Nat.mul_comm] at d1
    rw [c2, Nat.mul_comm] at d2
    rcases hw.2 with ⟨rfl, h0⟩ | ⟨gu, capu, curu, rfl, _, hgu, hcu, _⟩
    · refine ⟨g, none, 0, rfl, d1, by rw [d2, h0], (Array.getElem?_eq_some_iff.1 hg).1, by omega, fun k s hs => ?_⟩
      have := (List.getElem?_eq_some_iff.1 hs).1
      omega
    · refine ⟨g, some ⟨gu, 0, none⟩, capu, rfl, d1, d2, (Array.getElem?_eq_some_iff.1 hg).1, hcu, fun k s hs => ⟨gu, rfl, ?_, (Array.getElem?_eq_some_iff.1 hgu).1⟩⟩
      have := (List.getElem?_eq_some_iff.1 hs).1
      rw [hw.cellAt k (by omega), List.getElem?_map, hs]
      rfl

theorem plines_at {tl lo : Nat} {W : World} {a : Option Addr} {n c : Nat} {ls : List Ln} (h : LinesR tl lo W (.slice a n c) ls) {i : Nat} {xn : Nat} {w0 : ByteArray} {r : List ByteArray} (hx : ls[i]? = some (xn, w0 :: r)) :
    ∃ g ua uc, a = some ⟨g, 0, none⟩ ∧ W.cell? ⟨g, i * 2, none⟩ = some (.int .i64 (xn : Int)) ∧ W.cell? ⟨g, i * 2 + 1, none⟩ = some (.slice ua (r.length + 1) uc) ∧ g < W.heap.size ∧ PWords W.heap.size W (.slice ua (r.length + 1) uc) (w0 :: r) := by
  obtain ⟨g, ua, uc, h1, h2, h3, h4, h5, h6⟩ := lines_at h hx
  refine ⟨g, ua, uc, h1, h2, h3, h4, ua, uc, rfl, h5, .inr ?_⟩
  obtain ⟨gu, rfl, _, hgu⟩ := h6 0 w0 rfl
  refine ⟨gu, 0, rfl, hgu, hgu, fun j s hj => ?_⟩
  obtain ⟨gu', e, hc, _⟩ := h6 j s hj
  obtain rfl : gu = gu' := by injection e with e; injection e
  rw [Nat.zero_add]
  exact hc
theorem RulesR.lo {tr tc lo lo' : Nat} {W : World} {v : Value} {rs : List PRule} (h : RulesR tr tc lo W v rs) (hb : lo' ≤ lo) : RulesR tr tc lo' W v rs := by
  obtain ⟨us, h1, h2, h3⟩ := h
  exact ⟨us, h1, ownP_mono h2 hb, fun j u x hu hx => ownP_mono (h3 j u x hu hx) hb⟩
/-- A line's error is never no error. -/
theorem pform_ne {e : Int} (h : e ≠ 0) : formE e ≠ 0 := by unfold formE; split <;> omega
theorem condsGo_ne : ∀ (N : Nat) (ws : List ByteArray) (acc : List PCond) (c : Int), ws.length ≤ N → condsGo acc ws = .inl c → c ≠ 0
  | N, [], acc, c, _, h => by rw [condsGo_nil] at h; cases h
  | 0, w0 :: r, acc, c, hN, h => by simp at hN
  | N + 1, w0 :: r, acc, c, hN, h => by
    cases hs : condsStep acc w0 r with
    | inl e =>
      rw [condsGo_err hs] at h
      cases h
      unfold condsStep at hs
      split at hs
      · cases hs; decide
      · split at hs
        · cases hs; decide
        · split at hs
          · rename_i h3; cases hs; exact pform_ne h3
          · cases hs
    | inr p =>
      obtain ⟨acc', ws'⟩ := p
      rw [condsGo_step hs] at h
      refine condsGo_ne N ws' acc' c ?_ h
      unfold condsStep at hs
      split at hs
      · cases hs
      · split at hs
        · cases hs
        · split at hs
          · cases hs
          · cases hs
            rw [List.length_drop]
            simp only [List.length_cons] at hN
            omega
theorem pLine_ne {cnt : Nat} {st : PSt} {w0 : ByteArray} {r : List ByteArray} {c : Int} (h : pLine cnt st w0 r = .inl c) : c ≠ 0 := by
  unfold pLine at h
  split at h
  · split at h
    · cases h; decide
    · split at h
      · rename_i h2; cases h; exact pform_ne h2
      · split at h
        · cases h; decide
        · cases h
  · split at h
    · unfold pX32 at h
      split at h
      · split at h
        · cases h
        · cases h; decide
      · cases h; decide
    · split at h
      · cases h; decide
      · cases hr : ruleGo st.rules.length w0 r with
        | inr x => rw [hr] at h; cases h
        | inl e =>
          rw [hr] at h
          cases h
          unfold ruleGo at hr
          split at hr
          · cases hr; decide
          · split at hr
            · cases hr; decide
            · split at hr
              · rename_i h3; cases hr; exact pform_ne h3
              · cases hc : condsGo [] (r.drop (ActP.readAns r).2.2.1.toNat) with
                | inr x => rw [hc] at hr; cases hr
                | inl e => rw [hc] at hr; cases hr; exact condsGo_ne _ _ _ _ (Nat.le_refl _) hc
end Go.Proofs.YtmjipkdejggbfaaGreatDoor
