/- What is read of a text may be, and its own text is not too long: plain facts. -/
import Derived.Test.YtmjipkdejggbfaaGreatDoorQPolTextQ
import Derived.Test.YtmjipkdejggbfaaGreatDoorQPolLex
namespace Go.Proofs.YtmjipkdejggbfaaGreatDoor
open Go Go.Proofs Go.RowKit

theorem numFrom_lt (B : Nat) : ∀ (l : List UInt8) (acc u : Nat), acc < 18446744073709551616 → CondP.numFrom B acc l = some u → u < 18446744073709551616
  | [], acc, u, ha, h => by
    simp only [CondP.numFrom, Option.some.injEq] at h
    omega
  | c :: r, acc, u, ha, h => by
    unfold CondP.numFrom at h
    split at h
    · split at h
      · rename_i hd; exact numFrom_lt B r _ u hd.2 h
      · cases h
    · cases h
theorem numOf_lt {l : List UInt8} {u : Nat} (h : CondP.numOf l = some u) : u < 18446744073709551616 := by
  unfold CondP.numOf CondP.numRest at h
  split at h <;> split at h
  · cases h
  · exact numFrom_lt _ _ _ _ (by decide) h
  · cases h
  · exact numFrom_lt _ _ _ _ (by decide) h
theorem argOf_le {l : List UInt8} (h : (CondP.argOf l).2 = 0) : (CondP.argOf l).1 ≤ 5 := by
  unfold CondP.argOf at h ⊢
  split
  · rename_i h1; rw [if_pos h1] at h; cases h
  · rename_i h1
    rw [if_neg h1] at h
    split
    · rename_i h2; rw [if_pos h2] at h; cases h
    · rename_i h2
      have : ¬ 53 < ((Lib.trimPrefix l [97]).getD 0 0).toNat := fun e => h2 (.inr e)
      show ((Lib.trimPrefix l [97]).getD 0 0).toNat - 48 ≤ 5
      omega
/-- What is read of a condition, if nothing is wrong. -/
def CondGood (r : List ByteArray) (x : CondP.RAns) : Prop := condOk ⟨x.a, x.o, x.m, x.v⟩ = true ∧ CondN ⟨x.a, x.o, x.m, x.v⟩ ∧ 3 ≤ x.n.toNat ∧ x.n.toNat ≤ r.length
theorem condOk_of {a o m v : Int} (h : 0 ≤ a ∧ a ≤ 5 ∧ 1 ≤ o ∧ o ≤ 7 ∧ (o = 7 ∨ m = 0)) : condOk ⟨a, o, m, v⟩ = true := decide_eq_true h
theorem readMask_good {a m : Nat} (ha : a ≤ 5) (hm : m < 18446744073709551616) (s s1 s2 : ByteArray) : ∀ r : List ByteArray, (CondP.readMask a m r).e = 0 → CondGood (s :: s1 :: s2 :: r) (CondP.readMask a m r)
  | [], h => by cases h
  | [_], h => by cases h
  | s3 :: s4 :: r, h => by
    unfold CondP.readMask at h ⊢
    dsimp only at h ⊢
    split
    · rename_i h1
      rw [if_pos h1] at h
      cases hv : CondP.numOf s4.data.toList with
      | none => rw [hv] at h; cases h
      | some v =>
        have := numOf_lt hv
        exact ⟨condOk_of (a := (a : Int)) (o := 7) (m := (m : Int)) (v := (v : Int)) ⟨by omega, by omega, by decide, by decide, .inl rfl⟩, ⟨⟨by show (0 : Int) ≤ (m : Int); omega, by show (m : Int) < _; omega⟩, by show (0 : Int) ≤ (v : Int); omega, by show (v : Int) < _; omega⟩, by show 3 ≤ (5 : Int).toNat; decide, by show (5 : Int).toNat ≤ _; simp⟩
    · rename_i h1
      rw [if_neg h1] at h
      cases h
theorem readCond_good : ∀ r : List ByteArray, (CondP.readAns r).e = 0 → CondGood r (CondP.readAns r)
  | [], h => by cases h
  | s :: r, h => by
    have hs : CondP.readAns (s :: r) = if (CondP.argOf s.data.toList).2 = 0 then CondP.readRest (CondP.argOf s.data.toList).1 r else ⟨0, 0, 0, 0, 0, (CondP.argOf s.data.toList).2⟩ := rfl
    rw [hs] at h ⊢
    by_cases h0 : (CondP.argOf s.data.toList).2 = 0
    · rw [if_pos h0] at h ⊢
      have ha := argOf_le h0
      generalize (CondP.argOf s.data.toList).1 = a at *
      match r, h with
      | [], h => cases h
      | [_], h => cases h
      | s1 :: s2 :: r, h =>
        have hr : CondP.readRest a (s1 :: s2 :: r) = if CondP.firstO (CondP.opB s1) = -1 then ⟨0, 0, 0, 0, 0, 13⟩ else match CondP.numOf s2.data.toList with
          | none => ⟨0, 0, 0, 0, 0, 13⟩
          | some u => if CondP.firstO (CondP.opB s1) = 6 then CondP.readMask a u r else ⟨a, CondP.firstO (CondP.opB s1) + 1, 0, u, 3, 0⟩ := rfl
        rw [hr] at h ⊢
        by_cases h1 : CondP.firstO (CondP.opB s1) = -1
        · rw [if_pos h1] at h; cases h
        · rw [if_neg h1] at h ⊢
          cases hu : CondP.numOf s2.data.toList with
          | none => rw [hu] at h; cases h
          | some u =>
            rw [hu] at h
            have hul := numOf_lt hu
            dsimp only at h ⊢
            by_cases h6 : CondP.firstO (CondP.opB s1) = 6
            · rw [if_pos h6] at h ⊢
              exact readMask_good ha hul s s1 s2 r h
            · rw [if_neg h6]
              rcases CondP.firstO_cases (CondP.opB s1) with h2 | ⟨k, hk, h2⟩
              · exact absurd h2 h1
              · rw [h2] at h6 ⊢
                exact ⟨condOk_of (a := (a : Int)) (o := (k : Int) + 1) (m := 0) (v := (u : Int)) ⟨by omega, by omega, by omega, by omega, .inr rfl⟩, ⟨⟨by show (0 : Int) ≤ 0; omega, by show (0 : Int) < _; omega⟩, by show (0 : Int) ≤ (u : Int); omega, by show (u : Int) < _; omega⟩, by show 3 ≤ (3 : Int).toNat; decide, by show (3 : Int).toNat ≤ _; simp⟩
    · rw [if_neg h0] at h
      exact absurd (Int.ofNat.inj h) h0
/-- What is read of an action, if nothing is wrong. -/
theorem readAct_good : ∀ r : List ByteArray, (ActP.readAns r).2.2.2 = 0 → ActP.actRight (ActP.readAns r).1 (ActP.readAns r).2.1 = true ∧ 1 ≤ (ActP.readAns r).2.2.1.toNat ∧ (ActP.readAns r).2.2.1.toNat ≤ r.length
  | [], h => by cases h
  | s :: r, h => by
    have hs : ActP.readAns (s :: r) = if ActP.firstN (ActP.wordB s) = -1 then (0, 0, 0, 14) else if ¬ (ActP.firstN (ActP.wordB s) + 1 = 4 ∨ ActP.firstN (ActP.wordB s) + 1 = 6) then (ActP.firstN (ActP.wordB s) + 1, 0, 1, 0) else ActP.readRest (ActP.firstN (ActP.wordB s) + 1) r := rfl
    rw [hs] at h ⊢
    rcases ActP.firstN_cases (ActP.wordB s) with ⟨h1, _⟩ | ⟨k, hk, h1, _⟩
    · rw [if_pos h1] at h; cases h
    · rw [h1, if_neg (by omega)] at h ⊢
      have g0 : ∀ K, 0 ≤ ActP.actGreatest K := fun K => by unfold ActP.actGreatest; split; · decide
                                                           split <;> decide
      by_cases h46 : ¬ ((k : Int) + 1 = 4 ∨ (k : Int) + 1 = 6)
      · rw [if_pos h46]
        exact ⟨decide_eq_true ⟨by omega, by omega, Int.le_refl _, g0 _⟩, by show 1 ≤ (1 : Int).toNat; decide, by show (1 : Int).toNat ≤ _; simp⟩
      · rw [if_neg h46] at h ⊢
        match r, h with
        | [], h => cases h
        | t :: r, h =>
          unfold ActP.readRest at h ⊢
          dsimp only at h ⊢
          cases hn : ActP.refNum t with
          | none => rw [hn] at h; cases h
          | some n =>
            rw [hn] at h
            dsimp only at h ⊢
            by_cases hg : ActP.actGreatest ((k : Int) + 1) < (n : Int)
            · rw [if_pos hg] at h; cases h
            · rw [if_neg hg]
              exact ⟨decide_eq_true ⟨by omega, by omega, by show (0 : Int) ≤ (n : Int); omega, by show (n : Int) ≤ ActP.actGreatest ((k : Int) + 1); omega⟩, by show 1 ≤ (2 : Int).toNat; decide, by show (2 : Int).toNat ≤ _; simp⟩
theorem condsGo_good : ∀ (N : Nat) (ws : List ByteArray) (acc cs : List PCond), ws.length ≤ N → acc.length ≤ 6 → (∀ c ∈ acc, condOk c = true ∧ CondN c) → condsGo acc ws = .inr cs → (∀ c ∈ cs, condOk c = true ∧ CondN c) ∧ cs.length ≤ 6 ∧ 4 * cs.length ≤ 4 * acc.length + ws.length
  | N, [], acc, cs, _, h6, ha, h => by
    rw [condsGo_nil] at h
    cases h
    exact ⟨ha, h6, by omega⟩
  | 0, w0 :: r, acc, cs, hN, _, _, h => by simp at hN
  | N + 1, w0 :: r, acc, cs, hN, h6, ha, h => by
    cases hs : condsStep acc w0 r with
    | inl e => rw [condsGo_err hs] at h; cases h
    | inr p =>
      obtain ⟨acc', ws'⟩ := p
      rw [condsGo_step hs] at h
      unfold condsStep at hs
      split at hs
      · cases hs
      · split at hs
        · cases hs
        · rename_i hm
          split at hs
          · cases hs
          · rename_i he
            have hg := readCond_good r (by simpa using he)
            obtain ⟨g1, g2, g3, g4⟩ := hg
            obtain ⟨e1, e2⟩ := Prod.mk.inj (Sum.inr.inj hs)
            subst e1 e2
            simp only [List.length_cons] at hN ⊢
            have ih := condsGo_good N _ _ cs (by rw [List.length_drop]; omega) (by simp; omega) (fun c hc => by
              rcases List.mem_append.1 hc with hc | hc
              · exact ha c hc
              · rcases List.mem_singleton.1 hc with rfl
                exact ⟨g1, g2⟩) h
            refine ⟨ih.1, ih.2.1, ?_⟩
            have h3 := ih.2.2
            rw [List.length_drop, List.length_append, List.length_singleton] at h3
            omega
/-- Rules that may be; how many words they took at least. -/
def RulesG (rs : List PRule) : Prop := ∀ r ∈ rs, ruleOk r = true ∧ ∀ c ∈ r.conds, CondN c
def cost (rs : List PRule) : Nat := (rs.map fun r => 2 + 4 * r.conds.length).sum
theorem cost_snoc (rs : List PRule) (r : PRule) : cost (rs ++ [r]) = cost rs + (2 + 4 * r.conds.length) := by
  unfold cost
  rw [List.map_append, List.sum_append]
  simp
theorem ruleGo_good {many : Nat} {w0 : ByteArray} {r : List ByteArray} {x : PRule} (h : ruleGo many w0 r = .inr x) : ruleOk x = true ∧ (∀ c ∈ x.conds, CondN c) ∧ many < 500 ∧ 1 + 4 * x.conds.length ≤ r.length := by
  unfold ruleGo at h
  split at h
  · cases h
  · rename_i hn
    split at h
    · cases h
    · rename_i hm
      split at h
      · cases h
      · rename_i he
        obtain ⟨g1, g2, g3⟩ := readAct_good r (by simpa using he)
        cases hc : condsGo [] (r.drop (ActP.readAns r).2.2.1.toNat) with
        | inl e => rw [hc] at h; cases h
        | inr cs =>
          rw [hc] at h
          cases h
          obtain ⟨c1, c2, c3⟩ := condsGo_good _ _ [] cs (Nat.le_refl _) (by simp) (fun c hc => by cases hc) hc
          rw [List.length_drop] at c3
          simp only [List.length_nil] at c3
          refine ⟨?_, fun c hc => (c1 c hc).2, by omega, by show 1 + 4 * cs.length ≤ _; omega⟩
          unfold ruleOk
          dsimp only
          rw [g1, show nameB w0 = true by simpa using hn, decide_eq_true c2, List.all_eq_true.2 (fun c hc => (c1 c hc).1)]
          rfl
theorem pLine_good {cnt : Nat} {st st' : PSt} {w0 : ByteArray} {r : List ByteArray} (h : pLine cnt st w0 r = .inr st') (hg : RulesG st.rules) (hm : st.rules.length ≤ 500) (ha : cnt ≠ 0 → ActP.actRight st.k st.n = true) :
    RulesG st'.rules ∧ st'.rules.length ≤ 500 ∧ ActP.actRight st'.k st'.n = true ∧ cost st'.rules ≤ cost st.rules + (1 + r.length) := by
  unfold pLine at h
  split at h
  · split at h
    · cases h
    · split at h
      · cases h
      · rename_i he
        have := (readAct_good r (by simpa using he)).1
        split at h
        · cases h
        · cases h
          exact ⟨hg, hm, this, by show cost st.rules ≤ _; omega⟩
  · split at h
    · unfold pX32 at h
      split at h
      · split at h
        · rename_i h2
          cases h
          exact ⟨hg, hm, ha (by have := h2.1; omega), by show cost st.rules ≤ _; omega⟩
        · cases h
      · cases h
    · split at h
      · cases h
      · rename_i hc
        cases hr : ruleGo st.rules.length w0 r with
        | inl e => rw [hr] at h; cases h
        | inr x =>
          rw [hr] at h
          cases h
          obtain ⟨g1, g2, g3, g4⟩ := ruleGo_good hr
          refine ⟨fun y hy => ?_, by show (st.rules ++ [x]).length ≤ 500; rw [List.length_append, List.length_singleton]; omega, ha hc, ?_⟩
          · rcases List.mem_append.1 hy with hy | hy
            · exact hg y hy
            · rcases List.mem_singleton.1 hy with rfl
              exact ⟨g1, g2⟩
          · show cost (st.rules ++ [x]) ≤ _
            rw [cost_snoc]
            omega
/-- The words of lines. -/
def words (ls : List Ln) : Nat := (ls.map fun x => x.2.length).sum
theorem words_cons (x : Ln) (ls : List Ln) : words (x :: ls) = x.2.length + words ls := by unfold words; simp
theorem pLines_good : ∀ (ls : List Ln) (cnt : Nat) (st p : PSt) (m e : Int), pLines cnt st ls = (p, m, e) → e = 0 → (ls ≠ [] ∨ cnt ≠ 0) → RulesG st.rules → st.rules.length ≤ 500 → (cnt ≠ 0 → ActP.actRight st.k st.n = true) → m = 0 ∧ RulesG p.rules ∧ p.rules.length ≤ 500 ∧ ActP.actRight p.k p.n = true ∧ cost p.rules ≤ cost st.rules + words ls
  | [], cnt, st, p, m, e, h, he, hl, hg, hm, ha => by
    obtain ⟨rfl, h2⟩ := Prod.mk.inj (show (st, (0 : Int), (0 : Int)) = (p, m, e) from h)
    obtain ⟨rfl, _⟩ := Prod.mk.inj h2
    exact ⟨rfl, hg, hm, ha (hl.resolve_left (fun e => e rfl)), by omega⟩
  | (n, []) :: l, cnt, st, p, m, e, h, he, _, _, _, _ => by
    obtain ⟨_, h2⟩ := Prod.mk.inj (show (PSt.zero, (n : Int), (13 : Int)) = (p, m, e) from h)
    obtain ⟨_, h3⟩ := Prod.mk.inj h2
    omega
  | (n, w0 :: r) :: l, cnt, st, p, m, e, h, he, _, hg, hm, ha => by
    have h : (match pLine cnt st w0 r with | .inl e => (PSt.zero, (n : Int), e) | .inr st' => pLines (cnt + 1) st' l) = (p, m, e) := h
    cases hp : pLine cnt st w0 r with
    | inl c =>
      rw [hp] at h
      obtain ⟨_, h2⟩ := Prod.mk.inj h
      obtain ⟨_, h3⟩ := Prod.mk.inj h2
      exact absurd (h3.trans he) (pLine_ne hp)
    | inr st' =>
      rw [hp] at h
      obtain ⟨g1, g2, g3, g4⟩ := pLine_good hp hg hm ha
      obtain ⟨i1, i2, i3, i4, i5⟩ := pLines_good l (cnt + 1) st' p m e h he (.inr (by omega)) g1 g2 (fun _ => g3)
      refine ⟨i1, i2, i3, i4, ?_⟩
      rw [words_cons]
      show cost p.rules ≤ cost st.rules + ((w0 :: r).length + words l)
      rw [List.length_cons]
      omega
theorem wordsGo_many : ∀ (l w : List UInt8) (out : List ByteArray), 2 * (wordsGo l w out).length ≤ 2 * out.length + (l.length + (if w = [] then 1 else 2))
  | [], w, out => by
    show 2 * (flush w out).length ≤ _
    unfold flush
    split <;> simp <;> omega
  | c :: r, w, out => by
    show 2 * (if blkB c then wordsGo r [] (flush w out) else wordsGo r (w ++ [c]) out).length ≤ _
    split
    · have ih := wordsGo_many r [] (flush w out)
      rw [if_pos rfl] at ih
      have hf : (flush w out).length ≤ out.length + (if w = [] then 0 else 1) := by
        unfold flush
        split <;> simp
      rw [List.length_cons]
      by_cases hw : w = []
      · rw [if_pos hw] at hf ⊢; omega
      · rw [if_neg hw] at hf ⊢; omega
    · have ih := wordsGo_many r (w ++ [c]) out
      rw [if_neg (by simp)] at ih
      rw [List.length_cons]
      split <;> omega
theorem lineOf_many {l : List UInt8} {ws : List ByteArray} (h : lineOf l = some ws) : 2 * ws.length ≤ l.length + 1 := by
  unfold lineOf at h
  rw [lineGo_eq] at h
  split at h
  · simp only [Option.some.injEq] at h
    subst h
    have h1 := wordsGo_many (unNoted l) [] []
    have h2 := unNoted_len l
    rw [if_pos rfl] at h1
    simp only [List.length_nil] at h1
    omega
  · cases h
theorem words_append (a b : List Ln) : words (a ++ b) = words a + words b := by unfold words; rw [List.map_append, List.sum_append]
theorem lexGo_many : ∀ (ps : List (List UInt8)) (n : Nat) (acc : List Ln), 2 * words (lexGo ps n acc).1 ≤ 2 * words acc + (ps.map fun p => p.length + 1).sum
  | [], _, acc => by show 2 * words acc ≤ _; omega
  | p :: r, n, acc => by
    show 2 * words (match lineOf p with | none => ([], n, 13) | some ws => lexGo r (n + 1) (addLn n ws acc)).1 ≤ _
    cases hl : lineOf p with
    | none => simp [words]
    | some ws =>
      have ih := lexGo_many r (n + 1) (addLn n ws acc)
      have hw := lineOf_many hl
      have ha : words (addLn n ws acc) ≤ words acc + ws.length := by
        unfold addLn
        split
        · omega
        · rw [words_append]; simp [words]
      rw [List.map_cons, List.sum_cons]
      dsimp only
      omega
theorem pieces_total : ∀ l : List UInt8, ((pieces l).map fun p => p.length + 1).sum = l.length + 1
  | [] => by simp [pieces]
  | c :: r => by
    have ih := pieces_total r
    show ((if c = 10 then [] :: pieces r else match pieces r with | [] => [[c]] | h :: t => (c :: h) :: t).map fun p => p.length + 1).sum = _
    split
    · simp at ih ⊢; omega
    · cases hp : pieces r with
      | nil => exact absurd hp (pieces_ne r)
      | cons a b => rw [hp] at ih; simp at ih ⊢; omega
theorem lexAns_words (t : ByteArray) : 2 * words (lexAns t).1 ≤ t.size + 1 := by
  unfold lexAns
  split
  · simp [words]
  · have h1 := lexGo_many (pieces t.data.toList) 1 []
    have h2 := pieces_total t.data.toList
    rw [size_list] at h2
    simp only [words, List.map_nil, List.sum_nil] at h1
    unfold words
    omega
theorem rulesTx_cost : ∀ rs : List PRule, RulesG rs → (rulesTx rs).length ≤ 32 * cost rs
  | [], _ => by simp [rulesTx, cost]
  | r :: rs, h => by
    have ih := rulesTx_cost rs (fun x hx => h x (by simp [hx]))
    have hr := h r (by simp)
    have h1 := ruleTx_len hr.1 hr.2
    unfold rulesTx cost at *
    rw [List.flatMap_cons, List.length_append, List.map_cons, List.sum_cons]
    omega
/-- What is read without an error may be; its text is not too long. -/
theorem polAns_good {t : ByteArray} (ht : t.size ≤ 3000) {p : PSt} {m e : Int} (h : polAns t = (p, m, e)) (he : e = 0) : m = 0 ∧ polOk p = true ∧ PolN p ∧ (polTx p).length ≤ 65536 := by
  have hw := lexAns_words t
  unfold polAns at h
  generalize lexAns t = a at *
  obtain ⟨ls, nn, ec⟩ := a
  dsimp only at h hw
  by_cases h0 : ec ≠ 0
  · rw [if_pos h0] at h
    obtain ⟨_, h2⟩ := Prod.mk.inj h
    obtain ⟨_, h3⟩ := Prod.mk.inj h2
    omega
  · rw [if_neg h0] at h
    by_cases hl : ls.length = 0
    · rw [if_pos hl] at h
      obtain ⟨_, h2⟩ := Prod.mk.inj h
      obtain ⟨_, h3⟩ := Prod.mk.inj h2
      omega
    · rw [if_neg hl] at h
      obtain ⟨g1, g2, g3, g4, g5⟩ := pLines_good ls 0 PSt.zero p m e h he (.inl (fun e => hl (by rw [e]; rfl))) (fun r hr => by cases hr) (Nat.zero_le _) (fun e => absurd rfl e)
      have g5 : cost p.rules ≤ 0 + words ls := g5
      refine ⟨g1, ?_, fun r hr => (g2 r hr).2, ?_⟩
      · unfold polOk
        rw [g4, decide_eq_true g3, List.all_eq_true.2 (fun r hr => (g2 r hr).1)]
        rfl
      · have a := headTx_len g4 p.x
        have b := rulesTx_cost p.rules g2
        rw [polTx_eq, List.length_append]
        omega
end Go.Proofs.YtmjipkdejggbfaaGreatDoor
