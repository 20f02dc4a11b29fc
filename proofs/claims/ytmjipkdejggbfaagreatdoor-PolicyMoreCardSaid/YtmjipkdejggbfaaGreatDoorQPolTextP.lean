/- A policy's text, as plain lists: its lines' words; read again, they are the policy. -/
import Derived.Test.YtmjipkdejggbfaaGreatDoorQPolP
import Derived.Test.YtmjipkdejggbfaaGreatDoorQCond
import Derived.Test.YtmjipkdejggbfaaGreatDoorQAct
import Derived.Test.YtmjipkdejggbfaaGreatDoorQLex
namespace Go.Proofs.YtmjipkdejggbfaaGreatDoor
open Go Go.Proofs Go.RowKit

/-! ### Words and lines -/
/-- A byte of a word. -/
def wB (c : UInt8) : Bool := okB c && !blkB c && c != 35
theorem wB_iff {c : UInt8} : wB c = true ↔ okB c = true ∧ blkB c = false ∧ c ≠ 35 := by
  unfold wB
  simp [and_assoc]
theorem wB_ten {c : UInt8} (h : wB c = true) : c ≠ 10 := by
  rintro rfl
  revert h
  decide
/-- A word. -/
def Wd (y : ByteArray) : Prop := y.data.toList ≠ [] ∧ ∀ c ∈ y.data.toList, wB c = true
theorem lineGo_word : ∀ (x rest w : List UInt8) (out : List ByteArray), (∀ c ∈ x, wB c = true) → lineGo (x ++ rest) w out = lineGo rest (w ++ x) out
  | [], rest, w, out, _ => by rw [List.nil_append, List.append_nil]
  | c :: x, rest, w, out, h => by
    obtain ⟨h1, h2, h3⟩ := wB_iff.1 (h c (by simp))
    rw [List.cons_append, lineGo_byte h3 h2 h1, lineGo_word x rest (w ++ [c]) out (fun d hd => h d (by simp [hd])), List.append_assoc]
    rfl
theorem flush_wd (y : ByteArray) (h : y.data.toList ≠ []) (out : List ByteArray) : flush y.data.toList out = out ++ [y] := by
  unfold flush
  rw [if_neg h]
theorem flush_nil (out : List ByteArray) : flush [] out = out := rfl
theorem lineGo_pre : ∀ (pre x : List UInt8) (out : List ByteArray), (∀ c ∈ pre, blkB c = true) → lineGo (pre ++ x) [] out = lineGo x [] out
  | [], _, _, _ => rfl
  | c :: pre, x, out, h => by
    rw [List.cons_append, lineGo_blank (h c (by simp)), flush_nil, lineGo_pre pre x out (fun d hd => h d (by simp [hd]))]
/-- What may stand behind a line's last word. -/
def Tail (z : List UInt8) : Prop := ∀ w out, lineGo z w out = some (flush w out)
theorem tail_nil : Tail [] := fun _ _ => rfl
theorem tail_note (note : List UInt8) : Tail (13 :: 35 :: note) := fun w out => by
  rw [lineGo_blank (by decide), lineGo_note]
  rfl
theorem lineGo_tailS {s z : List UInt8} (hs : ∃ b r, s = b :: r ∧ blkB b = true ∧ ∀ c ∈ r, blkB c = true) (hz : Tail z) : ∀ (r : List ByteArray) (y : ByteArray) (out : List ByteArray), y.data.toList ≠ [] → (∀ x ∈ r, Wd x) → lineGo (Lib.joinTail s (r.map (·.data.toList)) ++ z) y.data.toList out = some (out ++ [y] ++ r)
  | [], y, out, hy, _ => by
    show lineGo z _ _ = _
    rw [hz, flush_wd y hy, List.append_nil]
  | x :: r, y, out, hy, h => by
    have hx := h x (by simp)
    have ih := lineGo_tailS hs hz r x (out ++ [y]) hx.1 (fun z hz => h z (by simp [hz]))
    obtain ⟨b, s', rfl, hb, hs'⟩ := hs
    have e : Lib.joinTail (b :: s') ((x :: r).map (·.data.toList)) ++ z = b :: (s' ++ (x.data.toList ++ (Lib.joinTail (b :: s') (r.map (·.data.toList)) ++ z))) := by simp [Lib.joinTail]
    rw [e, lineGo_blank hb, flush_wd y hy, lineGo_pre _ _ _ hs', lineGo_word _ _ _ _ hx.2, List.nil_append, ih]
    simp
theorem lineOf_joinS {pre s z : List UInt8} (hp : ∀ c ∈ pre, blkB c = true) (hs : ∃ b r, s = b :: r ∧ blkB b = true ∧ ∀ c ∈ r, blkB c = true) (hz : Tail z) {ws : List ByteArray} (hne : ws ≠ []) (h : ∀ y ∈ ws, Wd y) : lineOf (pre ++ Lib.join (ws.map (·.data.toList)) s ++ z) = some ws := by
  cases ws with
  | nil => exact absurd rfl hne
  | cons x r =>
    have hx := h x (by simp)
    rw [List.map_cons, Lib.join_cons]
    unfold lineOf
    rw [List.append_assoc, lineGo_pre _ _ _ hp, List.append_assoc, lineGo_word _ _ _ _ hx.2, List.nil_append, lineGo_tailS hs hz r x [] hx.1 (fun z hz => h z (by simp [hz]))]
    rfl
theorem join_noten {s : List UInt8} (hs : (10 : UInt8) ∉ s) {ws : List ByteArray} (h : ∀ y ∈ ws, Wd y) : (10 : UInt8) ∉ Lib.join (ws.map (·.data.toList)) s := by
  have tail : ∀ r : List ByteArray, (∀ y ∈ r, Wd y) → (10 : UInt8) ∉ Lib.joinTail s (r.map (·.data.toList)) := by
    intro r h hm
    unfold Lib.joinTail at hm
    rw [List.mem_flatten] at hm
    obtain ⟨l, hl, hm⟩ := hm
    rw [List.map_map, List.mem_map] at hl
    obtain ⟨y, hy, rfl⟩ := hl
    simp only [Function.comp_apply] at hm
    rcases List.mem_append.1 hm with hm | hm
    · exact hs hm
    · exact wB_ten ((h y hy).2 _ hm) rfl
  cases ws with
  | nil => simp [Lib.join_nil]
  | cons x r =>
    rw [List.map_cons, Lib.join_cons]
    intro hm
    rcases List.mem_append.1 hm with hm | hm
    · exact wB_ten ((h x (by simp)).2 _ hm) rfl
    · exact tail r (fun y hy => h y (by simp [hy])) hm
/-- Pieces whose words are known: the lines that count. -/
theorem lexGo_known : ∀ (ps : List (List UInt8)) (wss : List (List ByteArray)) (n : Nat) (acc : List Ln), ps.map lineOf = wss.map some → ∃ ls, lexGo ps n acc = (ls, 0, 0) ∧ ls.map (·.2) = acc.map (·.2) ++ wss.filter (fun ws => !ws.isEmpty)
  | [], [], n, acc, _ => ⟨acc, rfl, by simp⟩
  | [], w :: wss, n, acc, h => by simp at h
  | p :: ps, [], n, acc, h => by simp at h
  | p :: ps, w :: wss, n, acc, h => by
    simp only [List.map_cons, List.cons.injEq] at h
    obtain ⟨h1, h2⟩ := h
    obtain ⟨ls, h3, h4⟩ := lexGo_known ps wss (n + 1) (addLn n w acc) h2
    refine ⟨ls, ?_, ?_⟩
    · show (match lineOf p with | none => ([], n, 13) | some ws => lexGo ps (n + 1) (addLn n ws acc)) = _
      rw [h1]
      exact h3
    · rw [h4]
      unfold addLn
      cases w with
      | nil => rw [if_pos rfl]; simp
      | cons a b => rw [if_neg (by simp)]; simp
theorem lexAns_known {t : ByteArray} (ht : t.size ≤ 65536) {wss : List (List ByteArray)} (h : (pieces t.data.toList).map lineOf = wss.map some) : ∃ ls, lexAns t = (ls, 0, 0) ∧ ls.map (·.2) = wss.filter (fun ws => !ws.isEmpty) := by
  obtain ⟨ls, h1, h2⟩ := lexGo_known _ _ 1 [] h
  refine ⟨ls, ?_, by simpa using h2⟩
  unfold lexAns
  rw [if_neg (by omega), h1]
/-- A line's text. -/
def lineTx (ws : List ByteArray) : List UInt8 := Lib.join (ws.map (·.data.toList)) [32] ++ [10]
def textOf (wss : List (List ByteArray)) : List UInt8 := wss.flatMap lineTx
/-- Lines of words, one at least in each. -/
def Good (wss : List (List ByteArray)) : Prop := ∀ ws ∈ wss, ws ≠ [] ∧ ∀ y ∈ ws, Wd y
theorem pieces_text : ∀ wss : List (List ByteArray), Good wss → pieces (textOf wss) = (wss.map fun ws => Lib.join (ws.map (·.data.toList)) [32]) ++ [[]]
  | [], _ => rfl
  | x :: r, h => by
    have e : textOf (x :: r) = Lib.join (x.map (·.data.toList)) [32] ++ 10 :: textOf r := by
      unfold textOf
      rw [List.flatMap_cons]
      unfold lineTx
      rw [List.append_assoc]
      rfl
    rw [e, pieces_at _ _ (join_noten (by decide) (h x (by simp)).2), pieces_text r (fun y hy => h y (by simp [hy]))]
    rfl
theorem filter_good {wss : List (List ByteArray)} (h : Good wss) : wss.filter (fun ws => !ws.isEmpty) = wss := by
  rw [List.filter_eq_self]
  intro ws hw
  have := (h ws hw).1
  cases ws with
  | nil => exact absurd rfl this
  | cons a b => rfl
theorem lexAns_text {wss : List (List ByteArray)} (h : Good wss) (hl : (textOf wss).length ≤ 65536) {t : ByteArray} (ht : t.data.toList = textOf wss) : ∃ ls, lexAns t = (ls, 0, 0) ∧ ls.map (·.2) = wss := by
  have hts : t.size ≤ 65536 := by rw [← size_list, ht]; exact hl
  have hk : (pieces t.data.toList).map lineOf = (wss ++ [[]]).map some := by
    rw [ht, pieces_text wss h, List.map_append, List.map_append]
    congr 1
    rw [List.map_map]
    apply List.map_congr_left
    intro ws hw
    have := lineOf_joinS (pre := []) (s := [32]) (z := []) (fun c hc => by cases hc) ⟨32, [], rfl, by decide, fun c hc => by cases hc⟩ tail_nil (h ws hw).1 (h ws hw).2
    rw [List.nil_append, List.append_nil] at this
    exact this
  obtain ⟨ls, h1, h2⟩ := lexAns_known hts hk
  refine ⟨ls, h1, ?_⟩
  rw [h2, List.filter_append, filter_good h]
  exact List.append_nil _

/-! ### A policy's words -/
def actWs (k n : Int) : List ByteArray := ActP.wordsOf k n.toNat
def condWs (c : PCond) : List ByteArray := CondP.condWords c.a.toNat c.o c.m.toNat c.v.toNat
def condsWs : Bool → List PCond → List ByteArray
  | _, [] => []
  | f, c :: r => (if f then ⟨#[105, 102]⟩ else ⟨#[97, 110, 100]⟩) :: condWs c ++ condsWs false r
def ruleWs (r : PRule) : List ByteArray := r.name :: (actWs r.k r.n ++ condsWs true r.conds)
def defWs (k n : Int) : List ByteArray := ⟨#[100, 101, 102, 97, 117, 108, 116]⟩ :: actWs k n
def xWs (x : Bool) : List (List ByteArray) := if x then [[⟨#[120, 51, 50]⟩, ⟨#[111, 110]⟩]] else []
def polWs (p : PSt) : List (List ByteArray) := defWs p.k p.n :: (xWs p.x ++ p.rules.map ruleWs)
def condOk (c : PCond) : Bool := CondP.condRight c.a c.o c.m
def ruleOk (r : PRule) : Bool := nameB r.name && (ActP.actRight r.k r.n && (decide (r.conds.length ≤ 6) && r.conds.all condOk))
def polOk (p : PSt) : Bool := ActP.actRight p.k p.n && (decide (p.rules.length ≤ 500) && p.rules.all ruleOk)
/-- A condition's numbers are of 64 bits. -/
def CondN (c : PCond) : Prop := (0 ≤ c.m ∧ c.m < 18446744073709551616) ∧ (0 ≤ c.v ∧ c.v < 18446744073709551616)
def PolN (p : PSt) : Prop := ∀ r ∈ p.rules, ∀ c ∈ r.conds, CondN c

/-! ### They are words -/
theorem wd_dec (n : Nat) : Wd ⟨(Lib.decDigits n).toArray⟩ := by
  have key : ∀ n, Lib.decDigits n ≠ [] ∧ ∀ c ∈ Lib.decDigits n, wB c = true := by
    have dig : ∀ d : Nat, d < 10 → wB (UInt8.ofNat (48 + d)) = true := by
      intro d hd
      have : d = 0 ∨ d = 1 ∨ d = 2 ∨ d = 3 ∨ d = 4 ∨ d = 5 ∨ d = 6 ∨ d = 7 ∨ d = 8 ∨ d = 9 := by omega
      rcases this with rfl | rfl | rfl | rfl | rfl | rfl | rfl | rfl | rfl | rfl <;> decide
    intro n
    induction n using Nat.strongRecOn with
    | _ n ih =>
      by_cases h : n < 10
      · rw [Lib.decDigits_one h]
        exact ⟨by simp, fun c hc => by rcases List.mem_singleton.1 hc with rfl; exact dig n h⟩
      · rw [Lib.decDigits, dif_neg h]
        refine ⟨by simp, fun c hc => ?_⟩
        rcases List.mem_append.1 hc with hc | hc
        · exact (ih (n / 10) (by omega)).2 c hc
        · rcases List.mem_singleton.1 hc with rfl
          exact dig _ (by omega)
  exact key n
theorem wd_act {k : Int} (h1 : 1 ≤ k) (h8 : k ≤ 8) : Wd (ActP.actWord k) := by
  have h : k = 1 ∨ k = 2 ∨ k = 3 ∨ k = 4 ∨ k = 5 ∨ k = 6 ∨ k = 7 ∨ k = 8 := by omega
  rcases h with rfl | rfl | rfl | rfl | rfl | rfl | rfl | rfl <;> exact ⟨by decide, by decide⟩
theorem wd_op {o : Int} (h1 : 1 ≤ o) (h7 : o ≤ 7) : Wd (CondP.opText o) := by
  have h : o = 1 ∨ o = 2 ∨ o = 3 ∨ o = 4 ∨ o = 5 ∨ o = 6 ∨ o = 7 := by omega
  rcases h with rfl | rfl | rfl | rfl | rfl | rfl | rfl <;> exact ⟨by decide, by decide⟩
theorem actRight_bounds {k n : Int} (h : ActP.actRight k n = true) : 1 ≤ k ∧ k ≤ 8 ∧ 0 ≤ n ∧ n ≤ 65535 := by
  unfold ActP.actRight at h
  simp only [decide_eq_true_eq] at h
  obtain ⟨h1, h2, h3, h4⟩ := h
  refine ⟨h1, h2, h3, Int.le_trans h4 ?_⟩
  unfold ActP.actGreatest
  split
  · decide
  · split <;> decide
theorem wd_actWs {k n : Int} (h : ActP.actRight k n = true) : ∀ y ∈ actWs k n, Wd y := by
  obtain ⟨h1, h8, _, _⟩ := actRight_bounds h
  intro y hy
  unfold actWs ActP.wordsOf at hy
  split at hy <;> simp only [List.mem_cons, List.not_mem_nil, or_false] at hy
  · rcases hy with rfl | rfl
    · exact wd_act h1 h8
    · exact wd_dec _
  · subst hy
    exact wd_act h1 h8
theorem condOk_parts {c : PCond} (h : condOk c = true) : 0 ≤ c.a ∧ c.a ≤ 5 ∧ 1 ≤ c.o ∧ c.o ≤ 7 ∧ (c.o = 7 ∨ c.m = 0) := by
  unfold condOk CondP.condRight at h
  simpa using h
theorem wd_pre {a x : ByteArray} (ha : ∀ c ∈ a.data.toList, wB c = true) (hx : Wd x) : Wd (a ++ x) := by
  refine ⟨?_, ?_⟩
  · rw [list_append]
    intro e
    exact hx.1 (List.append_eq_nil_iff.1 e).2
  · intro c hc
    rw [list_append] at hc
    rcases List.mem_append.1 hc with hc | hc
    · exact ha c hc
    · exact hx.2 c hc
theorem wd_condWs {c : PCond} (h : condOk c = true) : ∀ y ∈ condWs c, Wd y := by
  obtain ⟨_, _, h1, h7, _⟩ := condOk_parts h
  have hA : Wd ((⟨#[97]⟩ : ByteArray) ++ CondP.decS c.a.toNat) := wd_pre (by decide) (wd_dec _)
  intro y hy
  unfold condWs CondP.condWords at hy
  split at hy <;> simp only [List.mem_cons, List.not_mem_nil, or_false] at hy
  · rcases hy with rfl | rfl | rfl | rfl | rfl
    · exact hA
    · exact wd_op (by decide) (by decide)
    · exact wd_dec _
    · exact ⟨by decide, by decide⟩
    · exact wd_dec _
  · rcases hy with rfl | rfl | rfl
    · exact hA
    · exact wd_op h1 h7
    · exact wd_dec _
theorem wd_condsWs : ∀ (f : Bool) (cs : List PCond), (∀ c ∈ cs, condOk c = true) → ∀ y ∈ condsWs f cs, Wd y
  | _, [], _, y, hy => by cases hy
  | f, c :: r, h, y, hy => by
    unfold condsWs at hy
    rw [List.cons_append, List.mem_cons, List.mem_append] at hy
    rcases hy with rfl | hy | hy
    · cases f <;> exact ⟨by decide, by decide⟩
    · exact wd_condWs (h c (by simp)) y hy
    · exact wd_condsWs false r (fun d hd => h d (by simp [hd])) y hy
theorem nameB_parts {s : ByteArray} (h : nameB s = true) : s.size ≤ 30 ∧ s.data.toList ≠ [] ∧ (s.toList == defaultB) = false ∧ (s.toList == x32B) = false ∧ ∀ c ∈ s.data.toList, okNB c = true := by
  unfold nameB at h
  simp only [Bool.and_eq_true, decide_eq_true_eq, Bool.not_eq_true'] at h
  obtain ⟨⟨⟨⟨h1, h2⟩, h3⟩, h4⟩, h5⟩ := h
  refine ⟨h1, ?_, h3, h4, fun c hc => List.all_eq_true.1 h5 c hc⟩
  intro e
  rw [e] at h2
  cases h2
theorem okNB_wB {c : UInt8} (h : okNB c = true) : wB c = true := by
  have h' : 48 ≤ c.toNat ∧ c.toNat ≤ 122 := by
    unfold okNB at h
    simp only [Bool.or_eq_true, Bool.and_eq_true, decide_eq_true_eq, beq_iff_eq] at h
    omega
  have hb : blkB c = false := by
    rw [← blkR_byte]
    unfold blkR
    simp only [Bool.or_eq_false_iff, beq_eq_false_iff_ne]
    omega
  have ho : okB c = true := by
    unfold okB
    rw [hb]
    simp only [Bool.false_or, Bool.and_eq_true, decide_eq_true_eq, UInt8.le_iff_toNat_le]
    exact ⟨Nat.le_trans (by decide) h'.1, Nat.le_trans h'.2 (by decide)⟩
  refine wB_iff.2 ⟨ho, hb, ?_⟩
  rintro rfl
  exact absurd h'.1 (by decide)
theorem wd_name {s : ByteArray} (h : nameB s = true) : Wd s := by
  obtain ⟨_, h2, _, _, h5⟩ := nameB_parts h
  exact ⟨h2, fun c hc => okNB_wB (h5 c hc)⟩
theorem ruleOk_parts {r : PRule} (h : ruleOk r = true) : nameB r.name = true ∧ ActP.actRight r.k r.n = true ∧ r.conds.length ≤ 6 ∧ ∀ c ∈ r.conds, condOk c = true := by
  unfold ruleOk at h
  simp only [Bool.and_eq_true, decide_eq_true_eq] at h
  exact ⟨h.1, h.2.1, h.2.2.1, fun c hc => List.all_eq_true.1 h.2.2.2 c hc⟩
theorem polOk_parts {p : PSt} (h : polOk p = true) : ActP.actRight p.k p.n = true ∧ p.rules.length ≤ 500 ∧ ∀ r ∈ p.rules, ruleOk r = true := by
  unfold polOk at h
  simp only [Bool.and_eq_true, decide_eq_true_eq] at h
  exact ⟨h.1, h.2.1, fun r hr => List.all_eq_true.1 h.2.2 r hr⟩
theorem good_rule {r : PRule} (h : ruleOk r = true) : ruleWs r ≠ [] ∧ ∀ y ∈ ruleWs r, Wd y := by
  obtain ⟨h1, h2, _, h4⟩ := ruleOk_parts h
  refine ⟨by unfold ruleWs; simp, fun y hy => ?_⟩
  unfold ruleWs at hy
  rw [List.mem_cons, List.mem_append] at hy
  rcases hy with rfl | hy | hy
  · exact wd_name h1
  · exact wd_actWs h2 y hy
  · exact wd_condsWs _ _ h4 y hy
theorem good_pol {p : PSt} (h : polOk p = true) : Good (polWs p) := by
  obtain ⟨h1, _, h3⟩ := polOk_parts h
  intro ws hw
  unfold polWs at hw
  rw [List.mem_cons, List.mem_append] at hw
  rcases hw with rfl | hw | hw
  · refine ⟨by unfold defWs; simp, fun y hy => ?_⟩
    unfold defWs at hy
    rcases List.mem_cons.1 hy with rfl | hy
    · exact ⟨by decide, by decide⟩
    · exact wd_actWs h1 y hy
  · unfold xWs at hw
    split at hw
    · simp only [List.mem_cons, List.not_mem_nil, or_false] at hw
      subst hw
      refine ⟨by simp, fun y hy => ?_⟩
      simp only [List.mem_cons, List.not_mem_nil, or_false] at hy
      rcases hy with rfl | rfl <;> exact ⟨by decide, by decide⟩
    · cases hw
  · obtain ⟨r, hr, rfl⟩ := List.mem_map.1 hw
    exact good_rule (h3 r hr)

/-! ### They are read as they were -/
theorem readAct {k n : Int} (h : ActP.actRight k n = true) (t : List ByteArray) : ActP.readAns (actWs k n ++ t) = (k, n, ((actWs k n).length : Int), 0) := by
  obtain ⟨h1, h8, h0, hn⟩ := actRight_bounds h
  have e : ((n.toNat : Nat) : Int) = n := by omega
  have hf := ActP.firstN_word k h1 h8
  unfold ActP.actRight at h
  simp only [decide_eq_true_eq] at h
  obtain ⟨_, _, _, hg⟩ := h
  unfold actWs ActP.wordsOf
  by_cases hk : k = 4 ∨ k = 6
  · rw [if_pos hk]
    show ActP.readAns (ActP.actWord k :: ActP.decS n.toNat :: t) = _
    unfold ActP.readAns
    dsimp only
    rw [if_neg (by omega), hf, if_neg (fun h => h hk)]
    unfold ActP.readRest
    dsimp only
    rw [ActP.refNum_dec n.toNat (by omega)]
    dsimp only
    rw [if_neg (by omega), e]
    rfl
  · rw [if_neg hk]
    show ActP.readAns (ActP.actWord k :: t) = _
    unfold ActP.readAns
    dsimp only
    rw [if_neg (by omega), hf, if_pos hk]
    have : ActP.actGreatest k = 0 := by
      unfold ActP.actGreatest
      rw [if_neg (fun h => hk (.inl h)), if_neg (fun h => hk (.inr h))]
    obtain rfl : n = 0 := by omega
    rfl
theorem readCond {c : PCond} (h : condOk c = true) (hn : CondN c) (t : List ByteArray) : CondP.readAns (condWs c ++ t) = ⟨c.a, c.o, c.m, c.v, (condWs c).length, 0⟩ := by
  obtain ⟨a, o, m, v⟩ := c
  obtain ⟨a0, a5, o1, o7, hom⟩ := condOk_parts h
  obtain ⟨⟨m0, m1⟩, v0, v1⟩ := hn
  dsimp only at *
  obtain ⟨a, rfl⟩ : ∃ a' : Nat, a = (a' : Int) := ⟨a.toNat, by omega⟩
  obtain ⟨m, rfl⟩ : ∃ m' : Nat, m = (m' : Int) := ⟨m.toNat, by omega⟩
  obtain ⟨v, rfl⟩ : ∃ v' : Nat, v = (v' : Int) := ⟨v.toNat, by omega⟩
  obtain ⟨k, rfl⟩ : ∃ k' : Nat, o = (k' : Int) + 1 := ⟨(o - 1).toNat, by omega⟩
  have hvn : CondP.numOf (CondP.decS v).data.toList = some v := CondP.numOf_dec v (by omega)
  have hmn : CondP.numOf (CondP.decS m).data.toList = some m := CondP.numOf_dec m (by omega)
  have hf := CondP.opB_self k (by omega)
  unfold condWs CondP.condWords
  simp only [Int.toNat_natCast]
  by_cases h7 : (k : Int) + 1 = 7
  · obtain rfl : k = 6 := by omega
    have hf : CondP.firstO (CondP.opB (CondP.opText 7)) = 6 := hf
    rw [if_pos h7]
    show CondP.readAns ((⟨#[97]⟩ ++ CondP.decS a) :: CondP.opText 7 :: CondP.decS m :: ⟨#[61, 61]⟩ :: CondP.decS v :: t) = _
    rw [CondP.readAns_ok _ (CondP.argOf_word a (by omega)), CondP.readRest_mask a _ _ _ hf hmn, CondP.readMask_val a m _ _ _ (by decide +kernel) hvn]
    rfl
  · obtain rfl : m = 0 := by omega
    rw [if_neg h7]
    show CondP.readAns ((⟨#[97]⟩ ++ CondP.decS a) :: CondP.opText ((k : Int) + 1) :: CondP.decS v :: t) = _
    rw [CondP.readAns_ok _ (CondP.argOf_word a (by omega)), CondP.readRest_val a _ _ _ (by rw [hf]; omega) (by rw [hf]; omega) hvn, hf]
    rfl
theorem drop_app {α : Type} (a b : List α) : (a ++ b).drop ((a.length : Int)).toNat = b := by
  rw [Int.toNat_natCast, List.drop_left]
theorem condsGo_text : ∀ (cs acc : List PCond), acc.length + cs.length ≤ 6 → (∀ c ∈ cs, condOk c = true) → (∀ c ∈ cs, CondN c) → condsGo acc (condsWs (acc.isEmpty) cs) = .inr (acc ++ cs)
  | [], acc, _, _, _ => by
    show condsGo acc [] = _
    rw [condsGo_nil, List.append_nil]
  | c :: r, acc, hl, ho, hn => by
    have hr := readCond (ho c (by simp)) (hn c (by simp)) (condsWs false r)
    have hw : ((if acc.isEmpty then (⟨#[105, 102]⟩ : ByteArray) else ⟨#[97, 110, 100]⟩).toList == wordC acc) = true := by
      unfold wordC
      cases acc with
      | nil => simp [ifB, ByteArray.toList_eq]
      | cons a b => simp [andB, ByteArray.toList_eq]
    simp only [List.length_cons] at hl
    have hs : condsStep acc (if acc.isEmpty then (⟨#[105, 102]⟩ : ByteArray) else ⟨#[97, 110, 100]⟩) (condWs c ++ condsWs false r) = .inr (acc ++ [c], condsWs false r) := by
      unfold condsStep
      rw [if_neg (by rw [hw]; decide), if_neg (by omega), hr]
      dsimp only
      rw [if_neg (by simp), drop_app]
    show condsGo acc ((if acc.isEmpty then (⟨#[105, 102]⟩ : ByteArray) else ⟨#[97, 110, 100]⟩) :: (condWs c ++ condsWs false r)) = _
    rw [condsGo_step hs]
    have ih := condsGo_text r (acc ++ [c]) (by simp; omega) (fun d hd => ho d (by simp [hd])) (fun d hd => hn d (by simp [hd]))
    have e : (acc ++ [c]).isEmpty = false := by simp
    rw [e] at ih
    rw [ih, List.append_assoc]
    rfl
theorem ruleGo_text {r : PRule} (h : ruleOk r = true) (hn : ∀ c ∈ r.conds, CondN c) {many : Nat} (hm : many < 500) : ruleGo many r.name (actWs r.k r.n ++ condsWs true r.conds) = .inr r := by
  obtain ⟨h1, h2, h3, h4⟩ := ruleOk_parts h
  unfold ruleGo
  rw [if_neg (by rw [h1]; decide), if_neg (by omega), readAct h2]
  dsimp only
  have hg : condsGo [] (condsWs true r.conds) = .inr ([] ++ r.conds) := condsGo_text r.conds [] (by simp; omega) h4 hn
  rw [if_neg (by simp), drop_app, hg]
  rfl
theorem pTx_rule {r : PRule} (h : ruleOk r = true) (hn : ∀ c ∈ r.conds, CondN c) {cnt : Nat} (hc : cnt ≠ 0) {st : PSt} (hm : st.rules.length < 500) : pLine cnt st r.name (actWs r.k r.n ++ condsWs true r.conds) = .inr { st with rules := st.rules ++ [r] } := by
  obtain ⟨_, _, h3, h4, _⟩ := nameB_parts (ruleOk_parts h).1
  unfold pLine
  rw [if_neg (by rw [h3]; decide), if_neg (by rw [h4]; decide), if_neg hc, ruleGo_text h hn hm]
  rfl
theorem pLines_rules : ∀ (rs : List PRule) (ls : List Ln) (cnt : Nat) (st : PSt), ls.map (·.2) = rs.map ruleWs → cnt ≠ 0 → st.rules.length + rs.length ≤ 500 → (∀ r ∈ rs, ruleOk r = true) → (∀ r ∈ rs, ∀ c ∈ r.conds, CondN c) → pLines cnt st ls = ({ st with rules := st.rules ++ rs }, 0, 0)
  | [], [], cnt, st, _, _, _, _, _ => by
    show (st, 0, 0) = _
    rw [List.append_nil]
  | [], l :: ls, _, _, h, _, _, _, _ => by simp at h
  | r :: rs, [], _, _, h, _, _, _, _ => by simp at h
  | r :: rs, (n, ws) :: ls, cnt, st, h, hc, hl, ho, hn => by
    simp only [List.map_cons, List.cons.injEq] at h
    obtain ⟨rfl, h2⟩ := h
    simp only [List.length_cons] at hl
    show (match pLine cnt st r.name (actWs r.k r.n ++ condsWs true r.conds) with | .inl e => (PSt.zero, (n : Int), e) | .inr st' => pLines (cnt + 1) st' ls) = _
    rw [pTx_rule (ho r (by simp)) (hn r (by simp)) hc (by omega)]
    dsimp only
    rw [pLines_rules rs ls (cnt + 1) _ h2 (by omega) (by simp; omega) (fun x hx => ho x (by simp [hx])) (fun x hx => hn x (by simp [hx]))]
    simp
theorem pLine_def {k n : Int} (h : ActP.actRight k n = true) : pLine 0 PSt.zero ⟨#[100, 101, 102, 97, 117, 108, 116]⟩ (actWs k n) = .inr ⟨k, n, false, []⟩ := by
  have hr := readAct h []
  rw [List.append_nil] at hr
  unfold pLine
  rw [if_pos (by simp [defaultB, ByteArray.toList_eq]), if_neg (by simp), hr]
  dsimp only
  rw [if_neg (by simp), Int.toNat_natCast, List.drop_length, if_neg (by simp)]
  rfl
theorem pLine_x32 (st : PSt) : pLine 1 st ⟨#[120, 51, 50]⟩ [⟨#[111, 110]⟩] = .inr { st with x := true } := by
  unfold pLine
  rw [if_neg (by simp [defaultB, ByteArray.toList_eq]), if_pos (by simp [x32B, ByteArray.toList_eq])]
  unfold pX32
  dsimp only
  have h : ((⟨#[111, 110]⟩ : ByteArray).toList == onB) = true := by simp [onB, ByteArray.toList_eq]
  rw [if_pos ⟨rfl, .inl h⟩, h]
/-- Lines with a policy's words are the policy. -/
theorem pLines_pol {p : PSt} (h : polOk p = true) (hn : PolN p) {ls : List Ln} (hls : ls.map (·.2) = polWs p) : pLines 0 PSt.zero ls = (p, 0, 0) := by
  obtain ⟨h1, h2, h3⟩ := polOk_parts h
  obtain ⟨k, n, x, rs⟩ := p
  dsimp only at h1 h2 h3
  unfold polWs at hls
  match ls, hls with
  | (m, ws) :: ls, hls =>
    simp only [List.map_cons, List.cons.injEq] at hls
    obtain ⟨rfl, hls⟩ := hls
    show (match pLine 0 PSt.zero ⟨#[100, 101, 102, 97, 117, 108, 116]⟩ (actWs k n) with | .inl e => (PSt.zero, (m : Int), e) | .inr st' => pLines (0 + 1) st' ls) = _
    rw [pLine_def h1]
    dsimp only
    cases x with
    | false =>
      have := pLines_rules rs ls 1 ⟨k, n, false, []⟩ hls (by decide) (by simpa using h2) h3 hn
      simpa using this
    | true =>
      match ls, hls with
      | (m2, ws2) :: ls, hls =>
        obtain ⟨e1, e2⟩ := List.cons.inj (show ws2 :: ls.map (·.2) = [⟨#[120, 51, 50]⟩, ⟨#[111, 110]⟩] :: rs.map ruleWs from hls)
        subst e1
        show (match pLine 1 ⟨k, n, false, []⟩ ⟨#[120, 51, 50]⟩ [⟨#[111, 110]⟩] with | .inl e => (PSt.zero, (m2 : Int), e) | .inr st' => pLines (1 + 1) st' ls) = _
        rw [pLine_x32]
        dsimp only
        have := pLines_rules rs ls 2 ⟨k, n, true, []⟩ e2 (by decide) (by simpa using h2) h3 hn
        simpa using this
theorem polAns_lines {p : PSt} (h : polOk p = true) (hn : PolN p) {t : ByteArray} {ls : List Ln} (h1 : lexAns t = (ls, 0, 0)) (h2 : ls.map (·.2) = polWs p) : polAns t = (p, 0, 0) := by
  have hl : ls.length ≠ 0 := by
    have := congrArg List.length h2
    simp [polWs] at this
    omega
  unfold polAns
  rw [h1]
  dsimp only
  rw [if_neg (by simp), if_neg hl]
  exact pLines_pol h hn h2
/-- A policy's text. -/
def polTx (p : PSt) : List UInt8 := textOf (polWs p)
theorem polAns_text {p : PSt} (h : polOk p = true) (hn : PolN p) (hl : (polTx p).length ≤ 65536) {t : ByteArray} (ht : t.data.toList = polTx p) : polAns t = (p, 0, 0) := by
  obtain ⟨ls, h1, h2⟩ := lexAns_text (good_pol h) hl ht
  exact polAns_lines h hn h1 h2
end Go.Proofs.YtmjipkdejggbfaaGreatDoor
