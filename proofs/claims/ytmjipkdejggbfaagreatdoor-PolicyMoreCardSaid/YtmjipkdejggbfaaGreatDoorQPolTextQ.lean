/- A policy's text, byte by byte: plain facts. -/
import Derived.Test.YtmjipkdejggbfaaGreatDoorQPolTextP
namespace Go.Proofs.YtmjipkdejggbfaaGreatDoor
open Go Go.Proofs Go.RowKit

def actB (k n : Int) : ByteArray := ActP.actText k n.toNat
def condB (c : PCond) : ByteArray := CondP.condText c.a.toNat c.o c.m.toNat c.v.toNat
def condsTx : Bool → List PCond → List UInt8
  | _, [] => []
  | f, c :: r => (if f then [32, 105, 102, 32] else [32, 97, 110, 100, 32]) ++ (condB c).data.toList ++ condsTx false r
def ruleTx (r : PRule) : List UInt8 := r.name.data.toList ++ 32 :: ((actB r.k r.n).data.toList ++ condsTx true r.conds) ++ [10]
theorem joinTail_app (s : List UInt8) (a b : List (List UInt8)) : Lib.joinTail s (a ++ b) = Lib.joinTail s a ++ Lib.joinTail s b := by
  unfold Lib.joinTail
  rw [List.map_append, List.flatten_append]
theorem joinTail_cons (s x : List UInt8) (r : List (List UInt8)) : Lib.joinTail s (x :: r) = s ++ x ++ Lib.joinTail s r := by
  unfold Lib.joinTail
  rw [List.map_cons, List.flatten_cons]
theorem joinTail_nil (s : List UInt8) : Lib.joinTail s [] = [] := rfl
theorem tail_act (k n : Int) : Lib.joinTail [32] ((actWs k n).map (·.data.toList)) = 32 :: (actB k n).data.toList := by
  unfold actWs actB ActP.wordsOf
  rw [ActP.text_list]
  split
  · rw [List.map_cons, List.map_cons, List.map_nil, joinTail_cons, joinTail_cons, joinTail_nil]
    simp [ActP.decS]
  · rw [List.map_cons, List.map_nil, joinTail_cons, joinTail_nil]
    simp
theorem tail_cond (c : PCond) : Lib.joinTail [32] ((condWs c).map (·.data.toList)) = 32 :: (condB c).data.toList := by
  unfold condWs condB CondP.condText
  have h : CondP.condWords c.a.toNat c.o c.m.toNat c.v.toNat ≠ [] := by
    unfold CondP.condWords
    split <;> simp
  generalize CondP.condWords c.a.toNat c.o c.m.toNat c.v.toNat = ws at *
  cases ws with
  | nil => exact absurd rfl h
  | cons x r =>
    rw [List.map_cons, joinTail_cons, Lib.join_cons]
    rfl
theorem tail_conds : ∀ (f : Bool) (cs : List PCond), Lib.joinTail [32] ((condsWs f cs).map (·.data.toList)) = condsTx f cs
  | _, [] => rfl
  | f, c :: r => by
    have ih := tail_conds false r
    unfold condsWs
    rw [List.cons_append, List.map_cons, joinTail_cons, List.map_append, joinTail_app, tail_cond, ih]
    show _ = (if f then [32, 105, 102, 32] else [32, 97, 110, 100, 32]) ++ (condB c).data.toList ++ condsTx false r
    cases f <;> simp
theorem line_rule (r : PRule) : lineTx (ruleWs r) = ruleTx r := by
  unfold lineTx ruleWs ruleTx
  rw [List.map_cons, Lib.join_cons, List.map_append, joinTail_app, tail_act, tail_conds]
  rfl
theorem line_def (k n : Int) : lineTx (defWs k n) = [100, 101, 102, 97, 117, 108, 116, 32] ++ (actB k n).data.toList ++ [10] := by
  unfold lineTx defWs
  rw [List.map_cons, Lib.join_cons, tail_act]
  simp
def xTx (x : Bool) : List UInt8 := if x then [120, 51, 50, 32, 111, 110, 10] else []
theorem line_x (x : Bool) : textOf (xWs x) = xTx x := by
  cases x <;> simp [textOf, xWs, xTx, lineTx, Lib.join]
def rulesTx (rs : List PRule) : List UInt8 := rs.flatMap ruleTx
theorem text_rules (rs : List PRule) : textOf (rs.map ruleWs) = rulesTx rs := by
  unfold textOf rulesTx
  induction rs with
  | nil => rfl
  | cons r rs ih => rw [List.map_cons, List.flatMap_cons, List.flatMap_cons, ih, line_rule]
def headTx (k n : Int) (x : Bool) : List UInt8 := [100, 101, 102, 97, 117, 108, 116, 32] ++ (actB k n).data.toList ++ [10] ++ xTx x
theorem polTx_eq (p : PSt) : polTx p = headTx p.k p.n p.x ++ rulesTx p.rules := by
  unfold polTx polWs headTx
  show textOf ([defWs p.k p.n] ++ (xWs p.x ++ p.rules.map ruleWs)) = _
  have app : ∀ a b, textOf (a ++ b) = textOf a ++ textOf b := fun a b => by unfold textOf; rw [List.flatMap_append]
  rw [app, app, line_x, text_rules]
  have : textOf [defWs p.k p.n] = lineTx (defWs p.k p.n) := by simp [textOf]
  rw [this, line_def, List.append_assoc, List.append_assoc, List.append_assoc, List.append_assoc, List.append_assoc]
theorem condsTx_false : ∀ (cs : List PCond) (q : Nat) (c : PCond), cs[q]? = some c → condsTx false (cs.take (q + 1)) = condsTx false (cs.take q) ++ ([32, 97, 110, 100, 32] ++ (condB c).data.toList)
  | d :: cs, 0, c, h => by
    simp at h
    subst h
    simp [condsTx]
  | d :: cs, q + 1, c, h => by
    have ih := condsTx_false cs q c (by simpa using h)
    show condsTx false (d :: cs.take (q + 1)) = condsTx false (d :: cs.take q) ++ _
    unfold condsTx
    rw [ih]
    simp
theorem condsTx_take {cs : List PCond} {q : Nat} {c : PCond} (h : cs[q]? = some c) : condsTx true (cs.take (q + 1)) = condsTx true (cs.take q) ++ ((if q = 0 then [32, 105, 102, 32] else [32, 97, 110, 100, 32]) ++ (condB c).data.toList) := by
  cases cs with
  | nil => simp at h
  | cons d cs =>
    cases q with
    | zero =>
      simp at h
      subst h
      simp [condsTx]
    | succ q =>
      have ih := condsTx_false cs q c (by simpa using h)
      show condsTx true (d :: cs.take (q + 1)) = condsTx true (d :: cs.take q) ++ _
      unfold condsTx
      rw [ih]
      simp
theorem rulesTx_take {rs : List PRule} {q : Nat} {r : PRule} (h : rs[q]? = some r) : rulesTx (rs.take (q + 1)) = rulesTx (rs.take q) ++ ruleTx r := by
  unfold rulesTx
  rw [List.take_add_one, h, List.flatMap_append]
  simp

/-! ### How long -/
theorem actB_size {k n : Int} (h : ActP.actRight k n = true) : (actB k n).size ≤ 32 := by
  obtain ⟨_, _, h0, hn⟩ := actRight_bounds h
  unfold actB ActP.actText
  have h1 := ActP.word_size k
  have h2 := ActP.decS_size n.toNat (by omega)
  split
  · rw [ByteArray.size_append, ByteArray.size_append, show (⟨#[32]⟩ : ByteArray).size = 1 from rfl]
    omega
  · omega
theorem condB_size {c : PCond} (h : condOk c = true) (hn : CondN c) : (condB c).size ≤ 60 := by
  obtain ⟨a0, a5, _, _, _⟩ := condOk_parts h
  obtain ⟨⟨m0, m1⟩, v0, v1⟩ := hn
  exact CondP.text_size _ _ _ _ (by omega) (by omega) (by omega)
theorem condsTx_len : ∀ (f : Bool) (cs : List PCond), (∀ c ∈ cs, condOk c = true) → (∀ c ∈ cs, CondN c) → (condsTx f cs).length ≤ 65 * cs.length
  | _, [], _, _ => by simp [condsTx]
  | f, c :: r, h, hn => by
    have ih := condsTx_len false r (fun d hd => h d (by simp [hd])) (fun d hd => hn d (by simp [hd]))
    have hc := condB_size (h c (by simp)) (hn c (by simp))
    have hs := size_list (condB c)
    have hf : (if f then [32, 105, 102, 32] else [32, 97, 110, 100, 32] : List UInt8).length ≤ 5 := by cases f <;> simp
    unfold condsTx
    rw [List.length_append, List.length_append, List.length_cons]
    omega
theorem ruleTx_len {r : PRule} (h : ruleOk r = true) (hn : ∀ c ∈ r.conds, CondN c) : (ruleTx r).length ≤ 64 + 65 * r.conds.length := by
  obtain ⟨h1, h2, _, h4⟩ := ruleOk_parts h
  have a := (nameB_parts h1).1
  have b := actB_size h2
  have c := condsTx_len true r.conds h4 hn
  have sa := size_list r.name
  have sb := size_list (actB r.k r.n)
  unfold ruleTx
  simp only [List.length_append, List.length_cons, List.length_nil]
  omega
theorem headTx_len {k n : Int} (h : ActP.actRight k n = true) (x : Bool) : (headTx k n x).length ≤ 48 := by
  have b := actB_size h
  have sb := size_list (actB k n)
  unfold headTx
  have hx : (xTx x).length ≤ 7 := by cases x <;> simp [xTx]
  simp only [List.length_append, List.length_cons, List.length_nil]
  omega
theorem rulesTx_len : ∀ rs : List PRule, (∀ r ∈ rs, ruleOk r = true) → (∀ r ∈ rs, ∀ c ∈ r.conds, CondN c) → (rulesTx rs).length ≤ 454 * rs.length
  | [], _, _ => by simp [rulesTx]
  | r :: rs, h, hn => by
    have ih := rulesTx_len rs (fun x hx => h x (by simp [hx])) (fun x hx => hn x (by simp [hx]))
    have h1 := ruleTx_len (h r (by simp)) (hn r (by simp))
    have h2 := (ruleOk_parts (h r (by simp))).2.2.1
    unfold rulesTx at *
    rw [List.flatMap_cons, List.length_append, List.length_cons]
    omega
theorem polTx_len {p : PSt} (h : polOk p = true) (hn : PolN p) : (polTx p).length ≤ 48 + 454 * p.rules.length := by
  obtain ⟨h1, _, h3⟩ := polOk_parts h
  have a := headTx_len h1 p.x
  have b := rulesTx_len p.rules h3 hn
  rw [polTx_eq, List.length_append]
  omega
theorem rulesTx_take_le {rs : List PRule} (h : ∀ r ∈ rs, ruleOk r = true) (hn : ∀ r ∈ rs, ∀ c ∈ r.conds, CondN c) (q : Nat) : (rulesTx (rs.take q)).length ≤ 454 * rs.length := by
  have := rulesTx_len (rs.take q) (fun r hr => h r (List.mem_of_mem_take hr)) (fun r hr => hn r (List.mem_of_mem_take hr))
  have h2 : (rs.take q).length ≤ rs.length := by rw [List.length_take]; omega
  have h3 : 454 * (rs.take q).length ≤ 454 * rs.length := Nat.mul_le_mul_left _ h2
  omega
end Go.Proofs.YtmjipkdejggbfaaGreatDoor
