/- Rules put together in memory; a policy with a rule more: facts. -/
import Derived.Laws.OwnMore
import Derived.Test.YtmjipkdejggbfaaGreatDoorQPolBackW
namespace Go.Proofs.YtmjipkdejggbfaaGreatDoor
open Go Go.Proofs Go.RowKit Go.Deep

theorem flatR_cases : ∀ (rs : List PRule) (us : List Value) (j : Nat) (u : Value), us.length = rs.length → (flatR rs us)[j]? = some u →
    ∃ i r ui, rs[i]? = some r ∧ us[i]? = some ui ∧ ((j = i * 4 ∧ u = .string r.name) ∨ (j = i * 4 + 1 ∧ u = .int .i64 r.k) ∨ (j = i * 4 + 2 ∧ u = .int .i64 r.n) ∨ (j = i * 4 + 3 ∧ u = ui))
  | [], us, j, u, _, h => by simp [flatR] at h
  | r :: rs, [], j, u, hl, h => by simp at hl
  | r :: rs, ui :: us, j, u, hl, h => by
    have h : (ruleC r ui ++ flatR rs us)[j]? = some u := h
    match j, h with
    | 0, h => exact ⟨0, r, ui, rfl, rfl, .inl ⟨rfl, (Option.some.inj h).symm⟩⟩
    | 1, h => exact ⟨0, r, ui, rfl, rfl, .inr (.inl ⟨rfl, (Option.some.inj h).symm⟩)⟩
    | 2, h => exact ⟨0, r, ui, rfl, rfl, .inr (.inr (.inl ⟨rfl, (Option.some.inj h).symm⟩))⟩
    | 3, h => exact ⟨0, r, ui, rfl, rfl, .inr (.inr (.inr ⟨rfl, (Option.some.inj h).symm⟩))⟩
    | j + 4, h =>
      have h : (flatR rs us)[j]? = some u := h
      obtain ⟨i, r', ui', h1, h2, h3⟩ := flatR_cases rs us j u (by simpa using hl) h
      refine ⟨i + 1, r', ui', h1, h2, ?_⟩
      rcases h3 with ⟨e, h⟩ | ⟨e, h⟩ | ⟨e, h⟩ | ⟨e, h⟩
      · exact .inl ⟨by omega, h⟩
      · exact .inr (.inl ⟨by omega, h⟩)
      · exact .inr (.inr (.inl ⟨by omega, h⟩))
      · exact .inr (.inr (.inr ⟨by omega, h⟩))
theorem flatR_length : ∀ (rs : List PRule) (us : List Value), us.length = rs.length → (flatR rs us).length = rs.length * 4
  | [], us, _ => rfl
  | r :: rs, [], hl => by simp at hl
  | r :: rs, u :: us, hl => by
    have := flatR_length rs us (by simpa using hl)
    show (ruleC r u ++ flatR rs us).length = _
    rw [List.length_append, this, List.length_cons]
    show 4 + _ = _
    omega
/-- The slices of conditions of rules. -/
def USat (N : Nat) (W : World) (rs : List PRule) (us : List Value) : Prop := us.length = rs.length ∧ ∀ (i : Nat) (r : PRule) (u : Value), rs[i]? = some r → us[i]? = some u → ∃ ua uc, u = .slice ua r.conds.length uc ∧ CondsI N W ua r.conds
theorem USat.below {N M : Nat} {W W' : World} {rs : List PRule} {us : List Value} (h : USat N W rs us) (hb : Below M W W') (hN : N ≤ M) : USat N W' rs us := ⟨h.1, fun i r u hr hu => by
  obtain ⟨ua, uc, e, hc⟩ := h.2 i r u hr hu
  exact ⟨ua, uc, e, hc.below hb hN⟩⟩
theorem USat.one {N : Nat} {W : World} {rs : List PRule} {us : List Value} (h : USat N W rs us) : ∀ u ∈ flatR rs us, u.oneCell' = true := by
  intro u hu
  obtain ⟨j, hj, e⟩ := List.mem_iff_getElem.1 hu
  obtain ⟨i, r, ui, h1, h2, h3⟩ := flatR_cases rs us j u h.1 (by rw [List.getElem?_eq_getElem hj, e])
  rcases h3 with ⟨_, rfl⟩ | ⟨_, rfl⟩ | ⟨_, rfl⟩ | ⟨_, rfl⟩
  · rfl
  · rfl
  · rfl
  · obtain ⟨ua, uc, rfl, _⟩ := h.2 i r u h1 h2
    rfl
theorem USat.snoc {N : Nat} {W : World} {rs : List PRule} {us : List Value} {r : PRule} {ua : Option Addr} {uc : Nat} (h : USat N W rs us) (hc : CondsI N W ua r.conds) : USat N W (rs ++ [r]) (us ++ [.slice ua r.conds.length uc]) := by
  refine ⟨by rw [List.length_append, List.length_append, h.1]; rfl, fun i x u hx hu => ?_⟩
  by_cases hi : i < rs.length
  · rw [List.getElem?_append_left hi] at hx
    rw [List.getElem?_append_left (by rw [h.1]; exact hi)] at hu
    exact h.2 i x u hx hu
  · rw [List.getElem?_append_right (by omega)] at hx
    rw [List.getElem?_append_right (by rw [h.1]; omega), h.1] at hu
    cases hk : i - rs.length with
    | zero =>
      rw [hk] at hx hu
      simp only [List.getElem?_cons_zero, Option.some.injEq] at hx hu
      subst hx hu
      exact ⟨ua, uc, rfl, hc⟩
    | succ k =>
      rw [hk] at hx
      simp at hx
theorem range_list {α : Type} (R : Nat → α) (n : Nat) : ∃ l : List α, l.length = n ∧ ∀ j, j < n → l[j]? = some (R j) :=
  ⟨(List.range n).map R, by simp, fun j hj => by simp [hj]⟩
theorem RulesI.us {N n c : Nat} {W : World} {a : Option Addr} {rs : List PRule} (h : RulesI N W (.slice a n c) rs) : ∃ us, USat N W rs us ∧ ∀ ad, a = some ad → ∀ j u, (flatR rs us)[j]? = some u → W.cell? (ad.add j) = some u := by
  obtain ⟨a', c', e, h⟩ := h
  obtain ⟨rfl, rfl, rfl⟩ := Value.slice.inj e
  have hx : ∀ i, i < rs.length → ∃ u : Value, ∀ r, rs[i]? = some r → ∃ g off ua uc, u = .slice ua r.conds.length uc ∧ a = some ⟨g, off, none⟩ ∧ W.cell? ⟨g, off + i * 4, none⟩ = some (.string r.name) ∧ W.cell? ⟨g, off + i * 4 + 1, none⟩ = some (.int .i64 r.k) ∧ W.cell? ⟨g, off + i * 4 + 2, none⟩ = some (.int .i64 r.n) ∧ W.cell? ⟨g, off + i * 4 + 3, none⟩ = some u ∧ CondsI N W ua r.conds := by
    intro i hi
    obtain ⟨g, off, ua, uc, e, _, h0, h1, h2, h3, h4⟩ := h i _ (List.getElem?_eq_getElem hi)
    refine ⟨.slice ua (rs[i]'hi).conds.length uc, fun r hr => ?_⟩
    rw [List.getElem?_eq_getElem hi] at hr
    obtain rfl := Option.some.inj hr
    exact ⟨g, off, ua, uc, rfl, e, h0, h1, h2, h3, h4⟩
  have hx' : ∀ i, ∃ u : Value, i < rs.length → ∀ r, rs[i]? = some r → ∃ g off ua uc, u = .slice ua r.conds.length uc ∧ a = some ⟨g, off, none⟩ ∧ W.cell? ⟨g, off + i * 4, none⟩ = some (.string r.name) ∧ W.cell? ⟨g, off + i * 4 + 1, none⟩ = some (.int .i64 r.k) ∧ W.cell? ⟨g, off + i * 4 + 2, none⟩ = some (.int .i64 r.n) ∧ W.cell? ⟨g, off + i * 4 + 3, none⟩ = some u ∧ CondsI N W ua r.conds := fun i => by
    by_cases hi : i < rs.length
    · obtain ⟨u, hu⟩ := hx i hi
      exact ⟨u, fun _ => hu⟩
    · exact ⟨.nilFunc, fun h => absurd h hi⟩
  obtain ⟨R, hR⟩ := Classical.axiomOfChoice hx'
  obtain ⟨us, hl, hu⟩ := range_list R rs.length
  have hat : ∀ i r u, rs[i]? = some r → us[i]? = some u → ∃ g off ua uc, u = .slice ua r.conds.length uc ∧ a = some ⟨g, off, none⟩ ∧ W.cell? ⟨g, off + i * 4, none⟩ = some (.string r.name) ∧ W.cell? ⟨g, off + i * 4 + 1, none⟩ = some (.int .i64 r.k) ∧ W.cell? ⟨g, off + i * 4 + 2, none⟩ = some (.int .i64 r.n) ∧ W.cell? ⟨g, off + i * 4 + 3, none⟩ = some u ∧ CondsI N W ua r.conds := by
    intro i r u hr hui
    have hi := (List.getElem?_eq_some_iff.1 hr).1
    rw [hu i hi] at hui
    obtain rfl := Option.some.inj hui
    exact hR i hi r hr
  refine ⟨us, ⟨hl, fun i r u hr hui => ?_⟩, fun ad had j u hj => ?_⟩
  · obtain ⟨_, _, ua, uc, h1, _, _, _, _, _, h2⟩ := hat i r u hr hui
    exact ⟨ua, uc, h1, h2⟩
  · obtain ⟨i, r, ui, h1, h2, h3⟩ := flatR_cases rs us j u hl hj
    obtain ⟨g, off, ua, uc, e1, e2, c0, c1, c2, c3, _⟩ := hat i r ui h1 h2
    rw [had] at e2
    obtain rfl := Option.some.inj e2
    rw [Addr.add_lit]
    rcases h3 with ⟨rfl, rfl⟩ | ⟨rfl, rfl⟩ | ⟨rfl, rfl⟩ | ⟨rfl, rfl⟩
    · exact c0
    · rw [← Nat.add_assoc]; exact c1
    · rw [← Nat.add_assoc]; exact c2
    · rw [← Nat.add_assoc]; exact c3
theorem RulesI.ofOwn {N lo t : Nat} {W : World} {v : Value} {rs : List PRule} {us : List Value} (ho : W.ownsRow lo t 4 v rs.length (flatR rs us)) (hu : USat N W rs us) (hN : N ≤ W.heap.size) : RulesI W.heap.size W v rs := by
  rcases id ho.2 with ⟨rfl, h0⟩ | ⟨g, cap, cur, rfl, _, hg, _⟩
  · obtain rfl : rs = [] := List.length_eq_zero_iff.1 h0
    exact ⟨none, 0, rfl, fun i r hr => by simp at hr⟩
  · refine ⟨_, _, rfl, fun i r hr => ?_⟩
    have hi := (List.getElem?_eq_some_iff.1 hr).1
    obtain ⟨u, hui⟩ : ∃ u, us[i]? = some u := ⟨_, List.getElem?_eq_getElem (by rw [hu.1]; exact hi)⟩
    obtain ⟨c0, c1, c2, c3⟩ := flatR_at rs us i r u hr hui
    have d0 := (ho.cellAt (i * 4) (by omega)).trans c0
    have d1 := (ho.cellAt (i * 4 + 1) (by omega)).trans c1
    have d2 := (ho.cellAt (i * 4 + 2) (by omega)).trans c2
    have d3 := (ho.cellAt (i * 4 + 3) (by omega)).trans c3
    obtain ⟨ua, uc, rfl, hc⟩ := hu.2 i r u hr hui
    refine ⟨g, 0, ua, uc, rfl, (Array.getElem?_eq_some_iff.1 hg).1, ?_, ?_, ?_, ?_, ?_⟩
    · rw [Nat.zero_add]; exact d0
    · rw [Nat.zero_add]; exact d1
    · rw [Nat.zero_add]; exact d2
    · rw [Nat.zero_add]; exact d3
    · intro k c hk
      obtain ⟨gu, off, e, hl, rest⟩ := hc k c hk
      exact ⟨gu, off, e, Nat.lt_of_lt_of_le hl hN, rest⟩
/-- A slice's form: none, or behind an address. -/
def SForm (a : Option Addr) (n c : Nat) : Prop := (a = none ∧ n = 0 ∧ c = 0) ∨ (∃ ad, a = some ad ∧ n ≤ c)
theorem grown_refl (W : World) (row : Option Nat) : W.grownBy W row := ⟨rfl, rfl, rfl, Nat.le_refl _, fun _ _ _ => rfl⟩
theorem wp_append_any {P : Program} (w : World) {o : Oper} {a : Act} {K : Act → World → Prop} {Q : Exit → Act → World → Prop} (s x : Operand) (t : TypeId)
    (ho : o.op = .call { callee := .builtin .append, args := #[s, x], argTypes := #[t, t] })
    (base : Nat) (e : TypeId) (i : TypeInfo) (z : Value) (size bytes : Nat) (ht : P.underlying t = some (.slice e)) (hi : P.info? e = some i) (hz : i.zero = some z)
    (hsize : i.size = size) (hby : i.bytes = bytes) (hzs : z.cells.size = size) (hsz : 0 < size)
    (v : Value) (n : Nat) (xs : List Value) (hs : a.eval s = v) (hown : w.ownsRow base e size v n xs)
    (pa : Option Addr) (m c : Nat) (news : List Value) (hx : a.eval x = .slice pa m c) (hf : SForm pa m c) (hl : news.length = m * size) (hnews : ∀ ad, pa = some ad → ∀ j u, news[j]? = some u → w.cell? (ad.add j) = some u) (h1 : ∀ u ∈ news, u.oneCell' = true)
    (h63 : n + m ≤ maxLen) (hbytes : (n + m) * bytes ≤ 140737488355328) (hbase : base ≤ w.heap.size)
    (h : ∀ v' w', w'.ownsRow base e size v' (n + m) (xs ++ news) → w.grownBy w' v.ownBlock → K (a.put o.dst v') w') : Oper.wp P o a w K Q := by
  rcases hf with ⟨rfl, rfl, rfl⟩ | ⟨ad, rfl, _⟩
  · have hr := run_append_owned_none (P := P) w base t o.type e i size ht hi v n xs hown
    unfold Oper.wp execOp
    simp only [ho, resolve, invoke, builtin, Sem.run_bind, Sem.run_pure, Result.andThen_ok, List.map_toArray, List.map_cons, List.map_nil, hs, hx, hr]
    have hnil : news = [] := List.length_eq_zero_iff.1 (by rw [hl, Nat.zero_mul])
    subst hnil
    refine h v w ?_ (grown_refl w _)
    rw [List.append_nil]
    exact hown
  · exact wp_append_at w s x t ho base e i z size bytes ht hi hz hsize hby hzs hsz v n xs hs hown ad m c news hx hl (hnews ad rfl) h1 h63 hbytes hbase h

/-! ### A rule more, plain -/
def plusR (p : PSt) (r : PRule) : PSt := ⟨p.k, p.n, p.x, p.rules ++ [r]⟩
theorem plus_ok {p : PSt} {r : PRule} (hp : polOk p = true) (hr : ruleOk r = true) (hl : p.rules.length ≤ 40) : polOk (plusR p r) = true := by
  obtain ⟨h1, h2, h3⟩ := polOk_parts hp
  unfold polOk plusR
  dsimp only
  rw [h1, decide_eq_true (show (p.rules ++ [r]).length ≤ 500 by rw [List.length_append, List.length_singleton]; omega), List.all_append, List.all_eq_true.2 h3]
  simp [hr]
theorem plus_text (p : PSt) (r : PRule) : polTx (plusR p r) = polTx p ++ ruleTx r := by
  rw [polTx_eq, polTx_eq, List.append_assoc]
  congr 1
  show rulesTx (p.rules ++ [r]) = rulesTx p.rules ++ ruleTx r
  unfold rulesTx
  rw [List.flatMap_append]
  simp
theorem one_text (p : PSt) (r : PRule) : polTx ⟨p.k, p.n, p.x, [r]⟩ = headTx p.k p.n p.x ++ ruleTx r := by
  rw [polTx_eq]
  congr 1
  simp [rulesTx]
theorem none_text (p : PSt) : polTx ⟨p.k, p.n, p.x, []⟩ = headTx p.k p.n p.x := by
  rw [polTx_eq]
  simp [rulesTx]
end Go.Proofs.YtmjipkdejggbfaaGreatDoor
