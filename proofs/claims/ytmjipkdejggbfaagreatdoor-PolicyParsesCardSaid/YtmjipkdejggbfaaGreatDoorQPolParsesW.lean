/- strainerlaw14.PolicyParses: the walk. -/
import Derived.Test.YtmjipkdejggbfaaGreatDoorQPolAwake
namespace Go.Proofs.YtmjipkdejggbfaaGreatDoor
open Go Go.Proofs Go.RowKit

theorem condsGo_many : ∀ (N : Nat) (ws : List ByteArray) (acc cs : List PCond), ws.length ≤ N → acc.length ≤ 6 → condsGo acc ws = .inr cs → cs.length ≤ 6
  | N, [], acc, cs, _, ha, h => by rw [condsGo_nil] at h; cases h; exact ha
  | 0, w0 :: r, acc, cs, hN, _, h => by simp at hN
  | N + 1, w0 :: r, acc, cs, hN, ha, h => by
    cases hs : condsStep acc w0 r with
    | inl e => rw [condsGo_err hs] at h; cases h
    | inr p =>
      obtain ⟨acc', ws'⟩ := p
      rw [condsGo_step hs] at h
      unfold condsStep at hs
      split at hs
      · cases hs
      · split at hs
        · cases hs
        · split at hs
          · cases hs
          · cases hs
            refine condsGo_many N _ _ cs ?_ ?_ h
            · rw [List.length_drop]
              simp only [List.length_cons] at hN
              omega
            · rw [List.length_append, List.length_singleton]; omega
theorem pLine_conds {cnt : Nat} {st st' : PSt} {w0 : ByteArray} {r : List ByteArray} (h : pLine cnt st w0 r = .inr st') (hl : ∀ x ∈ st.rules, x.conds.length ≤ 6) : ∀ x ∈ st'.rules, x.conds.length ≤ 6 := by
  unfold pLine at h
  split at h
  · split at h
    · cases h
    · split at h
      · cases h
      · split at h
        · cases h
        · cases h; exact hl
  · split at h
    · unfold pX32 at h
      split at h
      · split at h
        · cases h; exact hl
        · cases h
      · cases h
    · split at h
      · cases h
      · cases hr : ruleGo st.rules.length w0 r with
        | inl e => rw [hr] at h; cases h
        | inr x =>
          rw [hr] at h
          cases h
          intro y hy
          rcases List.mem_append.1 hy with hy | hy
          · exact hl y hy
          · simp at hy
            subst hy
            unfold ruleGo at hr
            split at hr
            · cases hr
            · split at hr
              · cases hr
              · split at hr
                · cases hr
                · cases hc : condsGo [] (r.drop (ActP.readAns r).2.2.1.toNat) with
                  | inl e => rw [hc] at hr; cases hr
                  | inr cs => rw [hc] at hr; cases hr; exact condsGo_many _ _ _ _ (Nat.le_refl _) (by simp) hc
theorem pLines_fit : ∀ (ls : List Ln) (cnt : Nat) (st : PSt), st.rules.length ≤ 500 → (∀ x ∈ st.rules, x.conds.length ≤ 6) → (pLines cnt st ls).1.rules.length ≤ 500 ∧ ∀ x ∈ (pLines cnt st ls).1.rules, x.conds.length ≤ 6
  | [], cnt, st, h1, h2 => ⟨h1, h2⟩
  | (n, []) :: l, cnt, st, h1, h2 => ⟨Nat.zero_le _, fun x hx => by cases hx⟩
  | (n, w0 :: r) :: l, cnt, st, h1, h2 => by
    show (match pLine cnt st w0 r with | .inl e => (PSt.zero, (n : Int), e) | .inr st' => pLines (cnt + 1) st' l).1.rules.length ≤ 500 ∧ ∀ x ∈ (match pLine cnt st w0 r with | .inl e => (PSt.zero, (n : Int), e) | .inr st' => pLines (cnt + 1) st' l).1.rules, x.conds.length ≤ 6
    cases hp : pLine cnt st w0 r with
    | inl e => exact ⟨Nat.zero_le _, fun x hx => by cases hx⟩
    | inr st' => exact pLines_fit l (cnt + 1) st' (pLine_many hp h1) (pLine_conds hp h2)
theorem polAns_fit (t : ByteArray) : (polAns t).1.rules.length ≤ 500 ∧ ∀ x ∈ (polAns t).1.rules, x.conds.length ≤ 6 := by
  unfold polAns
  split
  · exact ⟨Nat.zero_le _, fun x hx => by cases hx⟩
  · split
    · exact ⟨Nat.zero_le _, fun x hx => by cases hx⟩
    · exact pLines_fit _ _ _ (Nat.zero_le _) (fun x hx => by cases hx)
set_option maxRecDepth 100000 in
set_option maxHeartbeats 4000000 in
theorem polparses_law (t : ByteArray) (w : World) (hE : CondP.ErrV w) : Calls Tryz.prog 3 #[.string t] w fun e w' => e = .returned (.bool true) ∧ Below w.heap.size w w' := by
  by_cases ht : 3000 < t.size
  · have hz : (3000 : Int) < (t.size : Int) := by omega
    go_enter Tryz.func3, Tryz.ntmps3
    go_wp2
    go_ret
    exact ⟨rfl, Below.refl _ _⟩
  have hz : ¬ (3000 : Int) < (t.size : Int) := by omega
  obtain ⟨hf1, hf2⟩ := polAns_fit t
  have hpp := fun W hW => parse_any t W hW
  have hrr := fun W => rparse_any t (by omega) W
  obtain ⟨⟨⟨pk, pn, px, rs⟩, an, ae⟩, hans⟩ : ∃ a, polAns t = a := ⟨_, rfl⟩
  rw [hans] at hpp hrr hf1 hf2
  obtain ⟨L, hL⟩ : ∃ L, rs.length = L := ⟨_, rfl⟩
  have HP : Hid (∀ W, CondP.ErrV W → Calls Tryz.prog 9 #[.string t] W fun e w' => ∃ a c, e = .returned (.tuple #[.agg #[.int .i64 pk, .int .i64 pn, .bool px, .slice a L c], .int .i64 an, .int .i64 ae]) ∧ RulesR TRl TCd W.heap.size w' (.slice a L c) rs ∧ Below W.heap.size W w') := fun W hW => by
    refine (hpp W hW).mono ?_
    rintro e w' ⟨v, rfl, h, hb⟩
    obtain ⟨a, c, rfl⟩ := h.slice
    rw [← hL]
    exact ⟨a, c, rfl, h, hb⟩
  have HR : Hid (∀ W, Calls Tryz.prog 10 #[.string t] W fun e w' => ∃ a c, e = .returned (.tuple #[.agg #[.int .i64 pk, .int .i64 pn, .bool px, .slice a L c], .int .i64 an, .int .i64 ae]) ∧ RulesR TRr TCr W.heap.size w' (.slice a L c) rs ∧ Below W.heap.size W w') := fun W => by
    refine (hrr W).mono ?_
    rintro e w' ⟨v, rfl, h, hb⟩
    obtain ⟨a, c, rfl⟩ := h.slice
    rw [← hL]
    exact ⟨a, c, rfl, h, hb⟩
  have HF : Hid (∀ r ∈ rs, r.conds.length ≤ 1000000) := fun r hr => Nat.le_trans (hf2 r hr) (by decide)
  have HE := Lib.hid hE
  have hf1 : rs.length ≤ 500 := hf1
  have HAW := Lib.hid (fun W hW => awake14_any W hW)
  clear hans hE hf2 hpp hrr hL
  go_enter Tryz.func3, Tryz.ntmps3
  go_wp2_with fail
  refine (HP.out _ HE.out).mono ?_
  rintro e w1 ⟨a1, c1, rfl, h1, hb1⟩
  have HB1 := Lib.hid (hb1.alloc hb1.size (.cells #[.int .i64 pk, .int .i64 pn, .bool px, .slice a1 L c1] TPl))
  have H1 := Lib.hid (h1.up (.cells #[.int .i64 pk, .int .i64 pn, .bool px, .slice a1 L c1] TPl))
  have HX1 := Lib.hid (Blk.new w1 TPl #[.int .i64 pk, .int .i64 pn, .bool px, .slice a1 L c1])
  clear h1 hb1 HP
  go_upto_region 4 with fail
  generalize w1.alloc (.cells #[.int .i64 pk, .int .i64 pn, .bool px, .slice a1 L c1] TPl) = w2 at *
  generalize w1.heap.size = XB at *
  go_wp2_with fail
  refine (HR.out _).mono ?_
  rintro e w3 ⟨a2, c2, rfl, h2, hb2⟩
  have HB2 := Lib.hid ((belP HB1 hb2).out.alloc (belP HB1 hb2).out.size (.cells #[.int .i64 pk, .int .i64 pn, .bool px, .slice a2 L c2] TPr))
  have H1b := Lib.hid ((H1.out.below hb2).up (.cells #[.int .i64 pk, .int .i64 pn, .bool px, .slice a2 L c2] TPr))
  have HX1b := Lib.hid ((blkHP HX1 hb2).out.alloc (.cells #[.int .i64 pk, .int .i64 pn, .bool px, .slice a2 L c2] TPr))
  have H2 := Lib.hid (h2.up (.cells #[.int .i64 pk, .int .i64 pn, .bool px, .slice a2 L c2] TPr))
  have HX2 := Lib.hid (Blk.new w3 TPr #[.int .i64 pk, .int .i64 pn, .bool px, .slice a2 L c2])
  clear h2 hb2 HR H1 HX1 HB1
  go_upto_region 5 with fail
  generalize w3.alloc (.cells #[.int .i64 pk, .int .i64 pn, .bool px, .slice a2 L c2] TPr) = w4 at *
  generalize w3.heap.size = YB at *
  have x0 := HX1b.out.cell 0
  have x1 := HX1b.out.cell 1
  have x2 := HX1b.out.cell 2
  have x3 := HX1b.out.cell 3
  have y0 := HX2.out.cell 0
  have y1 := HX2.out.cell 1
  have y2 := HX2.out.cell 2
  have y3 := HX2.out.cell 3
  simp only [List.getElem?_toArray, List.getElem?_cons_zero, List.getElem?_cons_succ] at x0 x1 x2 x3 y0 y1 y2 y3
  go_wp2_with fail
  refine (told14_same (k := pk) (n := pn) (x := px) hf1 HF.out _ H1b.out H2.out).mono ?_
  rintro e w5 ⟨rfl, hb5⟩
  have HB5 := belP HB2 hb5
  clear hb5 x0 x1 x2 x3 y0 y1 y2 y3
  go_wp2_with fail
  refine (HAW.out _ (HE.out.below HB5.out)).mono ?_
  rintro e w6 ⟨rfl, hb6⟩
  have HB6 := belP HB5 hb6
  clear hb6
  go_wp2
  go_ret
  exact ⟨rfl, HB6.out⟩
end Go.Proofs.YtmjipkdejggbfaaGreatDoor
