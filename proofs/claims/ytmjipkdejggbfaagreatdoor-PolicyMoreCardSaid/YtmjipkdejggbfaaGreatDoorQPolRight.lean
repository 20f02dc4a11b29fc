/- policy.Right: may a policy be? -/
import Derived.Test.YtmjipkdejggbfaaGreatDoorQPolTextP
import Derived.Test.YtmjipkdejggbfaaGreatDoorQPolOf
namespace Go.Proofs.YtmjipkdejggbfaaGreatDoor
open Go Go.Proofs Go.RowKit

/-- An index that is none just if all are right. -/
def idxPost (b : Bool) (w : World) (e : Ending) (w' : World) : Prop := ∃ z : Int, e = .returned (.int .i64 z) ∧ (decide (0 ≤ z) = !b) ∧ Below w.heap.size w w'
theorem all_take {α : Type} {p : α → Bool} {l : List α} {q : Nat} {x : α} (h : (l.take q).all p = true) (hx : l[q]? = some x) (hp : p x = true) : (l.take (q + 1)).all p = true := by
  rw [List.take_add_one, hx, List.all_append, h]
  simp [hp]
theorem all_not {α : Type} {p : α → Bool} {l : List α} {q : Nat} {x : α} (hx : l[q]? = some x) (hp : p x = false) : l.all p = false := by
  rw [List.all_eq_false]
  exact ⟨x, List.mem_of_getElem? hx, by rw [hp]; decide⟩
set_option maxRecDepth 100000 in
set_option maxHeartbeats 4000000 in
theorem condWrong_any (c : PCond) (w : World) :
    Calls Tryz.prog 60 #[.agg #[.int .i64 c.a, .int .i64 c.o, .int .u64 c.m, .int .u64 c.v]] w fun e w' => e = .returned (.bool (!condOk c)) ∧ Below w.heap.size w w' := by
  have Hc := Lib.hid (fun W => CondP.right_any c.a c.o c.m c.v W)
  unfold condOk
  go_enter Tryz.func60, Tryz.ntmps60
  go_wp2_with (go_at_call 61; refine (Hc.out _).mono ?_; rintro e w1 ⟨rfl, hb1⟩)
  go_ret
  exact ⟨rfl, ((Below.refl _ w).alloc (Nat.le_refl _) _).trans (hb1.mono (by simp))⟩
set_option maxRecDepth 100000 in
set_option maxHeartbeats 4000000 in
theorem condsIdx_any {N : Nat} {ua : Option Addr} {uc : Nat} {cs : List PCond} (hl : cs.length ≤ 1000000) (w : World) (hN : N ≤ w.heap.size) (h : CondsAt N w ua cs) :
    Calls Tryz.prog 78 #[.slice ua cs.length uc, .func (.func 60) #[] #[]] w (idxPost (cs.all condOk) w) := by
  obtain ⟨L, hL⟩ : ∃ L, cs.length = L := ⟨_, rfl⟩
  rw [hL] at hl ⊢
  have HL := Lib.hid hL
  have HC := Lib.hid h
  have HN := Lib.hid hN
  clear h hL hN
  go_enter Tryz.func78, Tryz.ntmps78
  go_upto_region 2 with fail
  go_loopg [5, 8] (L + 1) (fun gg _ iv wr => ∃ q : Nat, q ≤ L ∧ L - q < gg ∧ iv = .int .i64 (q : Int) ∧ Hid ((cs.take q).all condOk = true) ∧ Hid (Below w.heap.size w wr))
  case atStart => exact ⟨0, Nat.zero_le _, by omega, rfl, (by show _ = _; rfl), Below.refl _ _⟩
  case round =>
    obtain ⟨q, hqL, hgg, rfl, HT, HB⟩ := hrel
    have q0 : (0 : Int) ≤ (q : Int) := by omega
    by_cases hq : q < L
    · have hqz : (q : Int) < (L : Int) := by omega
      obtain ⟨c, hc⟩ : ∃ c, cs[q]? = some c := ⟨_, List.getElem?_eq_getElem (by rw [HL.out]; exact hq)⟩
      obtain ⟨gu, rfl, hgu, y0, y1, y2, y3⟩ := HC.out q c hc
      have hgu' : gu < w.heap.size := Nat.lt_of_lt_of_le hgu HN.out
      have ce : ∀ j v, w.cell? ⟨gu, j, none⟩ = some v → wr.cell? ⟨gu, j, none⟩ = some v := fun j v hv => (HB.out.cell (p := ⟨gu, j, none⟩) hgu').trans hv
      have y0 := ce _ _ y0
      have y1 := ce _ _ y1
      have y2 := ce _ _ y2
      have y3 := ce _ _ y3
      have HCA := Lib.hid (condWrong_any c wr)
      cases hok : condOk c with
      | true =>
        have HT2 := Lib.hid (all_take HT.out hc hok)
        rw [hok] at HCA
        clear ce hc hok
        go_wp2_with fail
        refine HCA.out.mono ?_
        rintro e w1 ⟨rfl, hb1⟩
        have HB1 := belP HB hb1
        clear hb1 y0 y1 y2 y3
        go_wp2
        go_roundg (L - q)
        case measure => omega
        case rel => exact ⟨q + 1, by omega, by omega, by go_num, HT2, HB1⟩
      | false =>
        have HF := Lib.hid (all_not hc hok)
        rw [hok] at HCA
        clear ce hc hok
        go_wp2_with fail
        refine HCA.out.mono ?_
        rintro e w1 ⟨rfl, hb1⟩
        have HB1 := belP HB hb1
        clear hb1 y0 y1 y2 y3
        go_wp2
        go_ret
        exact ⟨_, rfl, by rw [HF.out]; exact decide_eq_true q0, HB1.out⟩
    · obtain rfl : L = q := by omega
      have hqz : ¬ (L : Int) < (L : Int) := by omega
      have HALL : Hid (cs.all condOk = true) := by
        have h := HT.out
        rwa [List.take_of_length_le (by rw [HL.out]; exact Nat.le_refl _)] at h
      go_wp2
      go_ret
      exact ⟨_, rfl, by rw [HALL.out]; decide, HB.out⟩
set_option maxRecDepth 100000 in
set_option maxHeartbeats 4000000 in
theorem condsHas_any {N : Nat} {ua : Option Addr} {uc : Nat} {cs : List PCond} (hl : cs.length ≤ 1000000) (w : World) (hN : N ≤ w.heap.size) (h : CondsAt N w ua cs) :
    Calls Tryz.prog 59 #[.slice ua cs.length uc, .func (.func 60) #[] #[]] w fun e w' => e = .returned (.bool (!cs.all condOk)) ∧ Below w.heap.size w w' := by
  have HI := Lib.hid (condsIdx_any (uc := uc) hl w hN h)
  generalize cs.all condOk = b at *
  generalize cs.length = L at *
  clear h hN
  go_enter Tryz.func59, Tryz.ntmps59
  go_wp2_with fail
  refine HI.out.mono ?_
  rintro e w1 ⟨z, rfl, hz, hb1⟩
  have HB1 := Lib.hid hb1
  have hz : decide ((0 : Int) ≤ z) = !b := hz
  have HZ := Lib.hid hz
  clear hb1 HI
  go_wp2
  go_ret
  exact ⟨by first | rw [HZ.out] | rw [← HZ.out]; simp, HB1.out⟩
theorem and_true (b : Bool) : (b && true) = b := by cases b <;> rfl
set_option maxRecDepth 100000 in
set_option maxHeartbeats 8000000 in
theorem ruleRight_any {N : Nat} {r : PRule} {ua : Option Addr} {uc : Nat} (hs : r.name.size ≤ 1000000) (hl : r.conds.length ≤ 1000000) (w : World) (hN : N ≤ w.heap.size) (h : CondsAt N w ua r.conds) :
    Calls Tryz.prog 35 #[.agg #[.string r.name, .int .i64 r.k, .int .i64 r.n, .slice ua r.conds.length uc]] w fun e w' => e = .returned (.bool (ruleOk r)) ∧ Below w.heap.size w w' := by
  obtain ⟨nm, k, n, cs⟩ := r
  dsimp only at hs hl h ⊢
  unfold ruleOk
  dsimp only
  have HNM := Lib.hid (fun W => pnamed_any nm hs W)
  have HAC := Lib.hid (fun W => ActP.right_any k n W)
  have HCS := Lib.hid (fun W (hb : Below w.heap.size w W) => condsHas_any (N := N) (uc := uc) hl W (Nat.le_trans hN hb.size) (h.below hb hN))
  generalize hA : cs.all condOk = ba at *
  generalize cs.length = L at *
  have hX := Blk.new w TRl #[.string nm, .int .i64 k, .int .i64 n, .slice ua L uc]
  have HX := Lib.hid hX
  have HB := Lib.hid ((Below.refl w.heap.size w).alloc (Nat.le_refl _) (.cells #[.string nm, .int .i64 k, .int .i64 n, .slice ua L uc] TRl))
  clear h hN hX hA hs
  cases hnm : nameB nm with
  | false =>
    rw [hnm] at HNM
    clear hnm
    go_enter Tryz.func35, Tryz.ntmps35
    go_wp2_with (go_at_call 58; refine (HNM.out _).mono ?_; rintro e w1 ⟨rfl, hb1⟩)
    go_ret
    exact ⟨rfl, (belP HB hb1).out⟩
  | true =>
    rw [hnm] at HNM
    clear hnm
    cases hac : ActP.actRight k n with
    | false =>
      rw [hac] at HAC
      clear hac
      go_enter Tryz.func35, Tryz.ntmps35
      go_wp2_with fail
      refine (HNM.out _).mono ?_
      rintro e w1 ⟨rfl, hb1⟩
      have HX1 := blkHP HX hb1
      have HB1 := belP HB hb1
      have a1 := HX1.out.cell 1
      have a2 := HX1.out.cell 2
      simp only [List.getElem?_toArray, List.getElem?_cons_zero, List.getElem?_cons_succ] at a1 a2
      clear hb1 HX HB
      go_wp2_with (go_at_call 32; refine (HAC.out _).mono ?_; rintro e w2 ⟨rfl, hb2⟩)
      go_ret
      exact ⟨rfl, (belP HB1 hb2).out⟩
    | true =>
      rw [hac] at HAC
      clear hac
      go_enter Tryz.func35, Tryz.ntmps35
      go_wp2_with fail
      refine (HNM.out _).mono ?_
      rintro e w1 ⟨rfl, hb1⟩
      have HX1 := blkHP HX hb1
      have HB1 := belP HB hb1
      have a1 := HX1.out.cell 1
      have a2 := HX1.out.cell 2
      simp only [List.getElem?_toArray, List.getElem?_cons_zero, List.getElem?_cons_succ] at a1 a2
      clear hb1 HX HB
      go_wp2_with fail
      refine (HAC.out _).mono ?_
      rintro e w2 ⟨rfl, hb2⟩
      have HX2 := blkHP HX1 hb2
      have HB2 := belP HB1 hb2
      have a3 := HX2.out.cell 3
      simp only [List.getElem?_toArray, List.getElem?_cons_zero, List.getElem?_cons_succ] at a3
      clear hb2 HX1 HB1 a1 a2
      by_cases h6 : L ≤ 6
      · have h6z : (L : Int) ≤ 6 := by omega
        have e6 : decide (L ≤ 6) = true := decide_eq_true h6
        have e6z : decide ((L : Int) ≤ 6) = true := decide_eq_true h6z
        go_wp2_with fail
        refine (HCS.out _ HB2.out).mono ?_
        rintro e w3 ⟨rfl, hb3⟩
        have HB3 := belP HB2 hb3
        clear hb3 HX2 HB2 a3
        go_wp2
        go_ret
        exact ⟨by rw [e6]; cases ba <;> rfl, HB3.out⟩
      · have h6z : ¬ (L : Int) ≤ 6 := by omega
        have e6 : decide (L ≤ 6) = false := decide_eq_false h6
        have e6z : decide ((L : Int) ≤ 6) = false := decide_eq_false h6z
        go_wp2
        go_ret
        exact ⟨by rw [e6]; rfl, HB2.out⟩
set_option maxRecDepth 100000 in
set_option maxHeartbeats 4000000 in
theorem ruleWrong_any {N : Nat} {r : PRule} {ua : Option Addr} {uc : Nat} (hs : r.name.size ≤ 1000000) (hl : r.conds.length ≤ 1000000) (w : World) (hN : N ≤ w.heap.size) (h : CondsAt N w ua r.conds) :
    Calls Tryz.prog 34 #[.agg #[.string r.name, .int .i64 r.k, .int .i64 r.n, .slice ua r.conds.length uc]] w fun e w' => e = .returned (.bool (!ruleOk r)) ∧ Below w.heap.size w w' := by
  have HB := Lib.hid ((Below.refl w.heap.size w).alloc (Nat.le_refl _) (.cells #[.string r.name, .int .i64 r.k, .int .i64 r.n, .slice ua r.conds.length uc] TRl))
  have HR := Lib.hid (ruleRight_any (uc := uc) hs hl _ (Nat.le_trans hN HB.out.size) (h.below HB.out hN))
  clear h hN
  generalize ruleOk r = b at *
  go_enter Tryz.func34, Tryz.ntmps34
  go_wp2_with fail
  refine HR.out.mono ?_
  rintro e w1 ⟨rfl, hb1⟩
  have HB1 := belP HB hb1
  clear hb1 HB HR
  go_wp2
  go_ret
  exact ⟨rfl, HB1.out⟩
set_option maxRecDepth 100000 in
set_option maxHeartbeats 8000000 in
theorem rulesIdx_any {lo : Nat} {v : Value} {rs : List PRule} (hl : rs.length ≤ 1000000) (hc : ∀ r ∈ rs, r.name.size ≤ 1000000 ∧ r.conds.length ≤ 1000000) (w : World) (h : RulesR TRl TCd lo w v rs) :
    Calls Tryz.prog 57 #[v, .func (.func 34) #[] #[]] w (idxPost (rs.all ruleOk) w) := by
  obtain ⟨a, c, rfl⟩ := h.slice
  obtain ⟨L, hL⟩ : ∃ L, rs.length = L := ⟨_, rfl⟩
  rw [hL] at hl h ⊢
  have HL := Lib.hid hL
  have HR := Lib.hid h
  have HCD := Lib.hid hc
  clear h hL hc
  go_enter Tryz.func57, Tryz.ntmps57
  go_upto_region 2 with fail
  go_loopg [5, 8] (L + 1) (fun gg _ iv wr => ∃ q : Nat, q ≤ L ∧ L - q < gg ∧ iv = .int .i64 (q : Int) ∧ Hid ((rs.take q).all ruleOk = true) ∧ Hid (Below w.heap.size w wr))
  case atStart => exact ⟨0, Nat.zero_le _, by omega, rfl, (by show _ = _; rfl), Below.refl _ _⟩
  case round =>
    obtain ⟨q, hqL, hgg, rfl, HT, HB⟩ := hrel
    have q0 : (0 : Int) ≤ (q : Int) := by omega
    by_cases hq : q < L
    · have hqz : (q : Int) < (L : Int) := by omega
      obtain ⟨r, hr⟩ : ∃ r, rs[q]? = some r := ⟨_, List.getElem?_eq_getElem (by rw [HL.out]; exact hq)⟩
      obtain ⟨g1, ua1, uc1, rfl, hg1, y0, y1, y2, y3, hC1⟩ := rules_at HR.out hr
      have ce : ∀ j v, w.cell? ⟨g1, j, none⟩ = some v → wr.cell? ⟨g1, j, none⟩ = some v := fun j v hv => (HB.out.cell (p := ⟨g1, j, none⟩) hg1).trans hv
      have y0 := ce _ _ y0
      have y1 := ce _ _ y1
      have y2 := ce _ _ y2
      have y3 := ce _ _ y3
      obtain ⟨hs1, hs2⟩ := HCD.out r (List.mem_of_getElem? hr)
      have HCA := Lib.hid (ruleWrong_any (N := w.heap.size) (r := r) (ua := ua1) (uc := uc1) hs1 hs2 wr HB.out.size (hC1.below HB.out (Nat.le_refl _)))
      cases hok : ruleOk r with
      | true =>
        have HT2 := Lib.hid (all_take HT.out hr hok)
        rw [hok] at HCA
        clear ce hr hok hC1 hs1 hs2
        go_wp2_with fail
        refine HCA.out.mono ?_
        rintro e w1 ⟨rfl, hb1⟩
        have HB1 := belP HB hb1
        clear hb1 y0 y1 y2 y3
        go_wp2
        go_roundg (L - q)
        case measure => omega
        case rel => exact ⟨q + 1, by omega, by omega, by go_num, HT2, HB1⟩
      | false =>
        have HF := Lib.hid (all_not hr hok)
        rw [hok] at HCA
        clear ce hr hok hC1 hs1 hs2
        go_wp2_with fail
        refine HCA.out.mono ?_
        rintro e w1 ⟨rfl, hb1⟩
        have HB1 := belP HB hb1
        clear hb1 y0 y1 y2 y3
        go_wp2
        go_ret
        exact ⟨_, rfl, by rw [HF.out]; exact decide_eq_true q0, HB1.out⟩
    · obtain rfl : L = q := by omega
      have hqz : ¬ (L : Int) < (L : Int) := by omega
      have HALL : Hid (rs.all ruleOk = true) := by
        have h := HT.out
        rwa [List.take_of_length_le (by rw [HL.out]; exact Nat.le_refl _)] at h
      go_wp2
      go_ret
      exact ⟨_, rfl, by rw [HALL.out]; decide, HB.out⟩
set_option maxRecDepth 100000 in
set_option maxHeartbeats 4000000 in
theorem rulesHas_any {lo : Nat} {v : Value} {rs : List PRule} (hl : rs.length ≤ 1000000) (hc : ∀ r ∈ rs, r.name.size ≤ 1000000 ∧ r.conds.length ≤ 1000000) (w : World) (h : RulesR TRl TCd lo w v rs) :
    Calls Tryz.prog 33 #[v, .func (.func 34) #[] #[]] w fun e w' => e = .returned (.bool (!rs.all ruleOk)) ∧ Below w.heap.size w w' := by
  have HI := Lib.hid (rulesIdx_any hl hc w h)
  obtain ⟨a, c, rfl⟩ := h.slice
  generalize rs.all ruleOk = b at *
  generalize rs.length = L at *
  clear h hc
  go_enter Tryz.func33, Tryz.ntmps33
  go_wp2_with fail
  refine HI.out.mono ?_
  rintro e w1 ⟨z, rfl, hz, hb1⟩
  have HB1 := Lib.hid hb1
  have hz : decide ((0 : Int) ≤ z) = !b := hz
  have HZ := Lib.hid hz
  clear hb1 HI
  go_wp2
  go_ret
  exact ⟨by first | rw [HZ.out] | rw [← HZ.out]; simp, HB1.out⟩
/-- What comes as a policy is not too great. -/
def Small (p : PSt) : Prop := p.rules.length ≤ 1000000 ∧ ∀ r ∈ p.rules, r.name.size ≤ 1000000 ∧ r.conds.length ≤ 1000000
set_option maxRecDepth 100000 in
set_option maxHeartbeats 8000000 in
theorem pright_any {p : PSt} {v : Value} {lo : Nat} (hs : Small p) (w : World) (h : RulesR TRl TCd lo w v p.rules) :
    Calls Tryz.prog 17 #[PolV p.k p.n p.x v] w fun e w' => e = .returned (.bool (polOk p)) ∧ Below w.heap.size w w' := by
  obtain ⟨k, n, x, rs⟩ := p
  obtain ⟨a, c, rfl⟩ := h.slice
  obtain ⟨hs1, hs2⟩ := hs
  dsimp only at hs1 hs2 h ⊢
  unfold polOk PolV
  dsimp only
  have HAC := Lib.hid (fun W => ActP.right_any k n W)
  have HCS := Lib.hid (fun W (hb : Below w.heap.size w W) => rulesHas_any hs1 hs2 W (h.below hb))
  generalize hA : rs.all ruleOk = ba at *
  generalize rs.length = L at *
  have HX := Lib.hid (Blk.new w TPl #[.int .i64 k, .int .i64 n, .bool x, .slice a L c])
  have HB := Lib.hid ((Below.refl w.heap.size w).alloc (Nat.le_refl _) (.cells #[.int .i64 k, .int .i64 n, .bool x, .slice a L c] TPl))
  clear h hA hs2
  cases hac : ActP.actRight k n with
  | false =>
    rw [hac] at HAC
    clear hac
    go_enter Tryz.func17, Tryz.ntmps17
    go_wp2_with (go_at_call 32; refine (HAC.out _).mono ?_; rintro e w2 ⟨rfl, hb2⟩)
    go_ret
    exact ⟨rfl, (belP HB hb2).out⟩
  | true =>
    rw [hac] at HAC
    clear hac
    go_enter Tryz.func17, Tryz.ntmps17
    go_wp2_with fail
    refine (HAC.out _).mono ?_
    rintro e w2 ⟨rfl, hb2⟩
    have HX2 := blkHP HX hb2
    have HB2 := belP HB hb2
    have a3 := HX2.out.cell 3
    simp only [List.getElem?_toArray, List.getElem?_cons_zero, List.getElem?_cons_succ] at a3
    clear hb2 HX HB
    by_cases h6 : L ≤ 500
    · have h6z : (L : Int) ≤ 500 := by omega
      have e6 : decide (L ≤ 500) = true := decide_eq_true h6
      have e6z : decide ((L : Int) ≤ 500) = true := decide_eq_true h6z
      go_wp2_with fail
      refine (HCS.out _ HB2.out).mono ?_
      rintro e w3 ⟨rfl, hb3⟩
      have HB3 := belP HB2 hb3
      clear hb3 HX2 HB2 a3
      go_wp2
      go_ret
      exact ⟨by rw [e6]; cases ba <;> rfl, HB3.out⟩
    · have h6z : ¬ (L : Int) ≤ 500 := by omega
      have e6 : decide (L ≤ 500) = false := decide_eq_false h6
      have e6z : decide ((L : Int) ≤ 500) = false := decide_eq_false h6z
      go_wp2
      go_ret
      exact ⟨by rw [e6]; rfl, HB2.out⟩
end Go.Proofs.YtmjipkdejggbfaaGreatDoor
