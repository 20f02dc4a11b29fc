/- policy.Same: are two policies the same? -/
import Derived.Test.YtmjipkdejggbfaaGreatDoorQPolEq
namespace Go.Proofs.YtmjipkdejggbfaaGreatDoor
open Go Go.Proofs Go.RowKit

def RSl (N : Nat) (W : World) (v : Value) (r : PRule) : Prop := ∃ ua uc, v = .agg #[.string r.name, .int .i64 r.k, .int .i64 r.n, .slice ua r.conds.length uc] ∧ CondsAt N W ua r.conds
theorem eqPost.mono {P Q : Prop} {w w1 w' : World} {e : Ending} (h : eqPost P w1 e w') (hq : P ↔ Q) (hb : Below w.heap.size w w1) : eqPost Q w e w' := by
  obtain ⟨b, h1, h2, h3⟩ := h
  exact ⟨b, h1, h2.trans hq, hb.trans (h3.mono hb.size)⟩
theorem eqAct {k n k2 n2 : Int} (h : ¬ (k = k2 ∧ n = n2)) (w : World) : (Go.binOp .eql 23 (.agg #[.int .i64 k, .int .i64 n]) (.agg #[.int .i64 k2, .int .i64 n2])).run Tryz.prog w = .ok (.bool false) w := by
  simp [go_sem]
  intro h1 h2
  exact h ⟨h1, h2⟩
set_option maxRecDepth 100000 in
set_option maxHeartbeats 8000000 in
theorem ruleSame_any {N : Nat} {v1 v2 : Value} {r s : PRule} (hl : r.conds.length ≤ 1000000) (w : World) (h1 : RSl N w v1 r) (h2 : RSl N w v2 s) (hN : N ≤ w.heap.size) :
    Calls Tryz.prog 25 #[v1, v2] w (eqPost (r = s) w) := by
  obtain ⟨nm, k, n, cs⟩ := r
  obtain ⟨nm2, k2, n2, ds⟩ := s
  obtain ⟨a1, c1, rfl, hc1⟩ := h1
  obtain ⟨a2, c2, rfl, hc2⟩ := h2
  dsimp only at hl hc1 hc2 ⊢
  have hb : Below w.heap.size w ((w.alloc (.cells #[.string nm, .int .i64 k, .int .i64 n, .slice a1 cs.length c1] TRl)).alloc (.cells #[.string nm2, .int .i64 k2, .int .i64 n2, .slice a2 ds.length c2] TRl)) := ((Below.refl _ w).alloc (Nat.le_refl _) _).alloc (by simp) _
  by_cases hn : nm = nm2
  case neg =>
    have q : (nm.toList == nm2.toList) = false := by
      have : nm.toList ≠ nm2.toList := fun e => hn (bytesT e)
      simpa using this
    have q2 : ¬ nm.toList = nm2.toList := by simpa using q
    have q3 : ¬ nm = nm2 := hn
    have HNE : Hid (¬ (⟨nm, k, n, cs⟩ : PRule) = ⟨nm2, k2, n2, ds⟩) := fun e => hn (by injection e)
    have HB := Lib.hid hb
    clear hb hc1 hc2
    go_enter Tryz.func25, Tryz.ntmps25
    go_wp2
    go_ret
    exact eq_no HNE.out HB.out
  subst hn
  by_cases ha : k = k2 ∧ n = n2
  case neg =>
    have hne := eqAct ha
    have HNE : Hid (¬ (⟨nm, k, n, cs⟩ : PRule) = ⟨nm, k2, n2, ds⟩) := fun e => ha (by injection e with _ e1 e2; exact ⟨e1, e2⟩)
    have HB := Lib.hid hb
    clear hb hc1 hc2
    go_enter Tryz.func25, Tryz.ntmps25
    go_wp2
    go_ret
    exact eq_no HNE.out HB.out
  obtain ⟨rfl, rfl⟩ := ha
  have hcall := condsEqual_any hl _ ⟨a1, c1, rfl, hc1.below hb hN⟩ ⟨a2, c2, rfl, hc2.below hb hN⟩ (Nat.le_trans hN hb.size)
  have HCALL := Lib.hid hcall
  have HIF : Hid ((cs = ds) ↔ (⟨nm, k, n, cs⟩ : PRule) = ⟨nm, k, n, ds⟩) := ⟨fun e => by rw [e], fun e => by injection e⟩
  have HB := Lib.hid hb
  clear hb hc1 hc2 hcall
  go_enter Tryz.func25, Tryz.ntmps25
  go_wp2_with fail
  refine HCALL.out.mono ?_
  intro e w' h
  obtain ⟨b, rfl, h2, h3⟩ := h
  have HE : Hid (eqPost ((⟨nm, k, n, cs⟩ : PRule) = ⟨nm, k, n, ds⟩) w (.returned (.bool b)) w') := eqPost.mono ⟨b, rfl, h2, h3⟩ HIF.out HB.out
  clear h2 h3
  cases b <;> (go_wp2; go_ret; exact HE.out)
set_option maxRecDepth 100000 in
set_option maxHeartbeats 8000000 in
theorem rulesSame_any {lo1 lo2 : Nat} {v1 v2 : Value} {rs ss : List PRule} (hl : rs.length ≤ 1000000) (hc : ∀ r ∈ rs, r.conds.length ≤ 1000000) (w : World) (h1 : RulesR TRl TCd lo1 w v1 rs) (h2 : RulesR TRl TCd lo2 w v2 ss) :
    Calls Tryz.prog 24 #[v1, v2, .func (.func 25) #[] #[]] w (eqPost (rs = ss) w) := by
  obtain ⟨a1, c1, rfl⟩ := h1.slice
  obtain ⟨a2, c2, rfl⟩ := h2.slice
  by_cases hlen : rs.length = ss.length
  · generalize hL : rs.length = L at *
    rw [← hlen]
    rw [← hlen] at h2
    have HL := Lib.hid hL
    have HD := Lib.hid hlen
    have H1 := Lib.hid h1
    have H2 := Lib.hid h2
    have HCD := Lib.hid hc
    clear hL hlen h1 h2 hc
    go_enter Tryz.func24, Tryz.ntmps24
    go_upto_region 4 with fail
    go_loopg [17] (L + 1) (fun gg iv wr => ∃ q : Nat, q ≤ L ∧ L - q < gg ∧ iv = .int .i64 (q : Int) ∧ Hid (rs.take q = ss.take q) ∧ Hid (Below w.heap.size w wr))
    case atStart => exact ⟨0, Nat.zero_le _, by omega, rfl, (by show _ = _; rfl), Below.refl _ _⟩
    case round =>
      obtain ⟨q, hqL, hgg, rfl, HT, HB⟩ := hrel
      have q0 : (0 : Int) ≤ (q : Int) := by omega
      by_cases hq : q < L
      · have hqz : (q : Int) < (L : Int) := by omega
        obtain ⟨r, hr⟩ : ∃ r, rs[q]? = some r := ⟨_, List.getElem?_eq_getElem (by rw [HL.out]; exact hq)⟩
        obtain ⟨s, hs⟩ : ∃ s, ss[q]? = some s := ⟨_, List.getElem?_eq_getElem (by rw [← HD.out]; exact hq)⟩
        obtain ⟨g1, ua1, uc1, rfl, hg1, y0, y1, y2, y3, hC1⟩ := rules_at H1.out hr
        obtain ⟨g2, ua2, uc2, rfl, hg2, z0, z1, z2, z3, hC2⟩ := rules_at H2.out hs
        have ce : ∀ g j v, g < w.heap.size → w.cell? ⟨g, j, none⟩ = some v → wr.cell? ⟨g, j, none⟩ = some v := fun g j v hg hv => (HB.out.cell (p := ⟨g, j, none⟩) hg).trans hv
        have y0 := ce _ _ _ hg1 y0
        have y1 := ce _ _ _ hg1 y1
        have y2 := ce _ _ _ hg1 y2
        have y3 := ce _ _ _ hg1 y3
        have hA8 : Below wr.heap.size wr (wr.alloc (.cells #[.string r.name, .int .i64 r.k, .int .i64 r.n, .slice ua1 r.conds.length uc1] TRl)) := (Below.refl _ wr).alloc (Nat.le_refl _) _
        have hwr : w.heap.size ≤ wr.heap.size := HB.out.size
        have ce2 : ∀ g j v, g < w.heap.size → w.cell? ⟨g, j, none⟩ = some v → (wr.alloc (.cells #[.string r.name, .int .i64 r.k, .int .i64 r.n, .slice ua1 r.conds.length uc1] TRl)).cell? ⟨g, j, none⟩ = some v := fun g j v hg hv => (hA8.cell (p := ⟨g, j, none⟩) (by show g < wr.heap.size; omega)).trans (ce g j v hg hv)
        have z0 := ce2 _ _ _ hg2 z0
        have z1 := ce2 _ _ _ hg2 z1
        have z2 := ce2 _ _ _ hg2 z2
        have z3 := ce2 _ _ _ hg2 z3
        have hR8 := Blk.new wr TRl #[.string r.name, .int .i64 r.k, .int .i64 r.n, .slice ua1 r.conds.length uc1]
        have HB8 := Lib.hid (HB.out.trans (hA8.mono hwr))
        clear ce ce2 hA8
        go_upto_region 6 with fail
        generalize hw8 : wr.alloc (.cells #[.string r.name, .int .i64 r.k, .int .i64 r.n, .slice ua1 r.conds.length uc1] TRl) = w8 at *
        generalize wr.heap.size = B8 at *
        clear hw8 y0 y1 y2 y3
        have HR9 := Lib.hid (hR8.alloc (.cells #[.string s.name, .int .i64 s.k, .int .i64 s.n, .slice ua2 s.conds.length uc2] TRl))
        have HS9 := Lib.hid (Blk.new w8 TRl #[.string s.name, .int .i64 s.k, .int .i64 s.n, .slice ua2 s.conds.length uc2])
        have HB9 := Lib.hid (HB8.out.alloc HB8.out.size (.cells #[.string s.name, .int .i64 s.k, .int .i64 s.n, .slice ua2 s.conds.length uc2] TRl))
        clear hR8
        go_upto_region 7 with fail
        generalize w8.alloc (.cells #[.string s.name, .int .i64 s.k, .int .i64 s.n, .slice ua2 s.conds.length uc2] TRl) = w9 at *
        generalize w8.heap.size = B9 at *
        have r0 := HR9.out.cell 0
        have r1 := HR9.out.cell 1
        have r2 := HR9.out.cell 2
        have r3 := HR9.out.cell 3
        have s0 := HS9.out.cell 0
        have s1 := HS9.out.cell 1
        have s2 := HS9.out.cell 2
        have s3 := HS9.out.cell 3
        simp only [List.getElem?_toArray, List.getElem?_cons_zero, List.getElem?_cons_succ] at r0 r1 r2 r3 s0 s1 s2 s3
        have HCA := Lib.hid (ruleSame_any (N := w.heap.size) (r := r) (s := s) (HCD.out r (List.mem_of_getElem? hr)) w9 ⟨ua1, uc1, rfl, hC1.below HB9.out (Nat.le_refl _)⟩ ⟨ua2, uc2, rfl, hC2.below HB9.out (Nat.le_refl _)⟩ HB9.out.size)
        have HT2 : Hid (r = s → rs.take (q + 1) = ss.take (q + 1)) := fun e => by rw [take_snoc hr, take_snoc hs, HT.out, e]
        have HNE : Hid (¬ r = s → ¬ rs = ss) := fun hne e => by rw [e, hs] at hr; exact hne (Option.some.inj hr).symm
        clear hC1 hC2 hr hs z0 z1 z2 z3
        go_wp2_with fail
        refine HCA.out.mono ?_
        rintro e w' ⟨b, rfl, hbi, hb2⟩
        have HBn := belP HB9 hb2
        have HBI := Lib.hid hbi
        clear hb2 hbi r0 r1 r2 r3 s0 s1 s2 s3
        cases b with
        | true =>
          have HT3 := Lib.hid (HT2.out (HBI.out.1 rfl))
          go_wp2
          go_roundg (L - q)
          case measure => omega
          case rel => exact ⟨q + 1, by omega, by omega, by go_num, HT3, HBn⟩
        | false =>
          have HNN := Lib.hid (HNE.out (fun e => Bool.false_ne_true (HBI.out.2 e)))
          go_wp2
          go_ret
          exact eq_no HNN.out HBn.out
      · obtain rfl : L = q := by omega
        have hqz : ¬ (L : Int) < (L : Int) := by omega
        have HEQ : Hid (rs = ss) := by
          have h := HT.out
          rwa [List.take_of_length_le (by rw [HL.out]; exact Nat.le_refl _), List.take_of_length_le (by rw [← HD.out]; exact Nat.le_refl _)] at h
        go_wp2
        go_ret
        exact eq_yes HEQ.out HB.out
  · have hb : ((rs.length : Int) != (ss.length : Int)) = true := by simp; omega
    have hz : ¬ (rs.length : Int) = (ss.length : Int) := by omega
    have HNE : Hid (¬ rs = ss) := fun e => hlen (by rw [e])
    clear h1 h2 hc
    go_enter Tryz.func24, Tryz.ntmps24
    go_wp2
    go_ret
    exact eq_no HNE.out (Below.refl _ _)
end Go.Proofs.YtmjipkdejggbfaaGreatDoor
