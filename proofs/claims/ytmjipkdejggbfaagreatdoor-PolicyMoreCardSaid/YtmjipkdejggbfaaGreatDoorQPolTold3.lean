/- strainerlaw14.told, whole; light. -/
import Derived.Test.YtmjipkdejggbfaaGreatDoorQPolTold2
namespace Go.Proofs.YtmjipkdejggbfaaGreatDoor
open Go Go.Proofs Go.RowKit

set_option maxRecDepth 100000 in
set_option maxHeartbeats 8000000 in
theorem told14_far {p s : PSt} {v1 v2 : Value} {lo1 N0 : Nat} (h500 : s.rules.length ≤ 500) (hcd : ∀ r ∈ s.rules, r.conds.length ≤ 1000000) (w : World) (hN0 : N0 ≤ w.heap.size) (h1 : RulesR TRl TCd lo1 w v1 p.rules) (h2 : RulesI N0 w v2 s.rules)
    (hf : ¬ ((p.k = s.k ∧ p.n = s.n) ∧ p.x = s.x ∧ p.rules.length = s.rules.length)) :
    Calls Tryz.prog 11 #[PolV p.k p.n p.x v1, PolV s.k s.n s.x v2] w (eqPost (p = s) w) := by
  have hof := fun W hW hR => ofI_any (k := s.k) (n := s.n) (x := s.x) (rs := s.rules) (vr := v2) (N0 := N0) h500 hcd W hW hR
  obtain ⟨k, n, x, rs⟩ := p
  obtain ⟨k2, n2, x2, ss⟩ := s
  dsimp only at *
  obtain ⟨a1, c1, rfl⟩ := h1.slice
  obtain ⟨a2, c2, rfl⟩ : ∃ a c, v2 = .slice a ss.length c := by obtain ⟨a, c, e, _⟩ := h2; exact ⟨a, c, e⟩
  unfold PolV at *
  have HNE : Hid (¬ (⟨k, n, x, rs⟩ : PSt) = ⟨k2, n2, x2, ss⟩) := fun e => hf (by injection e with e1 e2 e3 e4; exact ⟨⟨e1, e2⟩, e3, by rw [e4]⟩)
  generalize hL1 : rs.length = L1 at *
  generalize hL2 : ss.length = L2 at *
  have HOF := Lib.hid hof
  have HP := Lib.hid ((Blk.new w TPl #[.int .i64 k, .int .i64 n, .bool x, .slice a1 L1 c1]).alloc (.cells #[.int .i64 k2, .int .i64 n2, .bool x2, .slice a2 L2 c2] TPr))
  have H2 := Lib.hid ((h2.below ((Below.refl w.heap.size w).alloc (Nat.le_refl _) (.cells #[.int .i64 k, .int .i64 n, .bool x, .slice a1 L1 c1] TPl)) hN0).below ((Below.refl (w.alloc (.cells #[.int .i64 k, .int .i64 n, .bool x, .slice a1 L1 c1] TPl)).heap.size _).alloc (Nat.le_refl _) (.cells #[.int .i64 k2, .int .i64 n2, .bool x2, .slice a2 L2 c2] TPr)) (by simp; omega))
  have HB := Lib.hid (((Below.refl w.heap.size w).alloc (Nat.le_refl _) (.cells #[.int .i64 k, .int .i64 n, .bool x, .slice a1 L1 c1] TPl)).alloc (by simp) (.cells #[.int .i64 k2, .int .i64 n2, .bool x2, .slice a2 L2 c2] TPr))
  have HL2 := Lib.hid hL2
  clear hL1 hL2 h1 h2 hcd hof
  go_enter Tryz.func11, Tryz.ntmps11
  go_wp2_with fail
  refine (HOF.out _ (Nat.le_trans hN0 HB.out.size) H2.out).mono ?_
  rintro e w1 ⟨vo, rfl, hro, hb⟩
  obtain ⟨ao, co, rfl⟩ := hro.slice
  have HLs := HL2.out
  have HP1 : Hid (Blk (w1.alloc (.cells #[.int .i64 k2, .int .i64 n2, .bool x2, .slice ao L2 co] TPl)) w.heap.size TPl #[.int .i64 k, .int .i64 n, .bool x, .slice a1 L1 c1]) := Blk.alloc (blkHP HP hb).out _
  have HX1 : Hid (Blk (w1.alloc (.cells #[.int .i64 k2, .int .i64 n2, .bool x2, .slice ao L2 co] TPl)) w1.heap.size TPl #[.int .i64 k2, .int .i64 n2, .bool x2, .slice ao L2 co]) := Blk.new w1 _ _
  have HB1 : Hid (Below w.heap.size w (w1.alloc (.cells #[.int .i64 k2, .int .i64 n2, .bool x2, .slice ao L2 co] TPl))) := (belP HB hb).out.alloc (belP HB hb).out.size _
  clear hb hro HP HB H2 HOF
  rw [HLs]
  clear HLs
  go_upto_region 2 with fail
  generalize w1.alloc (.cells #[.int .i64 k2, .int .i64 n2, .bool x2, .slice ao L2 co] TPl) = w2 at *
  generalize w1.heap.size = XB at *
  have p0 := HP1.out.cell 0
  have p1 := HP1.out.cell 1
  have p2 := HP1.out.cell 2
  have p3 := HP1.out.cell 3
  have x0 := HX1.out.cell 0
  have x1 := HX1.out.cell 1
  have x2' := HX1.out.cell 2
  have x3 := HX1.out.cell 3
  simp only [List.getElem?_toArray, List.getElem?_cons_zero, List.getElem?_cons_succ] at p0 p1 p2 p3 x0 x1 x2' x3
  by_cases ha : k = k2 ∧ n = n2
  case neg =>
    have hne := neqAct ha
    clear hf
    go_wp2
    go_ret
    exact eq_no HNE.out HB1.out
  obtain ⟨rfl, rfl⟩ := ha
  by_cases hx : x = x2
  case neg =>
    clear hf
    cases x <;> cases x2 <;> first
      | exact absurd rfl hx
      | (go_wp2
         go_ret
         exact eq_no HNE.out HB1.out)
  subst hx
  have hz : ¬ (L1 : Int) = (L2 : Int) := fun e => hf ⟨⟨rfl, rfl⟩, rfl, by omega⟩
  have hz2 : ((L1 : Int) != (L2 : Int)) = true := by simpa using hz
  clear hf
  go_wp2
  go_ret
  exact eq_no HNE.out HB1.out
theorem told14_whole {p s : PSt} {v1 v2 : Value} {lo1 N0 : Nat} (h500 : s.rules.length ≤ 500) (hcd : ∀ r ∈ s.rules, r.conds.length ≤ 1000000) (w : World) (hN0 : N0 ≤ w.heap.size) (h1 : RulesR TRl TCd lo1 w v1 p.rules) (h2 : RulesI N0 w v2 s.rules) :
    Calls Tryz.prog 11 #[PolV p.k p.n p.x v1, PolV s.k s.n s.x v2] w (eqPost (p = s) w) := by
  by_cases hf : (p.k = s.k ∧ p.n = s.n) ∧ p.x = s.x ∧ p.rules.length = s.rules.length
  · obtain ⟨⟨e1, e2⟩, e3, e4⟩ := hf
    obtain ⟨k, n, x, rs⟩ := p
    obtain ⟨k2, n2, x2, ss⟩ := s
    dsimp only at *
    subst e1 e2 e3
    refine (told14_rules (k := k) (n := n) (x := x) h500 hcd w hN0 h1 h2 e4).mono ?_
    intro e w' h
    exact eqPost.mono h ⟨fun e => by rw [e], fun e => by injection e⟩ (Below.refl _ w)
  · exact told14_far h500 hcd w hN0 h1 h2 hf
end Go.Proofs.YtmjipkdejggbfaaGreatDoor
