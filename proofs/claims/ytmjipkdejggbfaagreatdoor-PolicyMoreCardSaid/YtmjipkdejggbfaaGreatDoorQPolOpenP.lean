/- A policy that came in, opened. -/
import Derived.Test.YtmjipkdejggbfaaGreatDoorQPolOpen
namespace Go.Proofs.YtmjipkdejggbfaaGreatDoor
open Go Go.Proofs Go.ChangeShapes Go.WideShapes Go.ChangeAt Go.RowKit Go.Deep Go.Joins
section
variable {H : Type} {enc : TypeId × Value → H} {w : World} {base : Nat} {spare : Nat → Bool} {held : Bool}
set_option maxRecDepth 100000 in
theorem pol_of_trod {fuel : Nat} {cs : List Value} {x : DataW H × List MemPlace} (h : DataW.trod enc Tryz.prog w base spare held fuel 33 cs = some x) : ∃ (q : PSt) (vr : Value), cs = [.int .i64 q.k, .int .i64 q.n, .bool q.x, vr] ∧ RulesI w.heap.size w vr q.rules ∧ ∀ r ∈ q.rules, ∀ c ∈ r.conds, CondB c := by
  obtain ⟨xs, n, _, _, hlen, hxl, hg⟩ := DataW.trod_struct Tryz.underlying33 h
  have hc4 : Tryz.prog.cellsOf 33 = 4 := by kernel_rfl
  have hac : Tryz.prog.cellsOf 30 = 2 := by kernel_rfl
  have hbo : Tryz.prog.cellsOf 4 = 1 := by kernel_rfl
  have hrl : Tryz.prog.cellsOf 31 = 1 := by kernel_rfl
  have hi : Tryz.prog.cellsOf 3 = 1 := by kernel_rfl
  rw [hc4] at hlen
  match cs, hlen with
  | [c0, c1, c2, c3], _ =>
  match xs, hxl with
  | [x0, x1, x2], _ =>
  have g0 : DataW.trod enc Tryz.prog w base spare held n 30 [c0, c1] = some x0 := by
    have hh : DataW.trod enc Tryz.prog w base spare held n 30 (([c0, c1, c2, c3].drop 0).take (Tryz.prog.cellsOf 30)) = some x0 := hg 0 _ rfl
    rw [hac] at hh
    exact hh
  have g1 : DataW.trod enc Tryz.prog w base spare held n 4 [c2] = some x1 := by
    have hh : DataW.trod enc Tryz.prog w base spare held n 4 (([c0, c1, c2, c3].drop 2).take (Tryz.prog.cellsOf 4)) = some x1 := hg 1 _ rfl
    rw [hbo] at hh
    exact hh
  have g2 : DataW.trod enc Tryz.prog w base spare held n 31 [c3] = some x2 := by
    have hh : DataW.trod enc Tryz.prog w base spare held n 31 (([c0, c1, c2, c3].drop 3).take (Tryz.prog.cellsOf 31)) = some x2 := hg 2 _ rfl
    rw [hrl] at hh
    exact hh
  obtain ⟨ys, n2, _, _, hlen2, hyl, hg2⟩ := DataW.trod_struct Tryz.underlying30 g0
  match ys, hyl with
  | [y0, y1], _ =>
  have g3 : DataW.trod enc Tryz.prog w base spare held n2 3 [c0] = some y0 := by
    have hh : DataW.trod enc Tryz.prog w base spare held n2 3 (([c0, c1].drop 0).take (Tryz.prog.cellsOf 3)) = some y0 := hg2 0 _ rfl
    rw [hi] at hh
    exact hh
  have g4 : DataW.trod enc Tryz.prog w base spare held n2 3 [c1] = some y1 := by
    have hh : DataW.trod enc Tryz.prog w base spare held n2 3 (([c0, c1].drop 1).take (Tryz.prog.cellsOf 3)) = some y1 := hg2 1 _ rfl
    rw [hi] at hh
    exact hh
  obtain ⟨k, ek, _, _⟩ := DataW.trod_int Tryz.underlying3 g3
  obtain ⟨m, em, _, _⟩ := DataW.trod_int Tryz.underlying3 g4
  obtain ⟨b, eb, _⟩ := DataW.trod_bool Tryz.underlying4 g1
  obtain ⟨rs, vr, ev, hri, hcb⟩ := rules_of_trod g2
  simp only [List.cons.injEq, and_true] at ek em eb ev
  subst ek em eb ev
  exact ⟨⟨k, m, b, rs⟩, _, rfl, hri, hcb⟩
set_option maxRecDepth 100000 in
theorem open_pol {r : Reach} {b0 : Nat} {v : Value} {d : DataW H} {p : List MemPlace} (hv : Value.okWide Tryz.prog w r b0 33 v) (h : DataW.Trod enc Tryz.prog w base spare held 33 v d p) :
    ∃ (q : PSt) (vr : Value), v = PolV q.k q.n q.x vr ∧ RulesI w.heap.size w vr q.rules ∧ ∀ r ∈ q.rules, ∀ c ∈ r.conds, CondB c := by
  obtain ⟨cs, rfl, hsz⟩ := okWide_struct Tryz.underlying33 hv
  obtain ⟨c0, c1, c2, c3, rfl⟩ := array4 (hsz.trans (show Tryz.prog.cellsOf 33 = 4 by kernel_rfl))
  obtain ⟨fuel, hf⟩ := h
  have hf : DataW.trod enc Tryz.prog w base spare held fuel 33 [c0, c1, c2, c3] = some (d, p) := hf
  obtain ⟨q, vr, e, h1, h2⟩ := pol_of_trod hf
  simp only [List.cons.injEq, and_true] at e
  obtain ⟨rfl, rfl, rfl, rfl⟩ := e
  exact ⟨q, _, rfl, h1, h2⟩
end
end Go.Proofs.YtmjipkdejggbfaaGreatDoor
