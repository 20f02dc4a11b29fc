/- Arguments opened: a record by value. -/
import Derived.Test.YtakmbmlpgmppiaaSysOpen
import Derived.ChangeMaps5
namespace Go.Proofs.Ytakmbmlpgmppiaa
open Go Go.Proofs Go.ChangeShapes Go.WideShapes Go.ChangeAt Go.RowKit Go.Joins
section
variable {H : Type} {enc : TypeId × Value → H} {w : World} {base : Nat} {spare : Nat → Bool} {held : Bool}

def recV (num arch ptr a0 a1 a2 a3 a4 a5 : Int) : List Value := [.int .u32 num, .int .u32 arch, .int .u64 ptr, .int .u64 a0, .int .u64 a1, .int .u64 a2, .int .u64 a3, .int .u64 a4, .int .u64 a5]
theorem rec_of_trod {n : Nat} {cs : List Value} {x : DataW H × List MemPlace} (h : DataW.trod enc Try.prog w base spare held n 51 cs = some x) :
    ∃ num arch ptr a0 a1 a2 a3 a4 a5 : Int, cs = recV num arch ptr a0 a1 a2 a3 a4 a5 ∧ (Lit.int .u32 num).wf = true ∧ (Lit.int .u64 a0).wf = true := by
  obtain ⟨xs, n, _, _, hl, hxl, hg⟩ := DataW.trod_struct Try.underlying51 h
  have hc9 : Try.prog.cellsOf 51 = 9 := by kernel_rfl
  have hcu : Try.prog.cellsOf 47 = 1 := by kernel_rfl
  have hcv : Try.prog.cellsOf 48 = 1 := by kernel_rfl
  have hc6 : Try.prog.cellsOf 49 = 6 := by kernel_rfl
  rw [hc9] at hl
  match cs, hl with
  | [c0, c1, c2, c3, c4, c5, c6, c7, c8], _ =>
  match xs, hxl with
  | [x0, x1, x2, x3], _ =>
  have g0 : DataW.trod enc Try.prog w base spare held n 47 [c0] = some x0 := by
    have hh : DataW.trod enc Try.prog w base spare held n 47 (([c0, c1, c2, c3, c4, c5, c6, c7, c8].drop 0).take (Try.prog.cellsOf 47)) = some x0 := hg 0 _ rfl
    rw [hcu] at hh
    exact hh
  have g1 : DataW.trod enc Try.prog w base spare held n 47 [c1] = some x1 := by
    have hh : DataW.trod enc Try.prog w base spare held n 47 (([c0, c1, c2, c3, c4, c5, c6, c7, c8].drop 1).take (Try.prog.cellsOf 47)) = some x1 := hg 1 _ rfl
    rw [hcu] at hh
    exact hh
  have g2 : DataW.trod enc Try.prog w base spare held n 48 [c2] = some x2 := by
    have hh : DataW.trod enc Try.prog w base spare held n 48 (([c0, c1, c2, c3, c4, c5, c6, c7, c8].drop 2).take (Try.prog.cellsOf 48)) = some x2 := hg 2 _ rfl
    rw [hcv] at hh
    exact hh
  have g3 : DataW.trod enc Try.prog w base spare held n 49 [c3, c4, c5, c6, c7, c8] = some x3 := by
    have hh : DataW.trod enc Try.prog w base spare held n 49 (([c0, c1, c2, c3, c4, c5, c6, c7, c8].drop 3).take (Try.prog.cellsOf 49)) = some x3 := hg 3 _ rfl
    rw [hc6] at hh
    exact hh
  obtain ⟨z0, e0, _, w0⟩ := DataW.trod_int Try.underlying47 g0
  obtain ⟨z1, e1, _, _⟩ := DataW.trod_int Try.underlying47 g1
  obtain ⟨z2, e2, _, _⟩ := DataW.trod_int Try.underlying48 g2
  obtain ⟨ys, m, _, _, hyl, hyx, hi⟩ := DataW.trod_array Try.underlying49 g3
  obtain ⟨zs, hz, hzc, hw⟩ := ints_of_cells (cs := [c3, c4, c5, c6, c7, c8]) Try.underlying48 rfl hyx (fun i hlt => by simpa [hcv] using hi i hlt)
  match zs, hz with
  | [y0, y1, y2, y3, y4, y5], _ =>
  simp only [List.map_cons, List.map_nil, List.cons.injEq, and_true] at hzc e0 e1 e2
  obtain ⟨rfl, rfl, rfl, rfl, rfl, rfl⟩ := hzc
  subst e0 e1 e2
  exact ⟨z0, z1, z2, y0, y1, y2, y3, y4, y5, rfl, w0, hw y0 (by simp)⟩

theorem open_rec {r : Reach} {b0 : Nat} {v : Value} {d : DataW H} {p : List MemPlace} (hv : Value.okWide Try.prog w r b0 51 v) (h : DataW.Trod enc Try.prog w base spare held 51 v d p) :
    ∃ num arch ptr a0 a1 a2 a3 a4 a5 : Int, v = .agg #[.int .u32 num, .int .u32 arch, .int .u64 ptr, .int .u64 a0, .int .u64 a1, .int .u64 a2, .int .u64 a3, .int .u64 a4, .int .u64 a5] ∧ (Lit.int .u32 num).wf = true ∧ (Lit.int .u64 a0).wf = true := by
  obtain ⟨cs, rfl, hsz⟩ := okWide_struct Try.underlying51 hv
  obtain ⟨fuel, hf⟩ := h
  obtain ⟨num, arch, ptr, a0, a1, a2, a3, a4, a5, hc, w0, w1⟩ := rec_of_trod hf
  have hcs : cs.toList = recV num arch ptr a0 a1 a2 a3 a4 a5 := hc
  exact ⟨num, arch, ptr, a0, a1, a2, a3, a4, a5, congrArg Value.agg (Array.toList_inj.1 hcs), w0, w1⟩
end
end Go.Proofs.Ytakmbmlpgmppiaa
