/- Arguments opened: a Blind by value. -/
import Derived.Test.YtakmbmlpgmppiaaRecOpen
namespace Go.Proofs.Ytakmbmlpgmppiaa
open Go Go.Proofs Go.ChangeShapes Go.WideShapes Go.ChangeAt Go.RowKit Go.Joins
section
variable {H : Type} {enc : TypeId × Value → H} {w : World} {base : Nat} {spare : Nat → Bool} {held : Bool}

theorem open_blind {r : Reach} {b0 : Nat} {v : Value} {d : DataW H} {p : List MemPlace} (hv : Value.okWide Try.prog w r b0 62 v) (h : DataW.Trod enc Try.prog w base spare held 62 v d p) :
    ∃ (ad : Option Addr) (cp : Nat) (l : List SRow) (num arch ptr a0 a1 a2 a3 a4 a5 pt d0 d1 d2 d3 d4 d5 : Int), v = .agg #[.slice ad l.length cp, .int .u32 num, .int .u32 arch, .int .u64 ptr, .int .u64 a0, .int .u64 a1, .int .u64 a2, .int .u64 a3, .int .u64 a4, .int .u64 a5, .int .u64 pt, .int .u64 d0, .int .u64 d1, .int .u64 d2, .int .u64 d3, .int .u64 d4, .int .u64 d5] ∧ RowsV w (.slice ad l.length cp) l ∧ (Lit.int .u32 num).wf = true ∧ (Lit.int .u64 a0).wf = true ∧ (Lit.int .u64 d0).wf = true := by
  obtain ⟨cs, rfl, hsz⟩ := okWide_struct Try.underlying62 hv
  obtain ⟨fuel, hf⟩ := h
  obtain ⟨xs, n, _, _, hl, hxl, hg⟩ := DataW.trod_struct Try.underlying62 hf
  have hc17 : Try.prog.cellsOf 62 = 17 := by kernel_rfl
  have hc9 : Try.prog.cellsOf 51 = 9 := by kernel_rfl
  have hcs : Try.prog.cellsOf 22 = 1 := by kernel_rfl
  have hcv : Try.prog.cellsOf 48 = 1 := by kernel_rfl
  have hc6 : Try.prog.cellsOf 49 = 6 := by kernel_rfl
  rw [hc17] at hl
  obtain ⟨L, hL⟩ : ∃ L, cs.toList = L := ⟨_, rfl⟩
  have hvc : (Value.agg cs).cells.toList = L := hL
  rw [hvc] at hl hg
  match L, hl with
  | [c0, c1, c2, c3, c4, c5, c6, c7, c8, c9, c10, c11, c12, c13, c14, c15, c16], _ =>
  match xs, hxl with
  | [x0, x1, x2, x3], _ =>
  have g0 : DataW.trod enc Try.prog w base spare held n 22 [c0] = some x0 := by
    have hh : DataW.trod enc Try.prog w base spare held n 22 (([c0, c1, c2, c3, c4, c5, c6, c7, c8, c9, c10, c11, c12, c13, c14, c15, c16].drop 0).take (Try.prog.cellsOf 22)) = some x0 := hg 0 _ rfl
    rw [hcs] at hh
    exact hh
  have g1 : DataW.trod enc Try.prog w base spare held n 51 [c1, c2, c3, c4, c5, c6, c7, c8, c9] = some x1 := by
    have hh : DataW.trod enc Try.prog w base spare held n 51 (([c0, c1, c2, c3, c4, c5, c6, c7, c8, c9, c10, c11, c12, c13, c14, c15, c16].drop 1).take (Try.prog.cellsOf 51)) = some x1 := hg 1 _ rfl
    rw [hc9] at hh
    exact hh
  have g2 : DataW.trod enc Try.prog w base spare held n 48 [c10] = some x2 := by
    have hh : DataW.trod enc Try.prog w base spare held n 48 (([c0, c1, c2, c3, c4, c5, c6, c7, c8, c9, c10, c11, c12, c13, c14, c15, c16].drop 10).take (Try.prog.cellsOf 48)) = some x2 := hg 2 _ rfl
    rw [hcv] at hh
    exact hh
  have g3 : DataW.trod enc Try.prog w base spare held n 49 [c11, c12, c13, c14, c15, c16] = some x3 := by
    have hh : DataW.trod enc Try.prog w base spare held n 49 (([c0, c1, c2, c3, c4, c5, c6, c7, c8, c9, c10, c11, c12, c13, c14, c15, c16].drop 11).take (Try.prog.cellsOf 49)) = some x3 := hg 3 _ rfl
    rw [hc6] at hh
    exact hh
  have hna : ∀ q, c0 ≠ .agg q := by
    rintro q rfl
    rcases Deep.open_slice Try.underlying22 g0 with ⟨h1, _⟩ | ⟨a, len, cap, m, n, D, Pl, h1, _⟩
    · simp at h1
    · simp at h1
  have hrows : ∃ l : List SRow, RowsV w c0 l := open_rows (d := x0.1) (p := x0.2) ⟨n, by
    have : c0.cells.toList = [c0] := by
      cases c0 <;> first | rfl | exact absurd rfl (hna _)
    rw [this]
    exact g0⟩ hna
  obtain ⟨l, hrows⟩ := hrows
  obtain ⟨ad, cp, rfl, hh⟩ := id hrows
  obtain ⟨num, arch, ptr, a0, a1, a2, a3, a4, a5, hc, w0, w1⟩ := rec_of_trod g1
  obtain ⟨z2, e2, _, _⟩ := DataW.trod_int Try.underlying48 g2
  obtain ⟨ys, m, _, _, hyl, hyx, hi⟩ := DataW.trod_array Try.underlying49 g3
  obtain ⟨zs, hz, hzc, hw⟩ := ints_of_cells (cs := [c11, c12, c13, c14, c15, c16]) Try.underlying48 rfl hyx (fun i hlt => by simpa [hcv] using hi i hlt)
  match zs, hz with
  | [y0, y1, y2, y3, y4, y5], _ =>
  simp only [List.map_cons, List.map_nil, List.cons.injEq, and_true, recV] at hzc e2 hc
  obtain ⟨rfl, rfl, rfl, rfl, rfl, rfl⟩ := hzc
  obtain ⟨rfl, rfl, rfl, rfl, rfl, rfl, rfl, rfl, rfl⟩ := hc
  subst e2
  exact ⟨ad, cp, l, num, arch, ptr, a0, a1, a2, a3, a4, a5, z2, y0, y1, y2, y3, y4, y5, congrArg Value.agg (Array.toList_inj.1 hL), hrows, w0, w1, hw y0 (by simp)⟩
end
end Go.Proofs.Ytakmbmlpgmppiaa
