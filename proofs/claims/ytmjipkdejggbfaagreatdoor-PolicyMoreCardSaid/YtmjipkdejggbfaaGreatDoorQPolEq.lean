/- slices.Equal of conditions. -/
import Derived.Test.YtmjipkdejggbfaaGreatDoorQPolAwake
namespace Go.Proofs.YtmjipkdejggbfaaGreatDoor
open Go Go.Proofs Go.RowKit

theorem neqCond {c d : PCond} (h : c ≠ d) (w : World) : (Go.binOp .neq 74 (.agg #[.int .i64 c.a, .int .i64 c.o, .int .u64 c.m, .int .u64 c.v]) (.agg #[.int .i64 d.a, .int .i64 d.o, .int .u64 d.m, .int .u64 d.v])).run Tryz.prog w = .ok (.bool true) w := by
  have hf : ¬ (c.a = d.a ∧ c.o = d.o ∧ c.m = d.m ∧ c.v = d.v) := by
    rintro ⟨h1, h2, h3, h4⟩
    apply h
    cases c
    cases d
    simp_all
  simp [go_sem]
  intro h1 h2 h3 h4
  exact hf ⟨h1, h2, h3, h4⟩
/-- A Bool that says whether something is so. -/
def eqPost (P : Prop) (w : World) (e : Ending) (w' : World) : Prop := ∃ b : Bool, e = .returned (.bool b) ∧ (b = true ↔ P) ∧ Below w.heap.size w w'
theorem eq_yes {P : Prop} {w w' : World} (h : P) (hb : Below w.heap.size w w') : eqPost P w (.returned (.bool true)) w' := ⟨true, rfl, ⟨fun _ => h, fun _ => rfl⟩, hb⟩
theorem eq_no {P : Prop} {w w' : World} (h : ¬ P) (hb : Below w.heap.size w w') : eqPost P w (.returned (.bool false)) w' := ⟨false, rfl, ⟨fun e => (Bool.false_ne_true e).elim, fun e => (h e).elim⟩, hb⟩
/-- Conditions of a slice, below a block. -/
def CSl (N : Nat) (W : World) (v : Value) (cs : List PCond) : Prop := ∃ ua uc, v = .slice ua cs.length uc ∧ CondsAt N W ua cs
set_option maxRecDepth 100000 in
set_option maxHeartbeats 8000000 in
theorem condsEqual_any {N : Nat} {v1 v2 : Value} {cs ds : List PCond} (hl : cs.length ≤ 1000000) (w : World) (h1 : CSl N w v1 cs) (h2 : CSl N w v2 ds) (hN : N ≤ w.heap.size) :
    Calls Tryz.prog 26 #[v1, v2] w (eqPost (cs = ds) w) := by
  obtain ⟨a1, c1, rfl, hc1⟩ := h1
  obtain ⟨a2, c2, rfl, hc2⟩ := h2
  by_cases hlen : cs.length = ds.length
  · generalize hL : cs.length = L at *
    rw [← hlen]
    have HL := Lib.hid hL
    have HD := Lib.hid hlen
    have HC1 := Lib.hid hc1
    have HC2 := Lib.hid hc2
    clear hL hlen hc1 hc2
    go_enter Tryz.func26, Tryz.ntmps26
    go_upto_region 4 with fail
    go_loopg [13] (L + 1) (fun gg iv wr => ∃ q : Nat, q ≤ L ∧ L - q < gg ∧ iv = .int .i64 (q : Int) ∧ Hid (cs.take q = ds.take q) ∧ Hid (Below w.heap.size w wr))
    case atStart => exact ⟨0, Nat.zero_le _, by omega, rfl, (by show _ = _; rfl), Below.refl _ _⟩
    case round =>
      obtain ⟨q, hqL, hgg, rfl, HT, HB⟩ := hrel
      have q0 : (0 : Int) ≤ (q : Int) := by omega
      by_cases hq : q < L
      · have hqz : (q : Int) < (L : Int) := by omega
        obtain ⟨c, hc⟩ : ∃ c, cs[q]? = some c := ⟨_, List.getElem?_eq_getElem (by rw [HL.out]; exact hq)⟩
        obtain ⟨d, hd⟩ : ∃ d, ds[q]? = some d := ⟨_, List.getElem?_eq_getElem (by rw [← HD.out]; exact hq)⟩
        obtain ⟨g1, rfl, hg1, y0, y1, y2, y3⟩ := HC1.out q c hc
        obtain ⟨g2, rfl, hg2, z0, z1, z2, z3⟩ := HC2.out q d hd
        have ce : ∀ g j v, g < N → w.cell? ⟨g, j, none⟩ = some v → wr.cell? ⟨g, j, none⟩ = some v := fun g j v hg hv => (HB.out.cell (p := ⟨g, j, none⟩) (by show g < w.heap.size; omega)).trans hv
        have y0 := ce _ _ _ hg1 y0
        have y1 := ce _ _ _ hg1 y1
        have y2 := ce _ _ _ hg1 y2
        have y3 := ce _ _ _ hg1 y3
        have z0 := ce _ _ _ hg2 z0
        have z1 := ce _ _ _ hg2 z1
        have z2 := ce _ _ _ hg2 z2
        have z3 := ce _ _ _ hg2 z3
        clear ce
        by_cases he : c = d
        · subst he
          have HT2 : Hid (cs.take (q + 1) = ds.take (q + 1)) := by show _ = _; rw [take_snoc hc, take_snoc hd, HT.out]
          clear hc hd
          go_wp2
          go_quiet (fail)
          have HBn : Hid (Below w.heap.size w (wr.drewN nq)) := below_drewN' HB.out nq
          clear y0 y1 y2 y3 z0 z1 z2 z3
          go_wp2
          go_roundg (L - q)
          case measure => omega
          case rel => exact ⟨q + 1, by omega, by omega, by go_num, HT2, HBn⟩
        · have hne := neqCond he
          have HNE : Hid (cs ≠ ds) := fun e => by rw [e, hd] at hc; exact he (Option.some.inj hc).symm
          clear hc hd
          go_wp2
          go_quiet (fail)
          have HBn : Hid (Below w.heap.size w (wr.drewN nq)) := below_drewN' HB.out nq
          clear y0 y1 y2 y3 z0 z1 z2 z3
          go_wp2
          go_ret
          exact eq_no HNE.out HBn
      · obtain rfl : L = q := by omega
        have hqz : ¬ (L : Int) < (L : Int) := by omega
        have HEQ : Hid (cs = ds) := by
          have h := HT.out
          rwa [List.take_of_length_le (by rw [HL.out]; exact Nat.le_refl _), List.take_of_length_le (by rw [← HD.out]; exact Nat.le_refl _)] at h
        go_wp2
        go_ret
        exact eq_yes HEQ.out HB.out
  · have hb : ((cs.length : Int) != (ds.length : Int)) = true := by simp; omega
    have hz : ¬ (cs.length : Int) = (ds.length : Int) := by omega
    have HNE : Hid (cs ≠ ds) := fun e => hlen (by rw [e])
    clear hc1 hc2
    go_enter Tryz.func26, Tryz.ntmps26
    go_wp2
    go_ret
    exact eq_no HNE.out (Below.refl _ _)
end Go.Proofs.YtmjipkdejggbfaaGreatDoor
