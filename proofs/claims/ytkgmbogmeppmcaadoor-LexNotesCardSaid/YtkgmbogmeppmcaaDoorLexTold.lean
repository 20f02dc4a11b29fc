/- strainerlaw13.told of the same lines; the chapter's example. -/
import Derived.Test.YtkgmbogmeppmcaaDoorLexRL
namespace Go.Proofs.YtkgmbogmeppmcaaDoor
open Go Go.Proofs Go.RowKit

theorem lines_at {tl lo : Nat} {W : World} {a : Option Addr} {n c : Nat} {ls : List Ln} (h : LinesR tl lo W (.slice a n c) ls) {i : Nat} {x : Ln} (hx : ls[i]? = some x) :
    ∃ g ua uc, a = some ⟨g, 0, none⟩ ∧ W.cell? ⟨g, i * 2, none⟩ = some (.int .i64 (x.1 : Int)) ∧ W.cell? ⟨g, i * 2 + 1, none⟩ = some (.slice ua x.2.length uc) ∧ g < W.heap.size ∧ x.2.length ≤ uc ∧
      ∀ (k : Nat) (s : ByteArray), x.2[k]? = some s → ∃ gu, ua = some ⟨gu, 0, none⟩ ∧ W.cell? ⟨gu, k, none⟩ = some (.string s) ∧ gu < W.heap.size := by
  obtain ⟨us, h1, h2, h3⟩ := h
  have hil := (List.getElem?_eq_some_iff.1 hx).1
  obtain ⟨u, hu⟩ : ∃ u, us[i]? = some u := ⟨_, List.getElem?_eq_getElem (by omega)⟩
  obtain ⟨c1, c2⟩ := rowCells_at us ls i u x hu hx
  have hw := h3 i u x hu hx
  rcases h2.2 with ⟨hv, h0⟩ | ⟨g, cap, cur, hv, _, hg, _⟩
  · omega
  · cases hv
    have d1 := h2.cellAt (2 * i) (by omega)
    have d2 := h2.cellAt (2 * i + 1) (by omega)
    rw [c1, Nat.mul_comm] at d1
    rw [c2, Nat.mul_comm] at d2
    rcases hw.2 with ⟨rfl, h0⟩ | ⟨gu, capu, curu, rfl, _, hgu, hcu, _⟩
    · refine ⟨g, none, 0, rfl, d1, by rw [d2, h0], (Array.getElem?_eq_some_iff.1 hg).1, by omega, fun k s hs => ?_⟩
      have := (List.getElem?_eq_some_iff.1 hs).1
      omega
    · refine ⟨g, some ⟨gu, 0, none⟩, capu, rfl, d1, d2, (Array.getElem?_eq_some_iff.1 hg).1, hcu, fun k s hs => ⟨gu, rfl, ?_, (Array.getElem?_eq_some_iff.1 hgu).1⟩⟩
      have := (List.getElem?_eq_some_iff.1 hs).1
      rw [hw.cellAt k (by omega), List.getElem?_map, hs]
      rfl

theorem bel_cell {w W : World} {g j : Nat} {v : Value} (hb : Below w.heap.size w W) (h : w.cell? ⟨g, j, none⟩ = some v) (hg : g < w.heap.size) : W.cell? ⟨g, j, none⟩ = some v := (hb.cell (p := ⟨g, j, none⟩) hg).trans h

set_option maxRecDepth 100000 in
set_option maxHeartbeats 2000000 in
theorem told_same (v1 v2 : Value) (ls : List Ln) (lo1 lo2 : Nat) (hbig : ls.length ≤ 1000000) (hws : ∀ x ∈ ls, x.2.length ≤ 1000000) (w : World) (h1 : LinesR 54 lo1 w v1 ls) (h2 : LinesR 80 lo2 w v2 ls) :
    Calls Tryd.prog 24 #[v1, v2] w fun e w' => e = .returned (.bool true) ∧ Below w.heap.size w w' := by
  obtain ⟨a1, c1, rfl⟩ := h1.slice
  obtain ⟨a2, c2, rfl⟩ := h2.slice
  obtain ⟨n, hn⟩ : ∃ n, ls.length = n := ⟨_, rfl⟩
  rw [hn] at h1 h2 hbig ⊢
  have H1 := Lib.hid h1
  have H2 := Lib.hid h2
  have HN := Lib.hid hn
  have HWS := Lib.hid hws
  clear h1 h2 hn hws
  go_enter Tryd.func24, Tryd.ntmps24
  go_wp2
  go_loopw [5, 6] (fun iv _ wr => ∃ i : Nat, i ≤ n ∧ iv = .int .i64 i ∧ Hid (Below w.heap.size w wr)) (fun iv _ _ => n - (intOf iv).toNat)
  case atStart => exact ⟨0, Nat.zero_le _, rfl, Below.refl _ _⟩
  case round =>
    obtain ⟨i, hin, rfl, HB⟩ := hrel
    by_cases hlt : i < n
    · have hltz : (i : Int) < (n : Int) := by omega
      have i0 : (0 : Int) ≤ (i : Int) := by omega
      obtain ⟨x, hx⟩ : ∃ x, ls[i]? = some x := ⟨_, List.getElem?_eq_getElem (by rw [HN.out]; exact hlt)⟩
      obtain ⟨g1, ua1, uc1, rfl, d1, e1, hg1, _, f1⟩ := lines_at H1.out hx
      obtain ⟨g2, ua2, uc2, rfl, d2, e2, hg2, _, f2⟩ := lines_at H2.out hx
      obtain ⟨xn, ws⟩ := x
      dsimp only at d1 e1 d2 e2 f1 f2
      have hm := HWS.out _ (List.mem_of_getElem? hx)
      dsimp only at hm
      obtain ⟨m, hmm⟩ : ∃ m, ws.length = m := ⟨_, rfl⟩
      rw [hmm] at e1 e2 hm
      have HM := Lib.hid hmm
      have F1 := Lib.hid f1
      have F2 := Lib.hid f2
      have E1 := Lib.hid e1
      have E2 := Lib.hid e2
      have q1 := bel_cell HB.out d1 hg1
      have q2 := bel_cell HB.out e1 hg1
      have q3 := bel_cell HB.out d2 hg2
      have q4 := bel_cell HB.out e2 hg2
      clear hx f1 f2 hmm d1 d2 e1 e2
      go_wp2
      go_quiet (fail)
      have HBq : Hid (Below w.heap.size w (wr.drewN nq)) := below_drewN' HB.out nq
      clear q1 q2 q3 q4
      go_wp2
      generalize wr.drewN nq = wo at *
      go_loopw [6] (fun kv wr2 => ∃ k : Nat, k ≤ m ∧ kv = .int .i64 k ∧ Hid (Below w.heap.size w wr2)) (fun kv _ => m - (intOf kv).toNat)
      case atStart => exact ⟨0, Nat.zero_le _, rfl, HBq⟩
      case round =>
        obtain ⟨k, hkm, rfl, HB2⟩ := hrel
        have q2 := bel_cell HB2.out E1.out hg1
        have q4 := bel_cell HB2.out E2.out hg2
        by_cases hk : k < m
        · have hkz : (k : Int) < (m : Int) := by omega
          have k0 : (0 : Int) ≤ (k : Int) := by omega
          obtain ⟨s, hs⟩ : ∃ s, ws[k]? = some s := ⟨_, List.getElem?_eq_getElem (by rw [HM.out]; exact hk)⟩
          obtain ⟨gu1, rfl, r1, hu1⟩ := F1.out k s hs
          obtain ⟨gu2, rfl, r2, hu2⟩ := F2.out k s hs
          have p1 := bel_cell HB2.out r1 hu1
          have p2 := bel_cell HB2.out r2 hu2
          clear hs r1 r2
          go_wp2
          go_quiet (fail)
          have HBq2 : Hid (Below w.heap.size w (wr.drewN nq)) := below_drewN' HB2.out nq
          clear p1 p2 q2 q4
          go_wp2
          go_roundw
          case rel => exact ⟨k + 1, by omega, by go_num, HBq2⟩
          case measure => simp [intOf]; omega
        · have hkz : ¬ (k : Int) < (m : Int) := by omega
          go_wp2
          go_roundw
          case rel => exact ⟨i + 1, by omega, by go_num, HB2⟩
          case measure => simp [intOf]; omega
    · have hltz : ¬ (i : Int) < (n : Int) := by omega
      go_wp2
      go_ret
      exact ⟨rfl, HB.out⟩
end Go.Proofs.YtkgmbogmeppmcaaDoor
