/- strainerlaw11.of: a document's rows as the program's. -/
import Derived.Test.YtakmbmlpgmppiaaDoorSysAt
import Derived.Deep.RegionHeldLaw
import Derived.Deep.AppendLies
import Derived.OwnWalk
namespace Go.Proofs.YtakmbmlpgmppiaaDoor
open Go Go.Proofs Go.RowKit

theorem infoRow : (Tryd.prog.info? 36).map (fun i => (i.zero, i.size, i.bytes)) = some (some (.agg #[.string ⟨#[]⟩, .int .i64 0, .int .i64 0, .int .i64 0, .int .i64 0, .int .i64 0, .int .i64 0, .int .i64 0]), 8, 72) := by kernel_rfl

def flat (l : List SRow) : List Value := l.flatMap SRow.cells
theorem cells_len (r : SRow) : r.cells.length = 8 := rfl
theorem flat_len : ∀ l : List SRow, (flat l).length = l.length * 8
  | [] => rfl
  | x :: r => by
    have := flat_len r
    simp only [flat, List.flatMap_cons, List.length_append, cells_len, List.length_cons] at this ⊢
    omega
theorem flat_get : ∀ (l : List SRow) (j : Nat), j < l.length → ∀ i, i < 8 → (flat l)[j * 8 + i]? = (l[j]!).cells[i]?
  | [], j, h, _, _ => by simp at h
  | x :: r, 0, _, i, hi => by
    simp only [flat, List.flatMap_cons, Nat.zero_mul, Nat.zero_add]
    rw [List.getElem?_append_left (by rw [cells_len]; exact hi)]
    simp
  | x :: r, j + 1, h, i, hi => by
    have ih := flat_get r j (by simpa using h) i hi
    simp only [flat, List.flatMap_cons] at ih ⊢
    rw [List.getElem?_append_right (by rw [cells_len]; omega), cells_len, show (j + 1) * 8 + i - 8 = j * 8 + i by omega, ih]
    simp
theorem flat_take (l : List SRow) (k : Nat) (hk : k < l.length) : flat (l.take k) ++ (l[k]!).cells = flat (l.take (k + 1)) := by
  unfold flat
  rw [List.take_succ_eq_append_getElem hk, List.flatMap_append, show l[k]! = l[k] by simp [hk]]
  simp

theorem rowsV_owned {W : World} {base : Nat} {e : TypeId} {v : Value} {l : List SRow} (h : W.ownsRow base e 8 v l.length (flat l)) : RowsV W v l ∧ (l = [] ∨ ∃ g cap, v = .slice (some ⟨g, 0, none⟩) l.length cap ∧ base ≤ g) := by
  have hl := h.lt
  rcases h.2 with ⟨rfl, h0⟩ | ⟨g, cap, cur, rfl, hbg, hg, _⟩
  · have : l = [] := List.eq_nil_of_length_eq_zero h0
    subst this
    exact ⟨⟨none, 0, rfl, .inl rfl⟩, .inl rfl⟩
  · refine ⟨⟨_, cap, rfl, .inr ⟨g, 0, rfl, (hl g rfl).2, fun j hj i u hu => ?_⟩⟩, .inr ⟨g, cap, rfl, hbg⟩⟩
    have hi : i < 8 := by
      have := (List.getElem?_eq_some_iff.1 hu).1
      rw [cells_len] at this; exact this
    have := h.cells (g := g) rfl (j * 8 + i) u (by rw [flat_get l j hj i hi]; exact hu)
    have e : (⟨g, 0, none⟩ : Addr).add (j * 8 + i) = ⟨g, 0 + j * 8 + i, none⟩ := by rw [Addr.add_lit, Nat.add_assoc]
    rw [← e]; exact this

theorem news8 (W : World) (y : SRow) : ∀ j u, y.cells[j]? = some u → ((W.alloc (.cells #[.string y.name, .int .i64 y.n0, .int .i64 y.n1, .int .i64 y.n2, .int .i64 y.n3, .int .i64 y.n4, .int .i64 y.mux, .int .i64 y.sub] 36)).drew).cell? ((⟨W.heap.size, 0, none⟩ : Addr).add j) = some u := by
  intro j u h
  rw [Addr.add_lit, Nat.zero_add]
  have := (Blk.new W 36 #[.string y.name, .int .i64 y.n0, .int .i64 y.n1, .int .i64 y.n2, .int .i64 y.n3, .int .i64 y.n4, .int .i64 y.mux, .int .i64 y.sub]).cell j
  refine Eq.trans this ?_
  rw [← h]
  simp [SRow.cells]
theorem one8 (y : SRow) : ∀ u ∈ y.cells, u.oneCell' = true := by
  intro u hu
  simp [SRow.cells] at hu
  rcases hu with rfl | rfl | rfl | rfl | rfl | rfl | rfl | rfl <;> rfl
theorem cell_ad {W : World} {o : Obj} {a : Addr} {v : Value} (h : W.cell? a = some v) : (W.alloc o).drew.cell? a = some v := (World.grownBy_alloc W o none).cell h (by simp)

set_option maxRecDepth 100000 in
set_option maxHeartbeats 300000 in
theorem of_at (b off c : Nat) (zs : List SRow) (w : World) (hbig : zs.length ≤ 1000000) (hb : b < w.heap.size) (hc : RowsAt w b off zs) :
    Calls Tryd.prog 11 #[.slice (some ⟨b, off, none⟩) zs.length c] w fun e w' => ∃ v, e = .returned v ∧ w'.ownsRow w.heap.size 36 8 v zs.length (flat zs) ∧ Below w.heap.size w w' := by
  have Hc := Lib.hid hc
  clear hc
  obtain ⟨n, hn⟩ : ∃ n, zs.length = n := ⟨_, rfl⟩
  rw [hn] at hbig ⊢
  have Hn := Lib.hid hn
  clear hn
  obtain ⟨i0, hi, hz0, hz1, hz2⟩ := info_parts infoRow
  go_enter Tryd.func11, Tryd.ntmps11
  go_wp2
  go_loopg [3, 4] n (fun gg s3 s4 wr => ∃ kk : Nat, kk ≤ n ∧ n - kk ≤ gg ∧ s4 = .int .i64 kk ∧ Hid (Below w.heap.size w wr) ∧ Hid (wr.ownsRow w.heap.size 36 8 s3 kk (flat (zs.take kk))))
  case atStart => exact ⟨0, Nat.zero_le _, by omega, rfl, Below.refl _ w, World.ownsRow_nil _ _ _ _⟩
  case round =>
    obtain ⟨kk, hkk, hg, rfl, BW, OW⟩ := hrel
    by_cases hlt : kk < n
    · have hltz : (kk : Int) < (n : Int) := by omega
      have hR := (Hc.out.below BW.out hb) kk (by rw [Hn.out]; exact hlt)
      have c0 := hR 0 _ rfl
      have c1 := hR 1 _ rfl
      have c2 := hR 2 _ rfl
      have c3 := hR 3 _ rfl
      have c4 := hR 4 _ rfl
      have c5 := hR 5 _ rfl
      have c6 := hR 6 _ rfl
      have c7 := hR 7 _ rfl
      simp only [Nat.add_zero] at c0
      clear hR
      generalize hy : zs[kk]! = y at c0 c1 c2 c3 c4 c5 c6 c7
      have Hy := Lib.hid hy
      clear hy
      have hne : some b ≠ u3.ownBlock := fun e => by
        have := (OW.out.lt b e.symm).1
        omega
      have hbase : w.heap.size ≤ ((wr.alloc (.cells #[.string y.name, .int .i64 y.n0, .int .i64 y.n1, .int .i64 y.n2, .int .i64 y.n3, .int .i64 y.n4, .int .i64 y.mux, .int .i64 y.sub] 36)).drew).heap.size := Nat.le_trans BW.out.size (by simp [World.drew])
      go_wp2_with fail
      go_region_held_law (fun w' => w'.cell? ⟨b, off + kk * 8, none⟩ = some (.string y.name) ∧ w'.cell? ⟨b, off + kk * 8 + 1, none⟩ = some (.int .i64 y.n0) ∧ w'.cell? ⟨b, off + kk * 8 + 2, none⟩ = some (.int .i64 y.n1) ∧ w'.cell? ⟨b, off + kk * 8 + 3, none⟩ = some (.int .i64 y.n2) ∧ w'.cell? ⟨b, off + kk * 8 + 4, none⟩ = some (.int .i64 y.n3) ∧ w'.cell? ⟨b, off + kk * 8 + 5, none⟩ = some (.int .i64 y.n4) ∧ w'.cell? ⟨b, off + kk * 8 + 6, none⟩ = some (.int .i64 y.mux) ∧ w'.cell? ⟨b, off + kk * 8 + 7, none⟩ = some (.int .i64 y.sub)) (first | go_keep | exact ⟨hgrow.cell (cell_ad c0) hne, hgrow.cell (cell_ad c1) hne, hgrow.cell (cell_ad c2) hne, hgrow.cell (cell_ad c3) hne, hgrow.cell (cell_ad c4) hne, hgrow.cell (cell_ad c5) hne, hgrow.cell (cell_ad c6) hne, hgrow.cell (cell_ad c7) hne⟩) ((refine step_append_lies _ rfl _ _ 27 rfl w.heap.size 36 i0 _ 8 72 Tryd.underlying27 hi hz0 hz1 hz2 rfl (by decide) _ kk _ rfl (OW.out.alloc _).drew ⟨wr.heap.size, 0, none⟩ 1 1 y.cells rfl rfl (news8 wr y) (one8 y) (by decide) (by unfold maxLen; omega) (by omega) hbase _ rfl ?_; intro g cap w1 hown hgrow hat hlt1))
      have hBn : Below w.heap.size w w1 := ((BW.out.alloc BW.out.size _).drew).grown hgrow hbase (fun k hk => (OW.out.lt k hk).1)
      rw [← Hy.out, flat_take zs kk (by rw [Hn.out]; exact hlt)] at hown
      have HO := Lib.hid hown
      clear hown hgrow hat
      go_wp2
      go_roundg (n - (kk + 1))
      case measure => omega
      case rel => exact ⟨kk + 1, by omega, by omega, by go_num, hBn, HO⟩
    · have hltz : ¬ (kk : Int) < (n : Int) := by omega
      obtain rfl : kk = n := by omega
      go_wp2
      go_ret
      refine ⟨_, rfl, ?_, BW.out⟩
      have := OW.out
      rw [List.take_of_length_le (by rw [Hn.out]; exact Nat.le_refl _)] at this
      exact this

theorem of_any (sv : Value) (l : List SRow) (w : World) (hbig : l.length ≤ 1000000) (hR : RowsV w sv l) :
    Calls Tryd.prog 11 #[sv] w fun e w' => ∃ v, e = .returned v ∧ w'.ownsRow w.heap.size 36 8 v l.length (flat l) ∧ Below w.heap.size w w' := by
  obtain ⟨x, c, rfl, h⟩ := hR
  rcases h with rfl | ⟨b, off, rfl, hlt, hr⟩
  · go_enter Tryd.func11, Tryd.ntmps11
    go_wp2
    go_loop [3, 4] (fun s3 s4 => s3 = .slice none 0 0 ∧ s4 = .int .i64 0) (fun _ _ => 0)
    case atStart => exact ⟨rfl, rfl⟩
    case round =>
      obtain ⟨rfl, rfl⟩ := hrel
      go_wp2
      go_ret
      exact ⟨_, rfl, World.ownsRow_nil _ _ _ _, Below.refl _ _⟩
  · exact of_at b off c l w hbig hlt hr
end Go.Proofs.YtakmbmlpgmppiaaDoor
