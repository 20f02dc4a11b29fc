/- strings.Compare, slices.BinarySearchFunc over rows. -/
import Derived.Test.YtakmbmlpgmppiaaDoorSysFind
import Derived.Lib.Bytealg
namespace Go.Proofs.YtakmbmlpgmppiaaDoor
open Go Go.Proofs Go.RowKit

theorem compareString_any (a b : ByteArray) (w : World) :
    Calls Tryd.prog 39 #[.string a, .string b] w fun e w' => e = .returned (.int .i64 (Lib.compareBytes a.data.toList b.data.toList)) ∧ w = w' := by
  go_enter Tryd.func39, Tryd.ntmps39
  go_wp2
  rw [run_callFunc_extern Tryd.func49 (by kernel_rfl) (by kernel_rfl) (by kernel_rfl) (e := Extern.BytealgCompare.compare) (by kernel_rfl), Lib.run_compareString]
  simp only [Result.andThen]
  rw [Oper.upon_value]
  go_wp2
  go_ret
  exact ⟨rfl, rfl⟩

theorem compare_any (a b : ByteArray) (w : World) :
    Calls Tryd.prog 29 #[.string a, .string b] w fun e w' => e = .returned (.int .i64 (Lib.compareBytes a.data.toList b.data.toList)) ∧ w = w' := by
  go_enter Tryd.func29, Tryd.ntmps29
  go_wp2_with (go_at_call 39; refine (compareString_any _ _ _).mono ?_; rintro e w' ⟨rfl, rfl⟩)
  go_ret
  exact ⟨rfl, rfl⟩

/-- How a row's name stands to a name. -/
def cmpR (t : ByteArray) (r : SRow) : Int := Lib.compareBytes r.name.data.toList t.data.toList

theorem find1_any (t : ByteArray) (r : SRow) (w : World) :
    Calls Tryd.prog 28 #[.agg #[.string r.name, .int .i64 r.n0, .int .i64 r.n1, .int .i64 r.n2, .int .i64 r.n3, .int .i64 r.n4, .int .i64 r.mux, .int .i64 r.sub], .string t] w
      fun e w' => e = .returned (.int .i64 (cmpR t r)) ∧ Below w.heap.size w w' := by
  go_enter Tryd.func28, Tryd.ntmps28
  go_wp2_with (go_at_call 29; refine (compare_any _ _ _).mono ?_; rintro e w' ⟨rfl, rfl⟩)
  go_ret
  exact ⟨rfl, (Below.refl _ w).alloc (Nat.le_refl _) _⟩

/-- What a binary search for t answers: how many rows lie below t, and whether the next one is t's. -/
def BsAns (t : ByteArray) (l : List SRow) (i : Nat) : Prop :=
  i ≤ l.length ∧ (∀ k, k < i → cmpR t l[k]! < 0) ∧ (∀ k, i ≤ k → k < l.length → 0 ≤ cmpR t l[k]!)
def bsHit (t : ByteArray) (l : List SRow) (i : Nat) : Bool := decide (i < l.length) && cmpR t l[i]! == 0
def BsPost (t : ByteArray) (l : List SRow) (w : World) (e : Ending) (w' : World) : Prop :=
  ∃ i : Nat, BsAns t l i ∧ e = .returned (.tuple #[.int .i64 i, .bool (bsHit t l i)]) ∧ Below w.heap.size w w'

set_option maxRecDepth 100000 in
set_option maxHeartbeats 1000000 in
theorem bs_at (t : ByteArray) (b off c : Nat) (zs : List SRow) (w : World) (hbig : zs.length ≤ 1000000) (hb : b < w.heap.size) (hc : RowsAt w b off zs)
    (hmono : ∀ x y, x ≤ y → y < zs.length → cmpR t zs[y]! < 0 → cmpR t zs[x]! < 0) :
    Calls Tryd.prog 27 #[.slice (some ⟨b, off, none⟩) zs.length c, .string t, .func (.func 28) #[] #[]] w (BsPost t zs w) := by
  have Hc := Lib.hid hc
  have Hm := Lib.hid hmono
  clear hc hmono
  obtain ⟨n, hn⟩ : ∃ n, zs.length = n := ⟨_, rfl⟩
  rw [hn] at hbig ⊢
  have Hn := Lib.hid hn
  clear hn
  go_enter Tryd.func27, Tryd.ntmps27
  go_wp2
  go_loopg [9, 10] n (fun gg s9 s10 wr => ∃ i j : Nat, i ≤ j ∧ j ≤ n ∧ j - i ≤ gg ∧ s9 = .int .i64 i ∧ s10 = .int .i64 j ∧ Hid (Below w.heap.size w wr) ∧ Hid (∀ k, k < i → cmpR t zs[k]! < 0) ∧ Hid (∀ k, j ≤ k → k < n → 0 ≤ cmpR t zs[k]!))
  case atStart => exact ⟨0, n, Nat.zero_le _, Nat.le_refl _, by omega, rfl, rfl, Below.refl _ w, fun j hj => absurd hj (Nat.not_lt_zero _), fun k h1 h2 => absurd h1 (by omega)⟩
  case round =>
    obtain ⟨i, j, hij, hjn, hg, rfl, rfl, BW, L, R⟩ := hrel
    by_cases hlt : i < j
    · have hltz : (i : Int) < (j : Int) := by omega
      have hR := (Hc.out.below BW.out hb) ((i + j) / 2) (by rw [Hn.out]; omega)
      have c0 := hR 0 _ rfl
      have c1 := hR 1 _ rfl
      have c2 := hR 2 _ rfl
      have c3 := hR 3 _ rfl
      have c4 := hR 4 _ rfl
      have c5 := hR 5 _ rfl
      have c6 := hR 6 _ rfl
      have c7 := hR 7 _ rfl
      simp only [Nat.add_zero] at c0
      clear hR
      have hcall := find1_any t zs[(i + j) / 2]! wr
      generalize hy : zs[(i + j) / 2]! = y at hcall c0 c1 c2 c3 c4 c5 c6 c7
      have Hy := Lib.hid hy
      clear hy
      generalize hv : cmpR t y = v at hcall
      have Hv := Lib.hid hv
      clear hv
      have Hcall := Lib.hid hcall
      clear hcall
      by_cases hneg : v < 0
      · have hneg' : decide (v < 0) = true := by simpa using hneg
        go_wp2_with fail
        refine Hcall.out.mono ?_
        rintro e w' ⟨rfl, hb'⟩
        go_wp2
        go_roundg (j - ((i + j) / 2 + 1))
        case measure => omega
        case rel =>
          refine ⟨(i + j) / 2 + 1, j, by omega, hjn, by omega, by congr 1, rfl, BW.out.trans (hb'.mono BW.out.size), (show Hid _ from fun k hk => ?_), R⟩
          exact Hm.out k ((i + j) / 2) (by omega) (by rw [Hn.out]; omega) (by rw [Hy.out, Hv.out]; exact hneg)
      · have hneg' : decide (v < 0) = false := by simpa using hneg
        go_wp2_with fail
        refine Hcall.out.mono ?_
        rintro e w' ⟨rfl, hb'⟩
        go_wp2
        go_roundg ((i + j) / 2 - i)
        case measure => omega
        case rel =>
          refine ⟨i, (i + j) / 2, by omega, by omega, by omega, rfl, by congr 1, BW.out.trans (hb'.mono BW.out.size), L, (show Hid _ from fun k hk hkn => ?_)⟩
          refine Int.not_lt.1 (fun hlt2 => ?_)
          have := Hm.out ((i + j) / 2) k hk (by rw [Hn.out]; exact hkn) hlt2
          rw [Hy.out, Hv.out] at this
          omega
    · obtain rfl : i = j := by omega
      have hji : ¬ (i : Int) < (i : Int) := by omega
      by_cases hin : i < n
      · have hinz : (i : Int) < (n : Int) := by omega
        have hR := (Hc.out.below BW.out hb) i (by rw [Hn.out]; omega)
        have c0 := hR 0 _ rfl
        have c1 := hR 1 _ rfl
        have c2 := hR 2 _ rfl
        have c3 := hR 3 _ rfl
        have c4 := hR 4 _ rfl
        have c5 := hR 5 _ rfl
        have c6 := hR 6 _ rfl
        have c7 := hR 7 _ rfl
        simp only [Nat.add_zero] at c0
        clear hR
        have hcall := find1_any t zs[i]! wr
        generalize hy : zs[i]! = y at hcall c0 c1 c2 c3 c4 c5 c6 c7
        have Hy := Lib.hid hy
        clear hy
        generalize hv : cmpR t y = v at hcall
        have Hv := Lib.hid hv
        clear hv
        have Hcall := Lib.hid hcall
        clear hcall
        go_wp2_with fail
        refine Hcall.out.mono ?_
        rintro e w' ⟨rfl, hb'⟩
        go_wp2
        go_ret2
        refine ⟨i, ⟨by rw [Hn.out]; omega, L.out, fun k h1 h2 => R.out k h1 (by rw [Hn.out] at h2; exact h2)⟩, ?_, BW.out.trans (hb'.mono BW.out.size)⟩
        have e : bsHit t zs i = (v == 0) := by unfold bsHit; rw [Hn.out, Hy.out, Hv.out]; simp [hin]
        rw [e]; rfl
      · have hinz : ¬ (i : Int) < (n : Int) := by omega
        go_wp2
        go_ret2
        refine ⟨i, ⟨by rw [Hn.out]; omega, L.out, fun k h1 h2 => R.out k h1 (by rw [Hn.out] at h2; exact h2)⟩, ?_, BW.out⟩
        have e : bsHit t zs i = false := by unfold bsHit; rw [Hn.out]; simp [hin]
        rw [e]; rfl

theorem bs_any (t : ByteArray) (sv : Value) (zs : List SRow) (w : World) (hbig : zs.length ≤ 1000000) (hR : RowsV w sv zs)
    (hmono : ∀ x y, x ≤ y → y < zs.length → cmpR t zs[y]! < 0 → cmpR t zs[x]! < 0) :
    Calls Tryd.prog 27 #[sv, .string t, .func (.func 28) #[] #[]] w (BsPost t zs w) := by
  obtain ⟨a, c, rfl, h⟩ := hR
  rcases h with rfl | ⟨b, off, rfl, hlt, hr⟩
  · clear hmono hbig
    go_enter Tryd.func27, Tryd.ntmps27
    go_wp2
    go_loop [9, 10] (fun s9 s10 => s9 = .int .i64 0 ∧ s10 = .int .i64 0) (fun _ _ => 0)
    case atStart => exact ⟨rfl, rfl⟩
    case round =>
      obtain ⟨rfl, rfl⟩ := hrel
      go_wp2
      go_ret2
      exact ⟨0, ⟨Nat.le_refl _, fun k hk => absurd hk (Nat.not_lt_zero _), fun k _ hk => absurd hk (by simp)⟩, rfl, Below.refl _ _⟩
  · exact bs_at t b off c zs w hbig hlt hr hmono

def SRow.val (r : SRow) : Value := .agg #[.string r.name, .int .i64 r.n0, .int .i64 r.n1, .int .i64 r.n2, .int .i64 r.n3, .int .i64 r.n4, .int .i64 r.mux, .int .i64 r.sub]
/-- What systab.Find answers. -/
def FindPost (t : ByteArray) (l : List SRow) (w : World) (e : Ending) (w' : World) : Prop :=
  ∃ i : Nat, BsAns t l i ∧ Below w.heap.size w w' ∧
    ((bsHit t l i = true ∧ e = .returned (.tuple #[(l[i]!).val, .int .i64 i, .bool true])) ∨ (bsHit t l i = false ∧ e = .returned (.tuple #[SRow.zero.val, .int .i64 0, .bool false])))

set_option maxRecDepth 100000 in
set_option maxHeartbeats 1000000 in
theorem find_any (t : ByteArray) (sv : Value) (l : List SRow) (w : World) (hbig : l.length ≤ 1000000) (hR : RowsV w sv l)
    (hmono : ∀ x y, x ≤ y → y < l.length → cmpR t l[y]! < 0 → cmpR t l[x]! < 0) :
    Calls Tryd.prog 16 #[sv, .string t] w (FindPost t l w) := by
  have hz := (Below.refl w.heap.size w).alloc (Nat.le_refl _) (.cells #[.string ⟨#[]⟩, .int .i64 0, .int .i64 0, .int .i64 0, .int .i64 0, .int .i64 0, .int .i64 0, .int .i64 0] 36)
  have hR0 := hR.below hz
  have hbs := bs_any t sv l _ hbig hR0 hmono
  obtain ⟨a, c, rfl, h⟩ := hR0
  have Hbs := Lib.hid hbs
  have Hh := Lib.hid h
  clear hbs hR h hmono
  go_enter Tryd.func16, Tryd.ntmps16
  go_wp2_with fail
  refine Hbs.out.mono ?_
  rintro e w1 ⟨i, hA, rfl, hb1⟩
  have bZ := (Blk.new w 36 #[.string ⟨#[]⟩, .int .i64 0, .int .i64 0, .int .i64 0, .int .i64 0, .int .i64 0, .int .i64 0, .int .i64 0]).below hb1 (by simp)
  have hB1 : Below w.heap.size w w1 := hz.trans (hb1.mono (by simp))
  have HA := Lib.hid hA
  clear hA
  cases hq : bsHit t l i with
  | false =>
    have Hq := Lib.hid hq
    clear hq
    have z0 := bZ.frozen 0
    have z1 := bZ.frozen 1
    have z2 := bZ.frozen 2
    have z3 := bZ.frozen 3
    have z4 := bZ.frozen 4
    have z5 := bZ.frozen 5
    have z6 := bZ.frozen 6
    have z7 := bZ.frozen 7
    have y0 := bZ.cell 0
    have y1 := bZ.cell 1
    have y2 := bZ.cell 2
    have y3 := bZ.cell 3
    have y4 := bZ.cell 4
    have y5 := bZ.cell 5
    have y6 := bZ.cell 6
    have y7 := bZ.cell 7
    simp only [List.getElem?_toArray, List.getElem?_cons_zero, List.getElem?_cons_succ] at y0 y1 y2 y3 y4 y5 y6 y7
    go_wp2
    have bF := ((((((((bZ.set 0 (.string ⟨#[]⟩)).set 1 (.int .i64 0)).set 2 (.int .i64 0)).set 3 (.int .i64 0)).set 4 (.int .i64 0)).set 5 (.int .i64 0)).set 6 (.int .i64 0)).set 7 (.int .i64 0))
    have d0 := bF.cell 0
    have d1 := bF.cell 1
    have d2 := bF.cell 2
    have d3 := bF.cell 3
    have d4 := bF.cell 4
    have d5 := bF.cell 5
    have d6 := bF.cell 6
    have d7 := bF.cell 7
    simp at d0 d1 d2 d3 d4 d5 d6 d7
    refine bodyPost_ret (v := .tuple #[.agg #[.string ⟨#[]⟩, .int .i64 0, .int .i64 0, .int .i64 0, .int .i64 0, .int .i64 0, .int .i64 0, .int .i64 0], .int .i64 0, .bool false]) (by simp [results, Tryd.results16, go_sem, d0, d1, d2, d3, d4, d5, d6, d7]) rfl ⟨i, HA.out, ((((((((hB1.setCell (p := ⟨w.heap.size, 0, none⟩) (by simp) _).setCell (p := ⟨w.heap.size, 1, none⟩) (by simp) _).setCell (p := ⟨w.heap.size, 2, none⟩) (by simp) _).setCell (p := ⟨w.heap.size, 3, none⟩) (by simp) _).setCell (p := ⟨w.heap.size, 4, none⟩) (by simp) _).setCell (p := ⟨w.heap.size, 5, none⟩) (by simp) _).setCell (p := ⟨w.heap.size, 6, none⟩) (by simp) _).setCell (p := ⟨w.heap.size, 7, none⟩) (by simp) _), .inr ⟨Hq.out, rfl⟩⟩
  | true =>
    have hil : i < l.length := by
      unfold bsHit at hq
      simp at hq
      exact hq.1
    obtain ⟨b, off, rfl, hlt, hr⟩ : ∃ b off, a = some ⟨b, off, none⟩ ∧ b < (w.alloc (.cells #[.string ⟨#[]⟩, .int .i64 0, .int .i64 0, .int .i64 0, .int .i64 0, .int .i64 0, .int .i64 0, .int .i64 0] 36)).heap.size ∧ RowsAt (w.alloc (.cells #[.string ⟨#[]⟩, .int .i64 0, .int .i64 0, .int .i64 0, .int .i64 0, .int .i64 0, .int .i64 0, .int .i64 0] 36)) b off l := by
      rcases Hh.out with h | h
      · rw [h] at hil; simp at hil
      · exact h
    have hR := hr.below hb1 hlt i hil
    have Hq := Lib.hid hq
    have c0 := hR 0 _ rfl
    have c1 := hR 1 _ rfl
    have c2 := hR 2 _ rfl
    have c3 := hR 3 _ rfl
    have c4 := hR 4 _ rfl
    have c5 := hR 5 _ rfl
    have c6 := hR 6 _ rfl
    have c7 := hR 7 _ rfl
    simp only [Nat.add_zero] at c0
    clear hR hr hq Hh
    generalize hy : l[i]! = y at c0 c1 c2 c3 c4 c5 c6 c7
    have Hy := Lib.hid hy
    clear hy
    have h0i : (0 : Int) ≤ (i : Int) := by omega
    have hiz : (i : Int) < (l.length : Int) := by omega
    generalize hn : l.length = n at hil hiz hbig ⊢
    have Hn := Lib.hid hn
    clear hn
    have z0 := bZ.frozen 0
    have z1 := bZ.frozen 1
    have z2 := bZ.frozen 2
    have z3 := bZ.frozen 3
    have z4 := bZ.frozen 4
    have z5 := bZ.frozen 5
    have z6 := bZ.frozen 6
    have z7 := bZ.frozen 7
    have y0 := bZ.cell 0
    have y1 := bZ.cell 1
    have y2 := bZ.cell 2
    have y3 := bZ.cell 3
    have y4 := bZ.cell 4
    have y5 := bZ.cell 5
    have y6 := bZ.cell 6
    have y7 := bZ.cell 7
    simp only [List.getElem?_toArray, List.getElem?_cons_zero, List.getElem?_cons_succ] at y0 y1 y2 y3 y4 y5 y6 y7
    go_wp2
    have bF := ((((((((bZ.set 0 (.string y.name)).set 1 (.int .i64 y.n0)).set 2 (.int .i64 y.n1)).set 3 (.int .i64 y.n2)).set 4 (.int .i64 y.n3)).set 5 (.int .i64 y.n4)).set 6 (.int .i64 y.mux)).set 7 (.int .i64 y.sub))
    have d0 := bF.cell 0
    have d1 := bF.cell 1
    have d2 := bF.cell 2
    have d3 := bF.cell 3
    have d4 := bF.cell 4
    have d5 := bF.cell 5
    have d6 := bF.cell 6
    have d7 := bF.cell 7
    simp at d0 d1 d2 d3 d4 d5 d6 d7
    refine bodyPost_ret (v := .tuple #[.agg #[.string y.name, .int .i64 y.n0, .int .i64 y.n1, .int .i64 y.n2, .int .i64 y.n3, .int .i64 y.n4, .int .i64 y.mux, .int .i64 y.sub], .int .i64 i, .bool true]) (by simp [results, Tryd.results16, go_sem, d0, d1, d2, d3, d4, d5, d6, d7]) rfl ⟨i, HA.out, ((((((((hB1.setCell (p := ⟨w.heap.size, 0, none⟩) (by simp) _).setCell (p := ⟨w.heap.size, 1, none⟩) (by simp) _).setCell (p := ⟨w.heap.size, 2, none⟩) (by simp) _).setCell (p := ⟨w.heap.size, 3, none⟩) (by simp) _).setCell (p := ⟨w.heap.size, 4, none⟩) (by simp) _).setCell (p := ⟨w.heap.size, 5, none⟩) (by simp) _).setCell (p := ⟨w.heap.size, 6, none⟩) (by simp) _).setCell (p := ⟨w.heap.size, 7, none⟩) (by simp) _), .inl ⟨Hq.out, by rw [Hy.out]; rfl⟩⟩
end Go.Proofs.YtakmbmlpgmppiaaDoor
