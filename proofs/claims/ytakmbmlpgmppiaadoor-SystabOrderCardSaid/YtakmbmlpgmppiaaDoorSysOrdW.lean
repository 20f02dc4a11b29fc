/- strainerlaw11.SystabOrder: the walk. -/
import Derived.Test.YtakmbmlpgmppiaaDoorSysOrdL
import Derived.Test.YtakmbmlpgmppiaaDoorSysBuiltW
import Derived.Test.YtakmbmlpgmppiaaDoorSysApp
import Derived.Deep.RegionHeld3
import Derived.BigRegion
namespace Go.Proofs.YtakmbmlpgmppiaaDoor
open Go Go.Proofs Go.RowKit

/-- The first two rows written anew. -/
def swapW (W : World) (g : Nat) (x y : SRow) : World := ((((((((((((((((W.setCell ⟨g, 0, none⟩ (.string x.name)).setCell ⟨g, 1, none⟩ (.int .i64 x.n0)).setCell ⟨g, 2, none⟩ (.int .i64 x.n1)).setCell ⟨g, 3, none⟩ (.int .i64 x.n2)).setCell ⟨g, 4, none⟩ (.int .i64 x.n3)).setCell ⟨g, 5, none⟩ (.int .i64 x.n4)).setCell ⟨g, 6, none⟩ (.int .i64 x.mux)).setCell ⟨g, 7, none⟩ (.int .i64 x.sub)).setCell ⟨g, 8, none⟩ (.string y.name)).setCell ⟨g, 9, none⟩ (.int .i64 y.n0)).setCell ⟨g, 10, none⟩ (.int .i64 y.n1)).setCell ⟨g, 11, none⟩ (.int .i64 y.n2)).setCell ⟨g, 12, none⟩ (.int .i64 y.n3)).setCell ⟨g, 13, none⟩ (.int .i64 y.n4)).setCell ⟨g, 14, none⟩ (.int .i64 y.mux)).setCell ⟨g, 15, none⟩ (.int .i64 y.sub))
theorem swap_below {n g : Nat} {a W : World} {x y : SRow} (h : Below n a W) (hg : n ≤ g) : Below n a (swapW W g x y) := by
  unfold swapW
  exact ((((((((((((((((h).setCell (p := ⟨g, 0, none⟩) hg _).setCell (p := ⟨g, 1, none⟩) hg _).setCell (p := ⟨g, 2, none⟩) hg _).setCell (p := ⟨g, 3, none⟩) hg _).setCell (p := ⟨g, 4, none⟩) hg _).setCell (p := ⟨g, 5, none⟩) hg _).setCell (p := ⟨g, 6, none⟩) hg _).setCell (p := ⟨g, 7, none⟩) hg _).setCell (p := ⟨g, 8, none⟩) hg _).setCell (p := ⟨g, 9, none⟩) hg _).setCell (p := ⟨g, 10, none⟩) hg _).setCell (p := ⟨g, 11, none⟩) hg _).setCell (p := ⟨g, 12, none⟩) hg _).setCell (p := ⟨g, 13, none⟩) hg _).setCell (p := ⟨g, 14, none⟩) hg _).setCell (p := ⟨g, 15, none⟩) hg _
theorem swap_blk {W : World} {g : Nat} {t : TypeId} {cur : Array Value} (h : Blk W g t cur) (x y : SRow) : ∃ cur', Blk (swapW W g x y) g t cur' ∧ (16 ≤ cur.size → (∀ (i : Nat) (v : Value), x.cells[i]? = some v → cur'[i]? = some v) ∧ (∀ (i : Nat) (v : Value), y.cells[i]? = some v → cur'[8 + i]? = some v)) ∧ ∀ q : Nat, 16 ≤ q → cur'[q]? = cur[q]? := by
  refine ⟨_, ((((((((((((((((h).set 0 (.string x.name)).set 1 (.int .i64 x.n0)).set 2 (.int .i64 x.n1)).set 3 (.int .i64 x.n2)).set 4 (.int .i64 x.n3)).set 5 (.int .i64 x.n4)).set 6 (.int .i64 x.mux)).set 7 (.int .i64 x.sub)).set 8 (.string y.name)).set 9 (.int .i64 y.n0)).set 10 (.int .i64 y.n1)).set 11 (.int .i64 y.n2)).set 12 (.int .i64 y.n3)).set 13 (.int .i64 y.n4)).set 14 (.int .i64 y.mux)).set 15 (.int .i64 y.sub), fun hs => ⟨?_, ?_⟩, fun q hq => ?_⟩
  · intro i v hv
    match i, hv with
    | 0, hv => cases hv; (iterate 15 rw [Array.getElem?_setIfInBounds_ne (by omega)]); rw [Array.getElem?_setIfInBounds_self_of_lt (by first | omega | (simp only [Array.size_setIfInBounds]; omega))]
    | 1, hv => cases hv; (iterate 14 rw [Array.getElem?_setIfInBounds_ne (by omega)]); rw [Array.getElem?_setIfInBounds_self_of_lt (by first | omega | (simp only [Array.size_setIfInBounds]; omega))]
    | 2, hv => cases hv; (iterate 13 rw [Array.getElem?_setIfInBounds_ne (by omega)]); rw [Array.getElem?_setIfInBounds_self_of_lt (by first | omega | (simp only [Array.size_setIfInBounds]; omega))]
    | 3, hv => cases hv; (iterate 12 rw [Array.getElem?_setIfInBounds_ne (by omega)]); rw [Array.getElem?_setIfInBounds_self_of_lt (by first | omega | (simp only [Array.size_setIfInBounds]; omega))]
    | 4, hv => cases hv; (iterate 11 rw [Array.getElem?_setIfInBounds_ne (by omega)]); rw [Array.getElem?_setIfInBounds_self_of_lt (by first | omega | (simp only [Array.size_setIfInBounds]; omega))]
    | 5, hv => cases hv; (iterate 10 rw [Array.getElem?_setIfInBounds_ne (by omega)]); rw [Array.getElem?_setIfInBounds_self_of_lt (by first | omega | (simp only [Array.size_setIfInBounds]; omega))]
    | 6, hv => cases hv; (iterate 9 rw [Array.getElem?_setIfInBounds_ne (by omega)]); rw [Array.getElem?_setIfInBounds_self_of_lt (by first | omega | (simp only [Array.size_setIfInBounds]; omega))]
    | 7, hv => cases hv; (iterate 8 rw [Array.getElem?_setIfInBounds_ne (by omega)]); rw [Array.getElem?_setIfInBounds_self_of_lt (by first | omega | (simp only [Array.size_setIfInBounds]; omega))]
    | i + 8, hv => exact absurd (List.getElem?_eq_some_iff.1 hv).1 (by show ¬ i + 8 < 8; omega)
  · intro i v hv
    match i, hv with
    | 0, hv => cases hv; (iterate 7 rw [Array.getElem?_setIfInBounds_ne (by omega)]); rw [Array.getElem?_setIfInBounds_self_of_lt (by first | omega | (simp only [Array.size_setIfInBounds]; omega))]
    | 1, hv => cases hv; (iterate 6 rw [Array.getElem?_setIfInBounds_ne (by omega)]); rw [Array.getElem?_setIfInBounds_self_of_lt (by first | omega | (simp only [Array.size_setIfInBounds]; omega))]
    | 2, hv => cases hv; (iterate 5 rw [Array.getElem?_setIfInBounds_ne (by omega)]); rw [Array.getElem?_setIfInBounds_self_of_lt (by first | omega | (simp only [Array.size_setIfInBounds]; omega))]
    | 3, hv => cases hv; (iterate 4 rw [Array.getElem?_setIfInBounds_ne (by omega)]); rw [Array.getElem?_setIfInBounds_self_of_lt (by first | omega | (simp only [Array.size_setIfInBounds]; omega))]
    | 4, hv => cases hv; (iterate 3 rw [Array.getElem?_setIfInBounds_ne (by omega)]); rw [Array.getElem?_setIfInBounds_self_of_lt (by first | omega | (simp only [Array.size_setIfInBounds]; omega))]
    | 5, hv => cases hv; (iterate 2 rw [Array.getElem?_setIfInBounds_ne (by omega)]); rw [Array.getElem?_setIfInBounds_self_of_lt (by first | omega | (simp only [Array.size_setIfInBounds]; omega))]
    | 6, hv => cases hv; (iterate 1 rw [Array.getElem?_setIfInBounds_ne (by omega)]); rw [Array.getElem?_setIfInBounds_self_of_lt (by first | omega | (simp only [Array.size_setIfInBounds]; omega))]
    | 7, hv => cases hv; rw [Array.getElem?_setIfInBounds_self_of_lt (by first | omega | (simp only [Array.size_setIfInBounds]; omega))]
    | i + 8, hv => exact absurd (List.getElem?_eq_some_iff.1 hv).1 (by show ¬ i + 8 < 8; omega)
  · iterate 16 rw [Array.getElem?_setIfInBounds_ne (by omega)]
theorem rowsAt_drew {W : World} {g o : Nat} {l : List SRow} (h : RowsAt W g o l) : RowsAt W.drew g o l := h
theorem lt_drew {W : World} {g : Nat} (h : g < W.heap.size) : g < W.drew.heap.size := h
theorem swap_rows {W : World} {g : Nat} {t : TypeId} {cur : Array Value} {l l' : List SRow} (hb : Blk W g t cur) (hs : 16 ≤ cur.size) (hr : RowsAt W g 0 l) (hlen : l'.length ≤ l.length) (hl : ∀ j, 2 ≤ j → j < l'.length → l'[j]! = l[j]!) :
    RowsAt (swapW W g l'[0]! l'[1]!) g 0 l' := by
  obtain ⟨cur', h1, h2, h3⟩ := swap_blk hb l'[0]! l'[1]!
  obtain ⟨h2a, h2b⟩ := h2 hs
  intro j hj i v hv
  rw [h1.cell]
  match j, hj, hv with
  | 0, _, hv => simpa using h2a i v hv
  | 1, _, hv => simpa using h2b i v hv
  | j + 2, hj, hv =>
    rw [h3 _ (by omega), ← hb.cell]
    exact hr (j + 2) (by omega) i v (by rw [← hl (j + 2) (by omega) hj]; exact hv)

set_option maxRecDepth 100000 in
set_option maxHeartbeats 1000000 in
theorem order_any (a : Int) (ha0 : 0 ≤ a) (ha1 : a ≤ 255) (w : World) :
    Calls Tryd.prog 6 #[.int .u8 a] w fun e w' => e = .returned (.bool true) ∧ Below w.heap.size w w' := by
  obtain ⟨i0, hi, hz0, hz1, hz2⟩ := info_parts infoRow
  obtain ⟨m, hm⟩ : ∃ m : Nat, a % 10 = (m : Int) := ⟨(a % 10).toNat, by omega⟩
  have hm10 : m < 10 := by omega
  have hmt : a.tmod 10 = (m : Int) := by rw [Int.tmod_eq_emod_of_nonneg ha0, hm]
  clear hm
  obtain ⟨k, hk⟩ : ∃ k : Nat, IntKind.i64.wrap (396 + (m : Int)) = (k : Int) ∧ 396 ≤ k ∧ k ≤ 405 := ⟨396 + m, by rw [IntWalk.i64_in _ (by omega)]; omega, by omega, by omega⟩
  obtain ⟨hkw, hk0, hk1⟩ := hk
  go_enter Tryd.func6, Tryd.ntmps6
  go_upto_region 4 with fail
  go_loopg [4, 5] k (fun gg s4 s5 wr => ∃ kk : Nat, kk ≤ k ∧ k - kk ≤ gg ∧ s5 = .int .i64 kk ∧ Hid (Below w.heap.size w wr) ∧ Hid (wr.ownsRow w.heap.size 36 8 s4 kk (flat (ordL kk))))
  case atStart => exact ⟨0, Nat.zero_le _, by omega, rfl, Below.refl _ w, World.ownsRow_nil _ _ _ _⟩
  case round =>
    obtain ⟨kk, hkk, hg, rfl, BW, OW⟩ := hrel
    by_cases hlt : kk < k
    · have hltz : (kk : Int) < (k : Int) := by omega
      obtain ⟨p, hp, hpe⟩ : ∃ p : Nat, (kk : Int).tdiv 26 = (p : Int) ∧ p = kk / 26 := ⟨kk / 26, by rw [Int.tdiv_eq_ediv_of_nonneg (by omega)]; rfl, rfl⟩
      obtain ⟨q, hq, hqe⟩ : ∃ q : Nat, (p : Int).tmod 26 = (q : Int) ∧ q = p % 26 := ⟨p % 26, by rw [Int.tmod_eq_emod_of_nonneg (by omega)]; rfl, rfl⟩
      obtain ⟨r, hr, hre⟩ : ∃ r : Nat, (kk : Int).tmod 26 = (r : Int) ∧ r = kk % 26 := ⟨kk % 26, by rw [Int.tmod_eq_emod_of_nonneg (by omega)]; rfl, rfl⟩
      have hq26 : q < 26 := by omega
      have hr26 : r < 26 := by omega
      have hE := Lib.hid (show q = kk / 26 % 26 ∧ r = kk % 26 by subst hpe; exact ⟨hqe, hre⟩)
      have w1 : IntKind.i64.wrap (97 + (q : Int)) = 97 + (q : Int) := IntWalk.i64_in _ (by omega)
      have w2 : IntKind.i64.wrap (97 + (r : Int)) = 97 + (r : Int) := IntWalk.i64_in _ (by omega)
      have w3 : IntKind.u8.wrap (97 + (q : Int)) = 97 + (q : Int) := by show (97 + _ : Int) % 256 = _; omega
      have w4 : IntKind.u8.wrap (97 + (r : Int)) = 97 + (r : Int) := by show (97 + _ : Int) % 256 = _; omega
      have hp16 : p < 100 := by omega
      have w0 : IntKind.i64.wrap (p : Int) = (p : Int) := IntWalk.i64_in _ (by omega)
      obtain ⟨nb, hnb⟩ : ∃ nb : ByteArray, nb = ⟨#[UInt8.ofNat (97 + q), UInt8.ofNat (97 + r)]⟩ := ⟨_, rfl⟩
      have hcv : (convert 42 9 (.slice (some ⟨wr.heap.size, 0, none⟩) 2 2)).run Tryd.prog (wr.alloc (.cells #[.int .u8 (97 + (q : Int)), .int .u8 (97 + (r : Int))] 5)) = .ok (.string nb) (wr.alloc (.cells #[.int .u8 (97 + (q : Int)), .int .u8 (97 + (r : Int))] 5)) := by
        rw [hnb]
        refine run_convert_bytes_back _ _ _ 5 ⟨wr.heap.size, 0, none⟩ 2 [UInt8.ofNat (97 + q), UInt8.ofNat (97 + r)] Tryd.underlying42 Tryd.underlying5 Tryd.underlying9 (fun j hj => ?_)
        have hb := Blk.new wr 5 #[.int .u8 (97 + (q : Int)), .int .u8 (97 + (r : Int))]
        match j, hj with
        | 0, _ => exact (hb.cell 0).trans (by simp; omega)
        | 1, _ => exact (hb.cell 1).trans (by simp; omega)
      have hY : (SRow.mk (⟨#[110]⟩ ++ nb) (-1) (-1) (-1) (-1) (kk : Int) 0 0) = ordRow kk := by
        rw [hnb, hqe, hre, hpe]
        rfl
      have HY := Lib.hid hY
      have hns : ¬ 9223372036854775807 < 1 + nb.size := by rw [hnb]; exact of_decide_eq_true rfl
      have hBw := Blk.new (wr.alloc (.cells #[.int .u8 (97 + (q : Int)), .int .u8 (97 + (r : Int))] 5)) 36 #[.string (⟨#[110]⟩ ++ nb), .int .i64 (-1), .int .i64 (-1), .int .i64 (-1), .int .i64 (-1), .int .i64 (kk : Int), .int .i64 0, .int .i64 0]
      simp only [World.size_alloc] at hBw
      have hnews : ∀ j u, (SRow.mk (⟨#[110]⟩ ++ nb) (-1) (-1) (-1) (-1) (kk : Int) 0 0).cells[j]? = some u → _ := World.news_of_block hBw
      have HNW := Lib.hid hnews
      have hB2 := ((BW.out.alloc BW.out.size (.cells #[.int .u8 (97 + (q : Int)), .int .u8 (97 + (r : Int))] 5)).alloc (Nat.le_trans BW.out.size (by simp)) (.cells #[.string (⟨#[110]⟩ ++ nb), .int .i64 (-1), .int .i64 (-1), .int .i64 (-1), .int .i64 (-1), .int .i64 (kk : Int), .int .i64 0, .int .i64 0] 36))
      have HB2 := Lib.hid hB2
      clear hpe hqe hre hnb hY hBw hnews hB2
      go_wp2_with (at_builtin; refine wpList_append_own _ rfl _ _ 27 rfl w.heap.size 36 i0 _ 8 72 Tryd.underlying27 hi hz0 hz1 hz2 rfl (by decide) _ kk _ rfl ((OW.out.alloc _).alloc _) ⟨wr.heap.size + 1, 0, none⟩ 1 1 (SRow.mk (⟨#[110]⟩ ++ nb) (-1) (-1) (-1) (-1) (kk : Int) 0 0).cells rfl rfl HNW.out (one8 _) (by unfold maxLen; omega) (by omega) HB2.out.size ?_; intro v' w' hown' hgrow _)
      have hBn := HB2.out.grown hgrow HB2.out.size (fun j hj => (OW.out.lt j hj).1)
      rw [HY.out] at hown'
      have HO' : Hid (w'.ownsRow w.heap.size 36 8 v' (kk + 1) (flat (ordL (kk + 1)))) := by
        have e : flat (ordL (kk + 1)) = flat (ordL kk) ++ (ordRow kk).cells := by rw [ordL_succ, flat_app]; simp [flat]
        rw [e]
        exact hown'
      clear hown' hgrow HNW HY HB2 hcv
      go_wp2
      go_roundg (k - (kk + 1))
      case measure => omega
      case rel => exact ⟨kk + 1, by omega, by omega, by go_num, hBn, HO'⟩
    · obtain rfl : kk = k := by omega
      have hltz : ¬ (kk : Int) < (kk : Int) := by omega
      obtain ⟨g, cp, cur, rfl, hbg, hcur, hcp, hcpm, hcsz, htake⟩ := OW.out.2.resolve_left (fun h => absurd h.2 (by omega))
      have hOW : wr.ownsRow w.heap.size 36 8 (.slice (some ⟨g, 0, none⟩) (ordL kk).length cp) (ordL kk).length (flat (ordL kk)) := by rw [ordL_len]; exact OW.out
      have hx := (rowsV_owned hOW).1
      rw [ordL_len] at hx
      have Hri := Lib.hid (right_any _ (ordL kk) wr (by rw [ordL_len]; omega) hx (fun r hr => by
        obtain ⟨i, hi', rfl⟩ := List.mem_map.1 hr
        have : (ordRow i).name.size = 3 := rfl
        omega))
      have HX := Lib.hid hx
      have HC : Hid (Blk wr g 36 cur) := hcur
      clear hOW hx OW hcur htake hi hz0 hz1 hz2
      go_wp2_with fail
      refine Hri.out.mono ?_
      rintro e w2 ⟨x, v, rfl, hs, hb2⟩
      obtain ⟨rfl, hv⟩ : x = 0 ∧ Hid (v = if kk ≤ 400 then 0 else 3) := by
        by_cases h4 : kk ≤ 400
        · obtain ⟨h1, h2⟩ := RightSaid.one hs (.inr ⟨by rw [ordL_len]; exact h4, .inr ⟨rfl, rfl, ordL_ok hk1⟩⟩)
          exact ⟨h1, by rw [if_pos h4]; exact h2⟩
        · obtain ⟨h1, h2⟩ := RightSaid.one hs (.inl ⟨by rw [ordL_len]; omega, rfl, rfl⟩)
          exact ⟨h1, by rw [if_neg h4]; exact h2⟩
      clear Hri hs
      have hHC := HC.out.below hb2 HC.out.lt
      have hHX := HX.out.below hb2
      have HB2 := Lib.hid (BW.out.trans (hb2.mono BW.out.size))
      clear hb2 HC HX BW
      have hra : Hid (RowsAt w2 g 0 (ordL kk)) := by
        obtain ⟨ad, c, h1, h2⟩ := hHX
        simp only [Value.slice.injEq] at h1
        rcases h2 with h | ⟨b, off, h3, _, h4⟩
        · have := ordL_len kk; rw [h] at this; simp at this; omega
        · rw [← h1.1] at h3
          simp only [Option.some.injEq, Addr.mk.injEq, and_true] at h3
          obtain ⟨rfl, rfl⟩ := h3
          exact h4
      have HBK := Lib.hid hHC
      have c0 := hra.out 0 (by rw [ordL_len]; omega)
      have c1 := hra.out 1 (by rw [ordL_len]; omega)
      rw [ordL_get (by omega)] at c0 c1
      have a0 := c0 0 _ rfl
      have a1 := c0 1 _ rfl
      have a2 := c0 2 _ rfl
      have a3 := c0 3 _ rfl
      have a4 := c0 4 _ rfl
      have a5 := c0 5 _ rfl
      have a6 := c0 6 _ rfl
      have a7 := c0 7 _ rfl
      have b0 := c1 0 _ rfl
      have b1 := c1 1 _ rfl
      have b2 := c1 2 _ rfl
      have b3 := c1 3 _ rfl
      have b4 := c1 4 _ rfl
      have b5 := c1 5 _ rfl
      have b6 := c1 6 _ rfl
      have b7 := c1 7 _ rfl
      clear c0 c1 hHC hHX
      simp only [Nat.zero_add, Nat.add_zero, Nat.zero_mul, Nat.one_mul] at a0 a1 a2 a3 a4 a5 a6 a7 b0 b1 b2 b3 b4 b5 b6 b7
      generalize hN0 : (ordRow 0).name = n0 at a0
      generalize hN1 : (ordRow 1).name = n1 at b0
      have HN0 := Lib.hid hN0
      have HN1 := Lib.hid hN1
      clear hN0 hN1
      have f : ∀ j, w2.frozen? ⟨g, j, none⟩ = false := fun j => HBK.out.frozen j
      have hk00 : (0 : Int) < (kk : Int) := by omega
      have hk11 : (1 : Int) < (kk : Int) := by omega
      go_upto_region 8 with fail
      go_region
      have HS := Lib.hid (swap_rows (l' := swapT) HBK.out (by rw [hcsz]; omega) hra.out (by rw [ordL_len]; show 10 ≤ kk; omega) (fun j hj hj' => by
        have hj10 : j < 10 := hj'
        rw [ordL_get (by omega)]
        have : j = 2 ∨ j = 3 ∨ j = 4 ∨ j = 5 ∨ j = 6 ∨ j = 7 ∨ j = 8 ∨ j = 9 := by omega
        rcases this with rfl | rfl | rfl | rfl | rfl | rfl | rfl | rfl <;> rfl))
      have HB3 := Lib.hid (swap_below (x := swapT[0]!) (y := swapT[1]!) HB2.out hbg)
      have HL3 := Lib.hid ((swap_blk HBK.out swapT[0]! swapT[1]!).choose_spec.1.lt)
      have HS4 : Hid (RowsAt (swapW w2 g swapT[0]! swapT[1]!).drew g 0 swapT) := rowsAt_drew HS.out
      have HB4 : Hid (Below w.heap.size w (swapW w2 g swapT[0]! swapT[1]!).drew) := HB3.out.drew
      have HL4 : Hid (g < (swapW w2 g swapT[0]! swapT[1]!).drew.heap.size) := lt_drew HL3.out
      obtain rfl := HN0.out
      obtain rfl := HN1.out
      change Exit.then _ _ Exit.normal _ (swapW w2 g swapT[0]! swapT[1]!).drew
      clear HS HB3 HL3 a0 a1 a2 a3 a4 a5 a6 a7 b0 b1 b2 b3 b4 b5 b6 b7 f HBK hra HB2 HN0 HN1
      generalize (swapW w2 g swapT[0]! swapT[1]!).drew = W4 at *
      have hcp10 : (10 : Int) ≤ (cp : Int) := by omega
      have hz8 := size8
      have hRi := right_any (.slice (some ⟨g, 0, none⟩) 10 cp) swapT W4 (by decide) ⟨_, _, rfl, .inr ⟨g, 0, rfl, HL4.out, HS4.out⟩⟩ (fun r hr => by
        have : ∀ r ∈ swapT, r.name.size = 3 := by decide +kernel
        have := this r hr
        omega)
      have HRi := Lib.hid hRi
      clear hRi HS4 HL4
      go_wp2_with fail
      refine HRi.out.mono ?_
      rintro e w5 ⟨x, v', rfl, hs, hb5⟩
      obtain ⟨rfl, rfl⟩ := RightSaid.one hs swap_one
      clear hs HRi
      have HB5 := Lib.hid (HB4.out.trans (hb5.mono HB4.out.size))
      clear hb5 HB4
      by_cases h4 : kk ≤ 400
      · obtain rfl : v = 0 := by rw [hv.out, if_pos h4]
        have hz1 : decide ((400 : Int) < (kk : Int)) = false := decide_eq_false (by omega)
        have hz2 : decide ((kk : Int) ≤ 400) = true := decide_eq_true (by omega)
        go_wp2_with (go_at_call 13; refine (awake_any _).mono ?_; rintro e wa ⟨rfl, hba⟩)
        go_ret
        exact ⟨rfl, HB5.out.trans (hba.mono HB5.out.size)⟩
      · obtain rfl : v = 3 := by rw [hv.out, if_neg h4]
        have hz1 : decide ((400 : Int) < (kk : Int)) = true := decide_eq_true (by omega)
        have hz2 : decide ((kk : Int) ≤ 400) = false := decide_eq_false (by omega)
        go_wp2_with (go_at_call 13; refine (awake_any _).mono ?_; rintro e wa ⟨rfl, hba⟩)
        go_ret
        exact ⟨rfl, HB5.out.trans (hba.mono HB5.out.size)⟩
end Go.Proofs.YtakmbmlpgmppiaaDoor
