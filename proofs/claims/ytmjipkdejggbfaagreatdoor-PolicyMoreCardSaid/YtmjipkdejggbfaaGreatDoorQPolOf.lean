/- strainerlaw14.of: a document's policy as the program's. -/
import Derived.Test.YtmjipkdejggbfaaGreatDoorQPolIn
namespace Go.Proofs.YtmjipkdejggbfaaGreatDoor
open Go Go.Proofs Go.RowKit

abbrev TPl : Nat := 26
theorem take_snoc {α : Type} {l : List α} {i : Nat} {x : α} (h : l[i]? = some x) : l.take (i + 1) = l.take i ++ [x] := by
  have hl := (List.getElem?_eq_some_iff.1 h)
  rw [List.take_succ_eq_append_getElem hl.1, hl.2]
theorem len_take {α : Type} {l : List α} {i : Nat} (h : i ≤ l.length) : (l.take i).length = i := by rw [List.length_take]; omega
set_option maxRecDepth 100000 in
set_option maxHeartbeats 8000000 in
theorem ofI_any {k n : Int} {x : Bool} {rs : List PRule} {vr : Value} {N0 : Nat} (h500 : rs.length ≤ 500) (hcd : ∀ r ∈ rs, r.conds.length ≤ 1000000) (w : World) (hN0 : N0 ≤ w.heap.size) (hR : RulesI N0 w vr rs) :
    Calls Tryz.prog 14 #[PolV k n x vr] w fun e w' => ∃ vo, e = .returned (PolV k n x vo) ∧ RulesR TRl TCd w.heap.size w' vo rs ∧ Below w.heap.size w w' := by
  obtain ⟨va, vc, rfl, hR⟩ := hR
  unfold PolV
  obtain ⟨L, hL⟩ : ∃ L, rs.length = L := ⟨_, rfl⟩
  rw [hL] at h500 ⊢
  have HL := Lib.hid hL
  have HR0 := Lib.hid hR
  have HCD := Lib.hid hcd
  have HP3 : Hid (Blk (((w.alloc (.cells #[.int .i64 k, .int .i64 n, .bool x, .slice va L vc] TPr)).alloc (.cells #[.int .i64 0, .int .i64 0, .bool false, .slice none 0 0] TPl)).alloc (.cells #[.int .i64 k, .int .i64 n, .bool x, .slice none 0 0] TPl)) w.heap.size TPr #[.int .i64 k, .int .i64 n, .bool x, .slice va L vc]) := Blk.alloc (Blk.alloc (Blk.new w _ _) _) _
  have hz3 := (Blk.new (w.alloc (.cells #[.int .i64 k, .int .i64 n, .bool x, .slice va L vc] TPr)) TPl #[.int .i64 0, .int .i64 0, .bool false, .slice none 0 0]).alloc (.cells #[.int .i64 k, .int .i64 n, .bool x, .slice none 0 0] TPl)
  have ho3 := Blk.new ((w.alloc (.cells #[.int .i64 k, .int .i64 n, .bool x, .slice va L vc] TPr)).alloc (.cells #[.int .i64 0, .int .i64 0, .bool false, .slice none 0 0] TPl)) TPl #[.int .i64 k, .int .i64 n, .bool x, .slice none 0 0]
  simp only [World.size_alloc] at hz3 ho3
  have HZ3 := Lib.hid hz3
  have HO3 : Hid (Blk (((w.alloc (.cells #[.int .i64 k, .int .i64 n, .bool x, .slice va L vc] TPr)).alloc (.cells #[.int .i64 0, .int .i64 0, .bool false, .slice none 0 0] TPl)).alloc (.cells #[.int .i64 k, .int .i64 n, .bool x, .slice none 0 0] TPl)) (w.heap.size + 2) TPl #[.int .i64 k, .int .i64 n, .bool x, .slice none 0 0]) := ho3
  have HB3 : Hid (Below w.heap.size w (((w.alloc (.cells #[.int .i64 k, .int .i64 n, .bool x, .slice va L vc] TPr)).alloc (.cells #[.int .i64 0, .int .i64 0, .bool false, .slice none 0 0] TPl)).alloc (.cells #[.int .i64 k, .int .i64 n, .bool x, .slice none 0 0] TPl))) := (((Below.refl w.heap.size w).alloc (Nat.le_refl _) _).alloc (by simp) _).alloc (by simp; omega) _
  clear hL hR hcd hz3 ho3
  obtain ⟨ic, hc, hz0c, hz1c, hz2c⟩ := info_parts infoCd
  obtain ⟨ir, hr, hz0r, hz1r, hz2r⟩ := info_parts infoRl
  go_enter Tryz.func14, Tryz.ntmps14
  go_upto_region 3 with fail
  generalize ((w.alloc (.cells #[.int .i64 k, .int .i64 n, .bool x, .slice va L vc] TPr)).alloc (.cells #[.int .i64 0, .int .i64 0, .bool false, .slice none 0 0] TPl)).alloc (.cells #[.int .i64 k, .int .i64 n, .bool x, .slice none 0 0] TPl) = w3 at *
  go_loopg [4] (L + 1) (fun gg iv wr => ∃ (i : Nat) (vo : Value), i ≤ L ∧ L - i < gg ∧ iv = .int .i64 (i : Int) ∧ Hid (Blk wr w.heap.size TPr #[.int .i64 k, .int .i64 n, .bool x, .slice va L vc]) ∧ Hid (Blk wr (w.heap.size + 1) TPl #[.int .i64 0, .int .i64 0, .bool false, .slice none 0 0]) ∧ Hid (Blk wr (w.heap.size + 2) TPl #[.int .i64 k, .int .i64 n, .bool x, vo]) ∧ Hid (RulesR TRl TCd ((w.heap.size + 2) + 1) wr vo (rs.take i)) ∧ Hid (Below w.heap.size w wr))
  case atStart => exact ⟨0, .slice none 0 0, Nat.zero_le _, by omega, rfl, HP3, HZ3, HO3, RulesR.nil _ _ _ _, HB3⟩
  case round =>
    obtain ⟨i, vo, hiL, hgg, rfl, HP, HZ, HO, HRo, HB⟩ := hrel
    clear HP3 HZ3 HO3 HB3
    have i0 : (0 : Int) ≤ (i : Int) := by omega
    have hlt0 : i ≤ rs.length := by rw [HL.out]; exact hiL
    obtain ⟨oa, oc, rfl⟩ := HRo.out.slice
    have p3 := HP.out.cell 3
    have o3 := HO.out.cell 3
    rw [len_take hlt0] at HO o3
    simp only [List.getElem?_toArray, List.getElem?_cons_zero, List.getElem?_cons_succ] at p3 o3
    have hOl : (w.heap.size + 2) < wr.heap.size := Blk.lt HO.out
    by_cases hlt : i < L
    · have hltz : (i : Int) < (L : Int) := by omega
      obtain ⟨⟨nm, rk, rn, cs⟩, hr0⟩ : ∃ r, rs[i]? = some r := ⟨_, List.getElem?_eq_getElem (by rw [HL.out]; exact hlt)⟩
      obtain ⟨g, off, ua, uc, rfl, hg, e0, e1, e2, e3, hCA⟩ := HR0.out i _ hr0
      have hg : g < w.heap.size := by omega
      dsimp only at e0 e1 e2 e3 hCA
      have hCl : cs.length ≤ 1000000 := HCD.out _ (List.mem_of_getElem? hr0)
      have HT := Lib.hid (take_snoc hr0)
      generalize hCL : cs.length = CL at *
      have HCL := Lib.hid hCL
      have y0 := (HB.out.cell (p := ⟨g, off + i * 4, none⟩) hg).trans e0
      have y1 := (HB.out.cell (p := ⟨g, off + i * 4 + 1, none⟩) hg).trans e1
      have y2 := (HB.out.cell (p := ⟨g, off + i * 4 + 2, none⟩) hg).trans e2
      have y3 := (HB.out.cell (p := ⟨g, off + i * 4 + 3, none⟩) hg).trans e3
      have HR5 : Hid (Blk ((wr.alloc (.cells #[.string nm, .int .i64 rk, .int .i64 rn, .slice ua CL uc] TRr)).alloc (.cells #[.string nm, .int .i64 rk, .int .i64 rn, .slice none 0 0] TRl)) wr.heap.size TRr #[.string nm, .int .i64 rk, .int .i64 rn, .slice ua CL uc]) := Blk.alloc (Blk.new wr _ _) _
      have hx5 := Blk.new (wr.alloc (.cells #[.string nm, .int .i64 rk, .int .i64 rn, .slice ua CL uc] TRr)) TRl #[.string nm, .int .i64 rk, .int .i64 rn, .slice none 0 0]
      simp only [World.size_alloc] at hx5
      have HX5 := Lib.hid hx5
      have HB5 : Hid (Below (wr.heap.size) wr ((wr.alloc (.cells #[.string nm, .int .i64 rk, .int .i64 rn, .slice ua CL uc] TRr)).alloc (.cells #[.string nm, .int .i64 rk, .int .i64 rn, .slice none 0 0] TRl))) := ((Below.refl _ wr).alloc (Nat.le_refl _) _).alloc (by simp) _
      have HCA := Lib.hid (hCA.below HB.out hN0)
      clear hr0 e0 e1 e2 e3 hx5 hCA hCL
      go_upto_region 8 with fail
      generalize (wr.alloc (.cells #[.string nm, .int .i64 rk, .int .i64 rn, .slice ua CL uc] TRr)).alloc (.cells #[.string nm, .int .i64 rk, .int .i64 rn, .slice none 0 0] TRl) = w5 at *
      clear y0 y1 y2 y3
      have r3 := HR5.out.cell 3
      simp only [List.getElem?_toArray, List.getElem?_cons_zero, List.getElem?_cons_succ] at r3
      generalize hXB : wr.heap.size + 1 = XB at *
      generalize hRB : wr.heap.size = RB at *
      have hRX : RB < XB := by omega
      generalize hwo : wr = wo at *
      clear hwo
      go_loopg [7] (CL + 1) (fun gg2 kv wr => ∃ (q : Nat) (uq : Value), q ≤ CL ∧ CL - q < gg2 ∧ kv = .int .i64 (q : Int) ∧ Hid (Blk wr XB TRl #[.string nm, .int .i64 rk, .int .i64 rn, uq]) ∧ Hid (wr.ownsRow (XB + 1) TCd 4 uq q (flatC (cs.take q))) ∧ Hid (Below XB w5 wr))
      case atStart => exact ⟨0, .slice none 0 0, Nat.zero_le _, by omega, rfl, HX5, World.ownsRow_nil _ _ _ _, Below.refl _ _⟩
      case round =>
        obtain ⟨q, uq, hqL, hgg2, rfl, HXq, HUq, HBq⟩ := hrel
        have q0 : (0 : Int) ≤ (q : Int) := by omega
        have r3q := ((HR5.out.below HBq.out hRX)).cell 3
        have x3 := HXq.out.cell 3
        have x0 := HXq.out.cell 0
        have x1 := HXq.out.cell 1
        have x2 := HXq.out.cell 2
        simp only [List.getElem?_toArray, List.getElem?_cons_zero, List.getElem?_cons_succ] at r3q x0 x1 x2 x3
        have hXl : XB < wr.heap.size := Blk.lt HXq.out
        obtain ⟨xa, xc, rfl⟩ : ∃ xa xc, uq = .slice xa q xc := by
          rcases HUq.out.2 with ⟨h, h0⟩ | ⟨g2, cc, _, h, _⟩
          · exact ⟨none, 0, by rw [h, h0]⟩
          · exact ⟨_, _, h⟩
        by_cases hq : q < CL
        · have hqz : (q : Int) < (CL : Int) := by omega
          obtain ⟨⟨A, O, M2, V⟩, hc0⟩ : ∃ c, cs[q]? = some c := ⟨_, List.getElem?_eq_getElem (by rw [HCL.out]; exact hq)⟩
          obtain ⟨gu, off2, rfl, hgu, c0, c1, c2, c3⟩ := HCA.out q _ hc0
          dsimp only at c0 c1 c2 c3
          have HTC := Lib.hid (take_snoc hc0)
          have ce : ∀ j v, wo.cell? ⟨gu, j, none⟩ = some v → wr.cell? ⟨gu, j, none⟩ = some v := fun j v hv => (HBq.out.cell (p := ⟨gu, j, none⟩) (by show gu < XB; omega)).trans ((HB5.out.cell (p := ⟨gu, j, none⟩) (by show gu < RB; omega)).trans hv)
          have c0 := ce _ _ c0
          have c1 := ce _ _ c1
          have c2 := ce _ _ c2
          have c3 := ce _ _ c3
          have HC6 : Hid (Blk (wr.alloc (.cells #[.int .i64 A, .int .i64 O, .int .u64 M2, .int .u64 V] TCr)) wr.heap.size TCr #[.int .i64 A, .int .i64 O, .int .u64 M2, .int .u64 V]) := Blk.new wr _ _
          have HX6a : Hid (Blk (wr.alloc (.cells #[.int .i64 A, .int .i64 O, .int .u64 M2, .int .u64 V] TCr)) XB TRl #[.string nm, .int .i64 rk, .int .i64 rn, .slice xa q xc]) := Blk.alloc HXq.out _
          have HU6 : Hid ((wr.alloc (.cells #[.int .i64 A, .int .i64 O, .int .u64 M2, .int .u64 V] TCr)).ownsRow (XB + 1) TCd 4 (.slice xa q xc) q (flatC (cs.take q))) := World.ownsRow.alloc HUq.out _
          have HB6a : Hid (Below XB w5 (wr.alloc (.cells #[.int .i64 A, .int .i64 O, .int .u64 M2, .int .u64 V] TCr))) := HBq.out.alloc (by omega) _
          clear hc0 ce x0 x1 x2
          go_upto_region 11 with fail
          generalize wr.alloc (.cells #[.int .i64 A, .int .i64 O, .int .u64 M2, .int .u64 V] TCr) = w6 at *
          generalize wr.heap.size = CB at *
          clear c0 c1 c2 c3
          have c0 := HC6.out.cell 0
          have c1 := HC6.out.cell 1
          have c2 := HC6.out.cell 2
          have c3 := HC6.out.cell 3
          have x3' := HX6a.out.cell 3
          simp only [List.getElem?_toArray, List.getElem?_cons_zero, List.getElem?_cons_succ] at c0 c1 c2 c3 x3'
          have hX6 : XB < w6.heap.size := Blk.lt HX6a.out
          have HA2 := Lib.hid (HU6.out.alloc (.cells #[.int .i64 A, .int .i64 O, .int .u64 M2, .int .u64 V] TCd))
          have HX6 := Lib.hid (HX6a.out.alloc (.cells #[.int .i64 A, .int .i64 O, .int .u64 M2, .int .u64 V] TCd))
          have HB6 := Lib.hid (HB6a.out.alloc (Nat.le_of_lt hX6) (.cells #[.int .i64 A, .int .i64 O, .int .u64 M2, .int .u64 V] TCd))
          have hob6 : XB + 1 ≤ (w6.alloc (.cells #[.int .i64 A, .int .i64 O, .int .u64 M2, .int .u64 V] TCd)).heap.size := by simp; omega
          go_wp2_with (at_builtin; refine wpList_append_own _ rfl _ _ 69 rfl (XB + 1) 74 ic (.agg #[.int .i64 0, .int .i64 0, .int .u64 0, .int .u64 0]) 4 32 Tryz.underlying69 hc hz0c hz1c hz2c rfl (by decide) _ q _ rfl HA2.out ⟨w6.heap.size, 0, none⟩ 1 1 [.int .i64 A, .int .i64 O, .int .u64 M2, .int .u64 V] rfl ?ac1 ?ac2 ?ac3 ?ac4 ?ac5 ?ac6 ?_; (case ac1 => rfl); (case ac2 => exact cells4 _ _ _ _ _ _); (case ac3 => simp [Value.oneCell']); (case ac4 => unfold maxLen; omega); (case ac5 => omega); (case ac6 => exact hob6); intro v' w7 hown' hgrow _; obtain ⟨g', cap', rfl⟩ := ownsRow_succ hown'; have HX7 := Lib.hid (blk_grown HX6.out hgrow (fun q e => by have := (HA2.out.lt q e).1; omega)); have f7 := HX7.out.frozen 3; have o7 := HX7.out.cell 3; simp only [List.getElem?_toArray, List.getElem?_cons_zero, List.getElem?_cons_succ] at o7)
          have HB7 := HB6.out.grown hgrow (by simp; omega) (fun q e => by have := (HA2.out.lt q e).1; omega)
          go_roundg (CL - q)
          case measure => omega
          case rel => exact ⟨q + 1, .slice (some ⟨g', 0, none⟩) (q + 1) cap', by omega, by omega, by go_num, HX7.out.set 3 _, (by show World.ownsRow _ _ _ _ _ _ _; rw [HTC.out, flatC_snoc]; exact ownP_set hown' (by omega)), HB7.setCell (p := ⟨XB, 3, none⟩) (Nat.le_refl _) _⟩
        · obtain rfl : CL = q := by omega
          have hqz : ¬ (CL : Int) < (CL : Int) := by omega
          have HFull : Hid (cs.take CL = cs) := by show _ = _; rw [← HCL.out]; exact List.take_length
          have hXO : (w.heap.size + 2) < XB := by omega
          have HOq := Lib.hid ((HO.out.below HB5.out hOl).below HBq.out hXO)
          have HPq := Lib.hid ((HP.out.below HB5.out (by omega)).below HBq.out (by omega))
          have HZq := Lib.hid ((HZ.out.below HB5.out (by omega)).below HBq.out (by omega))
          obtain ⟨us, hu1, hu2, hu3⟩ := HRo.out
          rw [len_take hlt0] at hu1 hu2
          have hb : Below RB wo wr := HB5.out.trans (HBq.out.mono (by omega))
          have hbr : Below wo.heap.size wo wr := by rw [hRB]; exact hb
          have HU1 := Lib.hid hu1
          have HU3 : Hid (∀ (j : Nat) (u : Value) (r : PRule), us[j]? = some u → (rs.take i)[j]? = some r → wr.ownsRow ((w.heap.size + 2) + 1) TCd 4 u r.conds.length (flatC r.conds)) := fun j u r hj hr => ownP_below (hu3 j u r hj hr) hbr
          have HUB := Lib.hid (ownP_below hu2 hbr)
          have o3q := HOq.out.cell 3
          simp only [List.getElem?_toArray, List.getElem?_cons_zero, List.getElem?_cons_succ] at o3q
          have HBw : Hid (Below w.heap.size w wr) := HB.out.trans (hb.mono (by omega))
          have HA2 := Lib.hid (HUB.out.alloc (.cells #[.string nm, .int .i64 rk, .int .i64 rn, .slice xa CL xc] TRl))
          have HO6 := Lib.hid (HOq.out.alloc (.cells #[.string nm, .int .i64 rk, .int .i64 rn, .slice xa CL xc] TRl))
          have HP6 := Lib.hid (HPq.out.alloc (.cells #[.string nm, .int .i64 rk, .int .i64 rn, .slice xa CL xc] TRl))
          have HZ6 := Lib.hid (HZq.out.alloc (.cells #[.string nm, .int .i64 rk, .int .i64 rn, .slice xa CL xc] TRl))
          have HB6 := Lib.hid (HBw.out.alloc HBw.out.size (.cells #[.string nm, .int .i64 rk, .int .i64 rn, .slice xa CL xc] TRl))
          have hob6 : (w.heap.size + 2) + 1 ≤ (wr.alloc (.cells #[.string nm, .int .i64 rk, .int .i64 rn, .slice xa CL xc] TRl)).heap.size := by simp; omega
          clear hu1 hu2 hu3 hb hbr hRB hXB
          go_wp2_with (at_builtin; refine wpList_append_own _ rfl _ _ 24 rfl ((w.heap.size + 2) + 1) 71 ir (.agg #[.string ⟨#[]⟩, .int .i64 0, .int .i64 0, .slice none 0 0]) 4 56 Tryz.underlying24 hr hz0r hz1r hz2r rfl (by decide) _ i _ rfl HA2.out ⟨wr.heap.size, 0, none⟩ 1 1 [.string nm, .int .i64 rk, .int .i64 rn, .slice xa CL xc] rfl ?ac1 ?ac2 ?ac3 ?ac4 ?ac5 ?ac6 ?_; (case ac1 => rfl); (case ac2 => exact cells4 _ _ _ _ _ _); (case ac3 => simp [Value.oneCell']); (case ac4 => unfold maxLen; omega); (case ac5 => omega); (case ac6 => exact hob6); intro v' w7 hown' hgrow _; obtain ⟨g', cap', rfl⟩ := ownsRow_succ hown'; have HO7 := Lib.hid (blk_grown HO6.out hgrow (fun q e => by have := (HA2.out.lt q e).1; omega)); have f7 := HO7.out.frozen 3; have o7 := HO7.out.cell 3; simp only [List.getElem?_toArray, List.getElem?_cons_zero, List.getElem?_cons_succ] at o7)
          have HP7 := Lib.hid (blk_grown HP6.out hgrow (fun q e => by have := (HA2.out.lt q e).1; omega))
          have HZ7 := Lib.hid (blk_grown HZ6.out hgrow (fun q e => by have := (HA2.out.lt q e).1; omega))
          have HB7 := HB6.out.grown hgrow HB6.out.size (fun q e => by have := (HA2.out.lt q e).1; omega)
          go_roundg (L - i)
          case measure => omega
          case rel => exact ⟨i + 1, .slice (some ⟨g', 0, none⟩) (i + 1) cap', by omega, by omega, by go_num, HP7.out.other (by omega) 3 _, HZ7.out.other (by omega) 3 _, HO7.out.set 3 _, (by rw [HT.out]; exact rules_snoc (us := us) (by rw [HU1.out, len_take hlt0]) (by rw [len_take hlt0]; exact HUB.out) HU3.out (by rw [HCL.out, ← HFull.out]; exact ownP_mono HUq.out (by omega)) hgrow (by rw [len_take hlt0]; exact hown')), HB7.setCell (p := ⟨w.heap.size + 2, 3, none⟩) (by show w.heap.size ≤ w.heap.size + 2; omega) _⟩
    · obtain rfl : i = L := by omega
      have hltz : ¬ (i : Int) < (i : Int) := by omega
      have HFull : Hid (rs.take i = rs) := by show _ = _; rw [← HL.out]; exact List.take_length
      have z0 := HZ.out.frozen 0
      have z1 := HZ.out.frozen 1
      have z2 := HZ.out.frozen 2
      have z3 := HZ.out.frozen 3
      have y0 := HZ.out.cell 0
      have y1 := HZ.out.cell 1
      have y2 := HZ.out.cell 2
      have y3 := HZ.out.cell 3
      have o0 := HO.out.cell 0
      have o1 := HO.out.cell 1
      have o2 := HO.out.cell 2
      simp only [List.getElem?_toArray, List.getElem?_cons_zero, List.getElem?_cons_succ] at y0 y1 y2 y3 o0 o1 o2
      go_wp2
      have bF := ((((HZ.out.set 0 (.int .i64 k)).set 1 (.int .i64 n)).set 2 (.bool x)).set 3 (.slice oa i oc))
      have hF := ((((HB.out.setCell (p := ⟨w.heap.size + 1, 0, none⟩) (Nat.le_succ _) (.int .i64 k)).setCell (p := ⟨w.heap.size + 1, 1, none⟩) (Nat.le_succ _) (.int .i64 n)).setCell (p := ⟨w.heap.size + 1, 2, none⟩) (Nat.le_succ _) (.bool x)).setCell (p := ⟨w.heap.size + 1, 3, none⟩) (Nat.le_succ _) (.slice oa i oc))
      have hq := (((HRo.out.setG (g := w.heap.size + 1) (j := 0) (u := .int .i64 k) HZ.out (by decide) (by decide)).setG (g := w.heap.size + 1) (j := 1) (u := .int .i64 n) (HZ.out.set 0 _) (by decide) (by decide)).setG (g := w.heap.size + 1) (j := 2) (u := .bool x) ((HZ.out.set 0 _).set 1 _) (by decide) (by decide)).setG (g := w.heap.size + 1) (j := 3) (u := .slice oa i oc) (((HZ.out.set 0 _).set 1 _).set 2 _) (by decide) (by decide)
      have e0 := bF.cell 0
      have e1 := bF.cell 1
      have e2 := bF.cell 2
      have e3 := bF.cell 3
      simp at e0 e1 e2 e3
      refine bodyPost_ret (v := .agg #[.int .i64 k, .int .i64 n, .bool x, .slice oa i oc]) (by simp [results, Tryz.results14, go_sem, e0, e1, e2, e3]) rfl ?_
      exact ⟨_, rfl, (by rw [len_take hlt0, HFull.out] at hq; exact hq.lo (by omega)), hF⟩
theorem of_any {k n : Int} {x : Bool} {rs : List PRule} {vr : Value} {lo : Nat} (h500 : rs.length ≤ 500) (hcd : ∀ r ∈ rs, r.conds.length ≤ 1000000) (w : World) (hR : RulesR TRr TCr lo w vr rs) :
    Calls Tryz.prog 14 #[PolV k n x vr] w fun e w' => ∃ vo, e = .returned (PolV k n x vo) ∧ RulesR TRl TCd w.heap.size w' vo rs ∧ Below w.heap.size w w' := ofI_any h500 hcd w (Nat.le_refl _) hR.toI
end Go.Proofs.YtmjipkdejggbfaaGreatDoor
