/- strainerlaw14.PolicySame: the walk. -/
import Derived.Test.YtmjipkdejggbfaaGreatDoorQPolOpen
namespace Go.Proofs.YtmjipkdejggbfaaGreatDoor
open Go Go.Proofs Go.RowKit

set_option maxRecDepth 100000 in
set_option maxHeartbeats 8000000 in
theorem polsame_dark {p s : PSt} {a1 a2 : Option Addr} {c1 c2 : Nat} (w : World) (hE : CondP.ErrV w) (h1 : RulesI w.heap.size w (.slice a1 p.rules.length c1) p.rules) (h2 : RulesI w.heap.size w (.slice a2 s.rules.length c2) s.rules) (hd : ¬ (LightP p.rules ∧ LightP s.rules)) :
    Calls Tryz.prog 4 #[PolV p.k p.n p.x (.slice a1 p.rules.length c1), PolV s.k s.n s.x (.slice a2 s.rules.length c2)] w fun e w' => e = .returned (.bool true) ∧ Below w.heap.size w w' := by
  obtain ⟨k, n, x, rs⟩ := p
  obtain ⟨k2, n2, x2, ss⟩ := s
  dsimp only at *
  unfold PolV
  generalize hL1 : rs.length = L1 at *
  generalize hL2 : ss.length = L2 at *
  have HX := Lib.hid ((Blk.new w TPr #[.int .i64 k, .int .i64 n, .bool x, .slice a1 L1 c1]).alloc (.cells #[.int .i64 k2, .int .i64 n2, .bool x2, .slice a2 L2 c2] TPr))
  have hb : Below w.heap.size w ((w.alloc (.cells #[.int .i64 k, .int .i64 n, .bool x, .slice a1 L1 c1] TPr)).alloc (.cells #[.int .i64 k2, .int .i64 n2, .bool x2, .slice a2 L2 c2] TPr)) := ((Below.refl w.heap.size w).alloc (Nat.le_refl _) _).alloc (by simp) _
  have hy := Blk.new (w.alloc (.cells #[.int .i64 k, .int .i64 n, .bool x, .slice a1 L1 c1] TPr)) TPr #[.int .i64 k2, .int .i64 n2, .bool x2, .slice a2 L2 c2]
  simp only [World.size_alloc] at hy
  have HY := Lib.hid hy
  have HLA := Lib.hid (fun W (hb : Below w.heap.size w W) => light_any (k := k) (n := n) (x := x) W hb.size (h1.below hb (Nat.le_refl _)))
  have HLB := Lib.hid (fun W (hb : Below w.heap.size w W) => light_any (k := k2) (n := n2) (x := x2) W hb.size (h2.below hb (Nat.le_refl _)))
  have HB := Lib.hid hb
  have HD := Lib.hid hd
  clear h1 h2 hb hd hL1 hL2 hy
  go_enter Tryz.func4, Tryz.ntmps4
  go_wp2_with fail
  refine (HLA.out _ HB.out).mono ?_
  rintro e w1 ⟨b1, rfl, hb1, hc1⟩
  have HB1 := belP HB hc1
  have HBI := Lib.hid hb1
  clear hb1
  cases b1 with
  | false =>
    clear hc1
    go_wp2
    go_ret
    exact ⟨rfl, HB1.out⟩
  | true =>
    have hNL : ¬ LightP ss := fun e => HD.out ⟨HBI.out.1 rfl, e⟩
    have HNL := Lib.hid hNL
    have HY1 := blkHP HY hc1
    have y0 := HY1.out.cell 0
    have y1 := HY1.out.cell 1
    have y2 := HY1.out.cell 2
    have y3 := HY1.out.cell 3
    simp only [List.getElem?_toArray, List.getElem?_cons_zero, List.getElem?_cons_succ] at y0 y1 y2 y3
    clear hc1 hNL
    go_wp2_with fail
    refine (HLB.out _ HB1.out).mono ?_
    rintro e w2 ⟨b2, rfl, hb2, hc2⟩
    obtain rfl : b2 = false := by cases b2 with | false => rfl | true => exact absurd (hb2.1 rfl) HNL.out
    have HB2 := belP HB1 hc2
    clear hb2 hc2 y0 y1 y2 y3
    go_wp2
    go_ret
    exact ⟨rfl, HB2.out⟩

theorem LightP.small {rs : List PRule} (h : LightP rs) : rs.length ≤ 500 ∧ ∀ r ∈ rs, r.conds.length ≤ 1000000 := ⟨by have := h.1; omega, fun r hr => by have := (h.2 r hr).2; omega⟩
set_option maxRecDepth 100000 in
set_option maxHeartbeats 16000000 in
theorem polsame_light {p s : PSt} {a1 a2 : Option Addr} {c1 c2 : Nat} (w : World) (hE : CondP.ErrV w) (h1 : RulesI w.heap.size w (.slice a1 p.rules.length c1) p.rules) (h2 : RulesI w.heap.size w (.slice a2 s.rules.length c2) s.rules) (hd1 : LightP p.rules) (hd2 : LightP s.rules) :
    Calls Tryz.prog 4 #[PolV p.k p.n p.x (.slice a1 p.rules.length c1), PolV s.k s.n s.x (.slice a2 s.rules.length c2)] w fun e w' => e = .returned (.bool true) ∧ Below w.heap.size w w' := by
  obtain ⟨l1, l2⟩ := hd1.small
  obtain ⟨m1, m2⟩ := hd2.small
  have HD1 := Lib.hid hd1
  have HD2 := Lib.hid hd2
  obtain ⟨k, n, x, rs⟩ := p
  obtain ⟨k2, n2, x2, ss⟩ := s
  dsimp only at *
  obtain ⟨b0, hb0⟩ : ∃ b0 : Bool, b0 = true ↔ (⟨k, n, x, rs⟩ : PSt) = ⟨k2, n2, x2, ss⟩ := by
    by_cases h : (⟨k, n, x, rs⟩ : PSt) = ⟨k2, n2, x2, ss⟩
    · exact ⟨true, fun _ => h, fun _ => rfl⟩
    · exact ⟨false, fun e => (Bool.false_ne_true e).elim, fun e => (h e).elim⟩
  have HOF1 : Hid (∀ W W1 : World, Below w.heap.size w W1 → Below W1.heap.size W1 W → Calls Tryz.prog 14 #[.agg #[.int .i64 k, .int .i64 n, .bool x, .slice a1 rs.length c1]] W fun e w' => ∃ a c, e = .returned (.agg #[.int .i64 k, .int .i64 n, .bool x, .slice a rs.length c]) ∧ RulesR TRl TCd W1.heap.size w' (.slice a rs.length c) rs ∧ Below W.heap.size W w') := fun W W1 hW1 hW => by
    have hb := hW1.trans (hW.mono hW1.size)
    refine (ofI_any (k := k) (n := n) (x := x) l1 l2 W hb.size (h1.below hb (Nat.le_refl _))).mono ?_
    rintro e w' ⟨vo, rfl, hr, hb'⟩
    obtain ⟨a, c, rfl⟩ := hr.slice
    exact ⟨a, c, rfl, hr.lo hW.size, hb'⟩
  have HOF2 : Hid (∀ W W1 : World, Below w.heap.size w W1 → Below W1.heap.size W1 W → Calls Tryz.prog 14 #[.agg #[.int .i64 k2, .int .i64 n2, .bool x2, .slice a2 ss.length c2]] W fun e w' => ∃ a c, e = .returned (.agg #[.int .i64 k2, .int .i64 n2, .bool x2, .slice a ss.length c]) ∧ RulesR TRl TCd W1.heap.size w' (.slice a ss.length c) ss ∧ Below W.heap.size W w') := fun W W1 hW1 hW => by
    have hb := hW1.trans (hW.mono hW1.size)
    refine (ofI_any (k := k2) (n := n2) (x := x2) m1 m2 W hb.size (h2.below hb (Nat.le_refl _))).mono ?_
    rintro e w' ⟨vo, rfl, hr, hb'⟩
    obtain ⟨a, c, rfl⟩ := hr.slice
    exact ⟨a, c, rfl, hr.lo hW.size, hb'⟩
  have post : ∀ {P : Prop} {W : World}, (b0 = true ↔ P) → ∀ (e : Ending) (w' : World), eqPost P W e w' → e = .returned (.bool b0) ∧ Below W.heap.size W w' := by
    rintro P W h e w' ⟨b, rfl, hb, hbe⟩
    obtain rfl : b = b0 := Bool.eq_iff_iff.2 (hb.trans h.symm)
    exact ⟨rfl, hbe⟩
  have hs1 : ∀ (W1 W : World) (oa oa' : Option Addr) (oc oc' : Nat), Below W1.heap.size W1 W → RulesR TRl TCd w.heap.size W1 (.slice oa rs.length oc) rs → RulesR TRl TCd w.heap.size W1 (.slice oa' ss.length oc') ss → Calls Tryz.prog 15 #[.agg #[.int .i64 k, .int .i64 n, .bool x, .slice oa rs.length oc], .agg #[.int .i64 k2, .int .i64 n2, .bool x2, .slice oa' ss.length oc']] W fun e w' => e = .returned (.bool b0) ∧ Below W.heap.size W w' := fun W1 W oa oa' oc oc' hW r1 r2 =>
    (same_any (p := ⟨k, n, x, rs⟩) (s := ⟨k2, n2, x2, ss⟩) (Nat.le_trans l1 (by decide)) l2 W (r1.below hW) (r2.below hW)).mono (post hb0)
  have hs2 : ∀ (W1 W : World) (oa oa' : Option Addr) (oc oc' : Nat), Below W1.heap.size W1 W → RulesR TRl TCd w.heap.size W1 (.slice oa rs.length oc) rs → RulesR TRl TCd w.heap.size W1 (.slice oa' ss.length oc') ss → Calls Tryz.prog 15 #[.agg #[.int .i64 k2, .int .i64 n2, .bool x2, .slice oa' ss.length oc'], .agg #[.int .i64 k, .int .i64 n, .bool x, .slice oa rs.length oc]] W fun e w' => e = .returned (.bool b0) ∧ Below W.heap.size W w' := fun W1 W oa oa' oc oc' hW r1 r2 =>
    (same_any (p := ⟨k2, n2, x2, ss⟩) (s := ⟨k, n, x, rs⟩) (Nat.le_trans m1 (by decide)) m2 W (r2.below hW) (r1.below hW)).mono (post (hb0.trans ⟨Eq.symm, Eq.symm⟩))
  have hs3 : ∀ (W1 W : World) (oa oa' : Option Addr) (oc oc' lo' : Nat), Below W1.heap.size W1 W → RulesR TRl TCd w.heap.size W1 (.slice oa rs.length oc) rs → RulesR TRl TCd lo' W (.slice oa' rs.length oc') rs → Calls Tryz.prog 15 #[.agg #[.int .i64 k, .int .i64 n, .bool x, .slice oa rs.length oc], .agg #[.int .i64 k, .int .i64 n, .bool x, .slice oa' rs.length oc']] W fun e w' => e = .returned (.bool true) ∧ Below W.heap.size W w' := fun W1 W oa oa' oc oc' lo' hW r1 r2 =>
    (same_any (p := ⟨k, n, x, rs⟩) (s := ⟨k, n, x, rs⟩) (Nat.le_trans l1 (by decide)) l2 W (r1.below hW) r2).mono (fun e w' ⟨b, h, hb, hbe⟩ => ⟨by rw [h, hb.2 rfl], hbe⟩)
  have ht : ∀ (W1 W : World) (oa : Option Addr) (oc : Nat), Below w.heap.size w W1 → Below W1.heap.size W1 W → RulesR TRl TCd w.heap.size W1 (.slice oa rs.length oc) rs → Calls Tryz.prog 11 #[.agg #[.int .i64 k, .int .i64 n, .bool x, .slice oa rs.length oc], .agg #[.int .i64 k2, .int .i64 n2, .bool x2, .slice a2 ss.length c2]] W fun e w' => e = .returned (.bool b0) ∧ Below W.heap.size W w' := fun W1 W oa oc hW1 hW r1 => by
    have hb := hW1.trans (hW.mono hW1.size)
    exact (told14_whole (p := ⟨k, n, x, rs⟩) (s := ⟨k2, n2, x2, ss⟩) m1 m2 W hb.size (r1.below hW) (h2.below hb (Nat.le_refl _))).mono (post hb0)
  unfold PolV
  generalize hL1 : rs.length = L1 at *
  generalize hL2 : ss.length = L2 at *
  have HX := Lib.hid ((Blk.new w TPr #[.int .i64 k, .int .i64 n, .bool x, .slice a1 L1 c1]).alloc (.cells #[.int .i64 k2, .int .i64 n2, .bool x2, .slice a2 L2 c2] TPr))
  have hb : Below w.heap.size w ((w.alloc (.cells #[.int .i64 k, .int .i64 n, .bool x, .slice a1 L1 c1] TPr)).alloc (.cells #[.int .i64 k2, .int .i64 n2, .bool x2, .slice a2 L2 c2] TPr)) := ((Below.refl w.heap.size w).alloc (Nat.le_refl _) _).alloc (by simp) _
  have hy := Blk.new (w.alloc (.cells #[.int .i64 k, .int .i64 n, .bool x, .slice a1 L1 c1] TPr)) TPr #[.int .i64 k2, .int .i64 n2, .bool x2, .slice a2 L2 c2]
  simp only [World.size_alloc] at hy
  have HY := Lib.hid hy
  have HLA := Lib.hid (fun W (hb : Below w.heap.size w W) => light_any (k := k) (n := n) (x := x) W hb.size (h1.below hb (Nat.le_refl _)))
  have HLB := Lib.hid (fun W (hb : Below w.heap.size w W) => light_any (k := k2) (n := n2) (x := x2) W hb.size (h2.below hb (Nat.le_refl _)))
  have HB := Lib.hid hb
  have HE := Lib.hid hE
  have HAW := Lib.hid (fun W hW => awake14_any W hW)
  have HS1' := Lib.hid hs1
  have HS2' := Lib.hid hs2
  have HS3' := Lib.hid hs3
  have HT' := Lib.hid ht
  clear h1 h2 hb hL1 hL2 hy hE hd1 hd2 l1 l2 m1 m2 hb0 post hs1 hs2 hs3 ht
  go_enter Tryz.func4, Tryz.ntmps4
  go_wp2_with fail
  refine (HLA.out _ HB.out).mono ?_
  rintro e w1 ⟨b1, rfl, hb1, hc1⟩
  obtain rfl : b1 = true := hb1.2 HD1.out
  have HB1 := belP HB hc1
  have HX1 := blkHP HX hc1
  have HY1 := blkHP HY hc1
  have y0 := HY1.out.cell 0
  have y1 := HY1.out.cell 1
  have y2 := HY1.out.cell 2
  have y3 := HY1.out.cell 3
  simp only [List.getElem?_toArray, List.getElem?_cons_zero, List.getElem?_cons_succ] at y0 y1 y2 y3
  clear hc1 hb1 HB HX HY HLA HD1
  go_wp2_with fail
  refine (HLB.out _ HB1.out).mono ?_
  rintro e W0 ⟨b2, rfl, hb2, hc2⟩
  obtain rfl : b2 = true := hb2.2 HD2.out
  have HB2 := belP HB1 hc2
  have HX2 := blkHP HX1 hc2
  have HY2 := blkHP HY1 hc2
  clear hc2 hb2 HB1 HX1 HY1 HLB HD2 y0 y1 y2 y3
  have HN0 := Lib.hid HB2.out.size
  have HOFa := Lib.hid (fun W h => HOF1.out W W0 HB2.out h)
  have HOFb := Lib.hid (fun W h => HOF2.out W W0 HB2.out h)
  generalize w.heap.size + 1 = YB at *
  have SOK : Hid (∀ w', Below W0.heap.size W0 w' → (w'.cell? ⟨w.heap.size, 0, none⟩ = some (.int .i64 k) ∧ w'.cell? ⟨w.heap.size, 1, none⟩ = some (.int .i64 n) ∧ w'.cell? ⟨w.heap.size, 2, none⟩ = some (.bool x) ∧ w'.cell? ⟨w.heap.size, 3, none⟩ = some (.slice a1 L1 c1) ∧ w'.cell? ⟨YB, 0, none⟩ = some (.int .i64 k2) ∧ w'.cell? ⟨YB, 1, none⟩ = some (.int .i64 n2) ∧ w'.cell? ⟨YB, 2, none⟩ = some (.bool x2) ∧ w'.cell? ⟨YB, 3, none⟩ = some (.slice a2 L2 c2))) := fun w' hb => ⟨(HX2.out.below hb HX2.out.lt).cell 0, (HX2.out.below hb HX2.out.lt).cell 1, (HX2.out.below hb HX2.out.lt).cell 2, (HX2.out.below hb HX2.out.lt).cell 3, (HY2.out.below hb HY2.out.lt).cell 0, (HY2.out.below hb HY2.out.lt).cell 1, (HY2.out.below hb HY2.out.lt).cell 2, (HY2.out.below hb HY2.out.lt).cell 3⟩
  clear HOF1 HOF2
  go_upto_region 3 with fail
  go_cut [5, 6] (fun s5 s6 wx => ∃ (B5 B6 : Nat) (oa1 oa2 : Option Addr) (oc1 oc2 : Nat), s5 = .pointer (some ⟨B5, 0, none⟩) ∧ s6 = .pointer (some ⟨B6, 0, none⟩) ∧ Hid (Below W0.heap.size W0 wx) ∧ Hid (Blk wx B5 TPl #[.int .i64 k, .int .i64 n, .bool x, .slice oa1 L1 oc1]) ∧ Hid (Blk wx B6 TPl #[.int .i64 k2, .int .i64 n2, .bool x2, .slice oa2 L2 oc2]) ∧ Hid (RulesR TRl TCd W0.heap.size wx (.slice oa1 L1 oc1) rs) ∧ Hid (RulesR TRl TCd W0.heap.size wx (.slice oa2 L2 oc2) ss))
  case first =>
    refine wp_region_noPanic ?_
    refine wp_region_held_drew (S := fun w' => w'.cell? ⟨w.heap.size, 0, none⟩ = some (.int .i64 k) ∧ w'.cell? ⟨w.heap.size, 1, none⟩ = some (.int .i64 n) ∧ w'.cell? ⟨w.heap.size, 2, none⟩ = some (.bool x) ∧ w'.cell? ⟨w.heap.size, 3, none⟩ = some (.slice a1 L1 c1) ∧ w'.cell? ⟨YB, 0, none⟩ = some (.int .i64 k2) ∧ w'.cell? ⟨YB, 1, none⟩ = some (.int .i64 n2) ∧ w'.cell? ⟨YB, 2, none⟩ = some (.bool x2) ∧ w'.cell? ⟨YB, 3, none⟩ = some (.slice a2 L2 c2)) (by kernel_rfl) (by first | exact SOK.out _ (Below.refl _ W0).drew) (fun hHeld => ?_)
    refine wpAnyH_take (i := 0) (oi := { dst := some 15, op := Op.load 33 (Operand.tmp 2), type := 33, pos := "law.go:94", after := #[], guard := none }) (v := ?vp0) rfl (by kernel_rfl) (by kernel_rfl) (by kernel_rfl) (fun _ _ _ h => h) (Or.inl ⟨by rfl, ?hyp0⟩) (by assumption) ?restp0
    case hyp0 =>
      intro w hSw
      try dsimp only at hSw
      try obtain ⟨hSw, hSw2⟩ := hSw
      try go_split_ands
      go_simp
      try with_reducible rfl
    try simp only [Act.put, List.setIfInBounds_toArray, List.set_cons_zero, List.set_cons_succ]
    refine wpAnyH_take (i := 2) (oi := { dst := some 17, op := Op.load 33 (Operand.tmp 3), type := 33, pos := "law.go:94", after := #[], guard := none }) (v := ?vp2) rfl (by kernel_rfl) (by kernel_rfl) (by kernel_rfl) (fun _ _ _ h => h) (Or.inl ⟨by rfl, ?hyp2⟩) (by assumption) ?restp2
    case hyp2 =>
      intro w hSw
      try dsimp only at hSw
      try obtain ⟨hSw, hSw2⟩ := hSw
      try go_split_ands
      go_simp
      try with_reducible rfl
    try simp only [Act.put, List.setIfInBounds_toArray, List.set_cons_zero, List.set_cons_succ]
    have hz0 := Lib.hid ((Below.refl W0.heap.size W0).drew)
    clear hHeld
    generalize W0.drew = wz0 at *
    refine wpAnyH_ready (rs := [1, 4, 5]) (by kernel_rfl) (by simp) ?_
    refine AllReadyH.cons (o := { dst := some 16, op := Op.call { callee := Callee.value (Operand.func 14), args := #[Operand.tmp 15], argTypes := #[33] }, type := 26, pos := "law.go:94", after := #[{ on := 0, ground := Ground.data }], guard := none }) rfl (fun K' hK => ?_) ?_
    ·
      go_simp
      refine (HOFa.out _ hz0.out).mono ?_
      rintro e wz1 ⟨oa1, oc1, rfl, hrr, hbz⟩
      have hz1 := belP hz0 hbz
      have r1z1 := Lib.hid hrr
      refine hK.out _ _ (SOK.out _ hz1.out) (fun hHeld => ?_)
      clear hK K'
      try simp only [Act.put, List.setIfInBounds_toArray, List.set_cons_zero, List.set_cons_succ]
      clear hHeld
      clear hbz hrr hz0
      refine wpAnyH_ready (rs := [3, 4, 5]) (by kernel_rfl) (by simp) ?_
      refine AllReadyH.cons (o := { dst := some 18, op := Op.call { callee := Callee.value (Operand.func 14), args := #[Operand.tmp 17], argTypes := #[33] }, type := 26, pos := "law.go:94", after := #[{ on := 2, ground := Ground.data }, { on := 1, ground := Ground.chain }], guard := none }) rfl (fun K' hK => ?_) ?_
      ·
        go_simp
        refine (HOFb.out _ hz1.out).mono ?_
        rintro e wz2 ⟨oa2, oc2, rfl, hrr, hbz⟩
        have hz2 := belP hz1 hbz
        have r1z2 := Lib.hid (r1z1.out.below hbz)
        have r2z2 := Lib.hid hrr
        refine hK.out _ _ (SOK.out _ hz2.out) (fun hHeld => ?_)
        clear hK K'
        try simp only [Act.put, List.setIfInBounds_toArray, List.set_cons_zero, List.set_cons_succ]
        clear hHeld
        clear hbz hrr hz1 r1z1
        refine wpAnyH_ready (rs := [4, 5]) (by kernel_rfl) (by simp) ?_
        refine AllReadyH.cons (o := { dst := some 5, op := Op.alloc 26, type := 0, pos := "law.go:94", after := #[], guard := none }) rfl (fun K' hK => ?_) ?_
        ·
          have hz3 := Lib.hid (hz2.out.alloc hz2.out.size (.cells #[.int .i64 0, .int .i64 0, .bool false, .slice none 0 0] TPl))
          have g5z3 := Lib.hid (Blk.new wz2 TPl #[.int .i64 0, .int .i64 0, .bool false, .slice none 0 0])
          have lz3 : W0.heap.size ≤ wz2.heap.size := hz2.out.size
          have r1z3 := Lib.hid (r1z2.out.up (.cells #[.int .i64 0, .int .i64 0, .bool false, .slice none 0 0] TPl))
          have r2z3 := Lib.hid (r2z2.out.up (.cells #[.int .i64 0, .int .i64 0, .bool false, .slice none 0 0] TPl))
          go_simp
          refine hK.out _ _ (SOK.out _ hz3.out) (fun hHeld => ?_)
          clear hK K'
          try simp only [Act.put, List.setIfInBounds_toArray, List.set_cons_zero, List.set_cons_succ]
          clear hHeld
          clear hz2 r1z2 r2z2
          generalize wz2.alloc (.cells #[.int .i64 0, .int .i64 0, .bool false, .slice none 0 0] TPl) = wz3 at *
          generalize wz2.heap.size = Bz3 at *
          refine wpAnyH_ready (rs := [5]) (by kernel_rfl) (by simp) ?_
          refine AllReadyH.cons (o := { dst := some 6, op := Op.alloc 26, type := 0, pos := "law.go:94", after := #[], guard := none }) rfl (fun K' hK => ?_) ?_
          ·
            have hz4 := Lib.hid (hz3.out.alloc hz3.out.size (.cells #[.int .i64 0, .int .i64 0, .bool false, .slice none 0 0] TPl))
            have g6z4 := Lib.hid (Blk.new wz3 TPl #[.int .i64 0, .int .i64 0, .bool false, .slice none 0 0])
            have lz4 : W0.heap.size ≤ wz3.heap.size := hz3.out.size
            have g5z4 := Lib.hid (g5z3.out.alloc (.cells #[.int .i64 0, .int .i64 0, .bool false, .slice none 0 0] TPl))
            have nz4 : Bz3 ≠ wz3.heap.size := Nat.ne_of_lt g5z3.out.lt
            have r1z4 := Lib.hid (r1z3.out.up (.cells #[.int .i64 0, .int .i64 0, .bool false, .slice none 0 0] TPl))
            have r2z4 := Lib.hid (r2z3.out.up (.cells #[.int .i64 0, .int .i64 0, .bool false, .slice none 0 0] TPl))
            go_simp
            refine hK.out _ _ (SOK.out _ hz4.out) (fun hHeld => ?_)
            clear hK K'
            try simp only [Act.put, List.setIfInBounds_toArray, List.set_cons_zero, List.set_cons_succ]
            clear hHeld
            clear hz3 g5z3 r1z3 r2z3
            generalize wz3.alloc (.cells #[.int .i64 0, .int .i64 0, .bool false, .slice none 0 0] TPl) = wz4 at *
            generalize wz3.heap.size = Bz4 at *
            refine wpAnyH_ready (rs := [6]) (by kernel_rfl) (by simp) ?_
            refine AllReadyH.cons (o := { dst := none, op := Op.store 26 (Operand.tmp 5) (Operand.tmp 16), type := 0, pos := "law.go:94", after := #[{ on := 4, ground := Ground.data }, { on := 1, ground := Ground.data }, { on := 3, ground := Ground.chain }, { on := 0, ground := Ground.phase }, { on := 1, ground := Ground.phase }, { on := 2, ground := Ground.textOnly Departure.lateStores }, { on := 3, ground := Ground.textOnly Departure.lateStoresUnsure }, { on := 4, ground := Ground.phase }, { on := 5, ground := Ground.phase }], guard := none }) rfl (fun K' hK => ?_) ?_
            ·
              have z0 := g5z4.out.frozen 0
              have z1 := g5z4.out.frozen 1
              have z2 := g5z4.out.frozen 2
              have z3 := g5z4.out.frozen 3
              have y0 : wz4.cell? ⟨Bz3, 0, none⟩ = some (.int .i64 0) := g5z4.out.cell 0
              have y1 : wz4.cell? ⟨Bz3, 1, none⟩ = some (.int .i64 0) := g5z4.out.cell 1
              have y2 : wz4.cell? ⟨Bz3, 2, none⟩ = some (.bool false) := g5z4.out.cell 2
              have y3 : wz4.cell? ⟨Bz3, 3, none⟩ = some (.slice none 0 0) := g5z4.out.cell 3
              have hz5 : Hid (Below W0.heap.size W0 ((((wz4.setCell ⟨Bz3, 0, none⟩ (.int .i64 k)).setCell ⟨Bz3, 1, none⟩ (.int .i64 n)).setCell ⟨Bz3, 2, none⟩ (.bool x)).setCell ⟨Bz3, 3, none⟩ (.slice oa1 L1 oc1))) := ((((hz4.out.setCell (p := ⟨Bz3, 0, none⟩) lz3 _).setCell (p := ⟨Bz3, 1, none⟩) lz3 _).setCell (p := ⟨Bz3, 2, none⟩) lz3 _).setCell (p := ⟨Bz3, 3, none⟩) lz3 _)
              have g5z5 : Hid (Blk ((((wz4.setCell ⟨Bz3, 0, none⟩ (.int .i64 k)).setCell ⟨Bz3, 1, none⟩ (.int .i64 n)).setCell ⟨Bz3, 2, none⟩ (.bool x)).setCell ⟨Bz3, 3, none⟩ (.slice oa1 L1 oc1)) Bz3 TPl #[.int .i64 k, .int .i64 n, .bool x, .slice oa1 L1 oc1]) := ((((g5z4.out.set 0 (.int .i64 k)).set 1 (.int .i64 n)).set 2 (.bool x)).set 3 (.slice oa1 L1 oc1))
              have g6z5 := Lib.hid ((((g6z4.out.other (Ne.symm nz4) 0 (.int .i64 k)).other (Ne.symm nz4) 1 (.int .i64 n)).other (Ne.symm nz4) 2 (.bool x)).other (Ne.symm nz4) 3 (.slice oa1 L1 oc1))
              have r1z5 : Hid (RulesR TRl TCd W0.heap.size ((((wz4.setCell ⟨Bz3, 0, none⟩ (.int .i64 k)).setCell ⟨Bz3, 1, none⟩ (.int .i64 n)).setCell ⟨Bz3, 2, none⟩ (.bool x)).setCell ⟨Bz3, 3, none⟩ (.slice oa1 L1 oc1)) (.slice oa1 L1 oc1) rs) := ((((r1z4.out.setG (g := Bz3) (j := 0) (u := .int .i64 k) g5z4.out (by decide) (by decide)).setG (g := Bz3) (j := 1) (u := .int .i64 n) (g5z4.out.set 0 (.int .i64 k)) (by decide) (by decide)).setG (g := Bz3) (j := 2) (u := .bool x) ((g5z4.out.set 0 (.int .i64 k)).set 1 (.int .i64 n)) (by decide) (by decide)).setG (g := Bz3) (j := 3) (u := .slice oa1 L1 oc1) (((g5z4.out.set 0 (.int .i64 k)).set 1 (.int .i64 n)).set 2 (.bool x)) (by decide) (by decide))
              have r2z5 : Hid (RulesR TRl TCd W0.heap.size ((((wz4.setCell ⟨Bz3, 0, none⟩ (.int .i64 k)).setCell ⟨Bz3, 1, none⟩ (.int .i64 n)).setCell ⟨Bz3, 2, none⟩ (.bool x)).setCell ⟨Bz3, 3, none⟩ (.slice oa1 L1 oc1)) (.slice oa2 L2 oc2) ss) := ((((r2z4.out.setG (g := Bz3) (j := 0) (u := .int .i64 k) g5z4.out (by decide) (by decide)).setG (g := Bz3) (j := 1) (u := .int .i64 n) (g5z4.out.set 0 (.int .i64 k)) (by decide) (by decide)).setG (g := Bz3) (j := 2) (u := .bool x) ((g5z4.out.set 0 (.int .i64 k)).set 1 (.int .i64 n)) (by decide) (by decide)).setG (g := Bz3) (j := 3) (u := .slice oa1 L1 oc1) (((g5z4.out.set 0 (.int .i64 k)).set 1 (.int .i64 n)).set 2 (.bool x)) (by decide) (by decide))
              go_simp
              refine hK.out _ _ (SOK.out _ hz5.out) (fun hHeld => ?_)
              clear hK K'
              try simp only [Act.put, List.setIfInBounds_toArray, List.set_cons_zero, List.set_cons_succ]
              clear hHeld
              clear z0 z1 z2 z3 y0 y1 y2 y3 hz4 g5z4 g6z4 r1z4 r2z4
              generalize ((((wz4.setCell ⟨Bz3, 0, none⟩ (.int .i64 k)).setCell ⟨Bz3, 1, none⟩ (.int .i64 n)).setCell ⟨Bz3, 2, none⟩ (.bool x)).setCell ⟨Bz3, 3, none⟩ (.slice oa1 L1 oc1)) = wz5 at *
              refine wpAnyH_ready (rs := [7]) (by kernel_rfl) (by simp) ?_
              refine AllReadyH.cons (o := { dst := none, op := Op.store 26 (Operand.tmp 6) (Operand.tmp 18), type := 0, pos := "law.go:94", after := #[{ on := 5, ground := Ground.data }, { on := 3, ground := Ground.data }, { on := 6, ground := Ground.chain }, { on := 0, ground := Ground.phase }, { on := 1, ground := Ground.phase }, { on := 2, ground := Ground.phase }, { on := 3, ground := Ground.phase }, { on := 4, ground := Ground.phase }, { on := 5, ground := Ground.phase }, { on := 6, ground := Ground.phase }], guard := none }) rfl (fun K' hK => ?_) ?_
              ·
                have z0 := g6z5.out.frozen 0
                have z1 := g6z5.out.frozen 1
                have z2 := g6z5.out.frozen 2
                have z3 := g6z5.out.frozen 3
                have y0 : wz5.cell? ⟨Bz4, 0, none⟩ = some (.int .i64 0) := g6z5.out.cell 0
                have y1 : wz5.cell? ⟨Bz4, 1, none⟩ = some (.int .i64 0) := g6z5.out.cell 1
                have y2 : wz5.cell? ⟨Bz4, 2, none⟩ = some (.bool false) := g6z5.out.cell 2
                have y3 : wz5.cell? ⟨Bz4, 3, none⟩ = some (.slice none 0 0) := g6z5.out.cell 3
                have hz6 : Hid (Below W0.heap.size W0 ((((wz5.setCell ⟨Bz4, 0, none⟩ (.int .i64 k2)).setCell ⟨Bz4, 1, none⟩ (.int .i64 n2)).setCell ⟨Bz4, 2, none⟩ (.bool x2)).setCell ⟨Bz4, 3, none⟩ (.slice oa2 L2 oc2))) := ((((hz5.out.setCell (p := ⟨Bz4, 0, none⟩) lz4 _).setCell (p := ⟨Bz4, 1, none⟩) lz4 _).setCell (p := ⟨Bz4, 2, none⟩) lz4 _).setCell (p := ⟨Bz4, 3, none⟩) lz4 _)
                have g6z6 : Hid (Blk ((((wz5.setCell ⟨Bz4, 0, none⟩ (.int .i64 k2)).setCell ⟨Bz4, 1, none⟩ (.int .i64 n2)).setCell ⟨Bz4, 2, none⟩ (.bool x2)).setCell ⟨Bz4, 3, none⟩ (.slice oa2 L2 oc2)) Bz4 TPl #[.int .i64 k2, .int .i64 n2, .bool x2, .slice oa2 L2 oc2]) := ((((g6z5.out.set 0 (.int .i64 k2)).set 1 (.int .i64 n2)).set 2 (.bool x2)).set 3 (.slice oa2 L2 oc2))
                have g5z6 := Lib.hid ((((g5z5.out.other nz4 0 (.int .i64 k2)).other nz4 1 (.int .i64 n2)).other nz4 2 (.bool x2)).other nz4 3 (.slice oa2 L2 oc2))
                have r1z6 : Hid (RulesR TRl TCd W0.heap.size ((((wz5.setCell ⟨Bz4, 0, none⟩ (.int .i64 k2)).setCell ⟨Bz4, 1, none⟩ (.int .i64 n2)).setCell ⟨Bz4, 2, none⟩ (.bool x2)).setCell ⟨Bz4, 3, none⟩ (.slice oa2 L2 oc2)) (.slice oa1 L1 oc1) rs) := ((((r1z5.out.setG (g := Bz4) (j := 0) (u := .int .i64 k2) g6z5.out (by decide) (by decide)).setG (g := Bz4) (j := 1) (u := .int .i64 n2) (g6z5.out.set 0 (.int .i64 k2)) (by decide) (by decide)).setG (g := Bz4) (j := 2) (u := .bool x2) ((g6z5.out.set 0 (.int .i64 k2)).set 1 (.int .i64 n2)) (by decide) (by decide)).setG (g := Bz4) (j := 3) (u := .slice oa2 L2 oc2) (((g6z5.out.set 0 (.int .i64 k2)).set 1 (.int .i64 n2)).set 2 (.bool x2)) (by decide) (by decide))
                have r2z6 : Hid (RulesR TRl TCd W0.heap.size ((((wz5.setCell ⟨Bz4, 0, none⟩ (.int .i64 k2)).setCell ⟨Bz4, 1, none⟩ (.int .i64 n2)).setCell ⟨Bz4, 2, none⟩ (.bool x2)).setCell ⟨Bz4, 3, none⟩ (.slice oa2 L2 oc2)) (.slice oa2 L2 oc2) ss) := ((((r2z5.out.setG (g := Bz4) (j := 0) (u := .int .i64 k2) g6z5.out (by decide) (by decide)).setG (g := Bz4) (j := 1) (u := .int .i64 n2) (g6z5.out.set 0 (.int .i64 k2)) (by decide) (by decide)).setG (g := Bz4) (j := 2) (u := .bool x2) ((g6z5.out.set 0 (.int .i64 k2)).set 1 (.int .i64 n2)) (by decide) (by decide)).setG (g := Bz4) (j := 3) (u := .slice oa2 L2 oc2) (((g6z5.out.set 0 (.int .i64 k2)).set 1 (.int .i64 n2)).set 2 (.bool x2)) (by decide) (by decide))
                go_simp
                refine hK.out _ _ (SOK.out _ hz6.out) (fun hHeld => ?_)
                clear hK K'
                try simp only [Act.put, List.setIfInBounds_toArray, List.set_cons_zero, List.set_cons_succ]
                clear hHeld
                clear z0 z1 z2 z3 y0 y1 y2 y3 hz5 g5z5 g6z5 r1z5 r2z5
                generalize ((((wz5.setCell ⟨Bz4, 0, none⟩ (.int .i64 k2)).setCell ⟨Bz4, 1, none⟩ (.int .i64 n2)).setCell ⟨Bz4, 2, none⟩ (.bool x2)).setCell ⟨Bz4, 3, none⟩ (.slice oa2 L2 oc2)) = wz6 at *
                refine wpAnyH_done (by kernel_rfl) ?_ _
                refine NoPanic.normal ?_
                go_wp2_with fail
                go_meet
                exact ⟨_, _, _, _, _, _, rfl, rfl, hz6, g5z6, g6z6, r1z6, r2z6⟩
              exact AllReadyH.nil
            exact AllReadyH.nil
          exact AllReadyH.nil
        refine AllReadyH.cons (o := { dst := some 6, op := Op.alloc 26, type := 0, pos := "law.go:94", after := #[], guard := none }) rfl (fun K' hK => ?_) ?_
        ·
          have hz7 := Lib.hid (hz2.out.alloc hz2.out.size (.cells #[.int .i64 0, .int .i64 0, .bool false, .slice none 0 0] TPl))
          have g6z7 := Lib.hid (Blk.new wz2 TPl #[.int .i64 0, .int .i64 0, .bool false, .slice none 0 0])
          have lz7 : W0.heap.size ≤ wz2.heap.size := hz2.out.size
          have r1z7 := Lib.hid (r1z2.out.up (.cells #[.int .i64 0, .int .i64 0, .bool false, .slice none 0 0] TPl))
          have r2z7 := Lib.hid (r2z2.out.up (.cells #[.int .i64 0, .int .i64 0, .bool false, .slice none 0 0] TPl))
          go_simp
          refine hK.out _ _ (SOK.out _ hz7.out) (fun hHeld => ?_)
          clear hK K'
          try simp only [Act.put, List.setIfInBounds_toArray, List.set_cons_zero, List.set_cons_succ]
          clear hHeld
          clear hz2 r1z2 r2z2
          generalize wz2.alloc (.cells #[.int .i64 0, .int .i64 0, .bool false, .slice none 0 0] TPl) = wz7 at *
          generalize wz2.heap.size = Bz7 at *
          refine wpAnyH_ready (rs := [4]) (by kernel_rfl) (by simp) ?_
          refine AllReadyH.cons (o := { dst := some 5, op := Op.alloc 26, type := 0, pos := "law.go:94", after := #[], guard := none }) rfl (fun K' hK => ?_) ?_
          ·
            have hz8 := Lib.hid (hz7.out.alloc hz7.out.size (.cells #[.int .i64 0, .int .i64 0, .bool false, .slice none 0 0] TPl))
            have g5z8 := Lib.hid (Blk.new wz7 TPl #[.int .i64 0, .int .i64 0, .bool false, .slice none 0 0])
            have lz8 : W0.heap.size ≤ wz7.heap.size := hz7.out.size
            have g6z8 := Lib.hid (g6z7.out.alloc (.cells #[.int .i64 0, .int .i64 0, .bool false, .slice none 0 0] TPl))
            have nz8 : Bz7 ≠ wz7.heap.size := Nat.ne_of_lt g6z7.out.lt
            have r1z8 := Lib.hid (r1z7.out.up (.cells #[.int .i64 0, .int .i64 0, .bool false, .slice none 0 0] TPl))
            have r2z8 := Lib.hid (r2z7.out.up (.cells #[.int .i64 0, .int .i64 0, .bool false, .slice none 0 0] TPl))
            go_simp
            refine hK.out _ _ (SOK.out _ hz8.out) (fun hHeld => ?_)
            clear hK K'
            try simp only [Act.put, List.setIfInBounds_toArray, List.set_cons_zero, List.set_cons_succ]
            clear hHeld
            clear hz7 g6z7 r1z7 r2z7
            generalize wz7.alloc (.cells #[.int .i64 0, .int .i64 0, .bool false, .slice none 0 0] TPl) = wz8 at *
            generalize wz7.heap.size = Bz8 at *
            refine wpAnyH_ready (rs := [6]) (by kernel_rfl) (by simp) ?_
            refine AllReadyH.cons (o := { dst := none, op := Op.store 26 (Operand.tmp 5) (Operand.tmp 16), type := 0, pos := "law.go:94", after := #[{ on := 4, ground := Ground.data }, { on := 1, ground := Ground.data }, { on := 3, ground := Ground.chain }, { on := 0, ground := Ground.phase }, { on := 1, ground := Ground.phase }, { on := 2, ground := Ground.textOnly Departure.lateStores }, { on := 3, ground := Ground.textOnly Departure.lateStoresUnsure }, { on := 4, ground := Ground.phase }, { on := 5, ground := Ground.phase }], guard := none }) rfl (fun K' hK => ?_) ?_
            ·
              have z0 := g5z8.out.frozen 0
              have z1 := g5z8.out.frozen 1
              have z2 := g5z8.out.frozen 2
              have z3 := g5z8.out.frozen 3
              have y0 : wz8.cell? ⟨Bz8, 0, none⟩ = some (.int .i64 0) := g5z8.out.cell 0
              have y1 : wz8.cell? ⟨Bz8, 1, none⟩ = some (.int .i64 0) := g5z8.out.cell 1
              have y2 : wz8.cell? ⟨Bz8, 2, none⟩ = some (.bool false) := g5z8.out.cell 2
              have y3 : wz8.cell? ⟨Bz8, 3, none⟩ = some (.slice none 0 0) := g5z8.out.cell 3
              have hz9 : Hid (Below W0.heap.size W0 ((((wz8.setCell ⟨Bz8, 0, none⟩ (.int .i64 k)).setCell ⟨Bz8, 1, none⟩ (.int .i64 n)).setCell ⟨Bz8, 2, none⟩ (.bool x)).setCell ⟨Bz8, 3, none⟩ (.slice oa1 L1 oc1))) := ((((hz8.out.setCell (p := ⟨Bz8, 0, none⟩) lz8 _).setCell (p := ⟨Bz8, 1, none⟩) lz8 _).setCell (p := ⟨Bz8, 2, none⟩) lz8 _).setCell (p := ⟨Bz8, 3, none⟩) lz8 _)
              have g5z9 : Hid (Blk ((((wz8.setCell ⟨Bz8, 0, none⟩ (.int .i64 k)).setCell ⟨Bz8, 1, none⟩ (.int .i64 n)).setCell ⟨Bz8, 2, none⟩ (.bool x)).setCell ⟨Bz8, 3, none⟩ (.slice oa1 L1 oc1)) Bz8 TPl #[.int .i64 k, .int .i64 n, .bool x, .slice oa1 L1 oc1]) := ((((g5z8.out.set 0 (.int .i64 k)).set 1 (.int .i64 n)).set 2 (.bool x)).set 3 (.slice oa1 L1 oc1))
              have g6z9 := Lib.hid ((((g6z8.out.other nz8 0 (.int .i64 k)).other nz8 1 (.int .i64 n)).other nz8 2 (.bool x)).other nz8 3 (.slice oa1 L1 oc1))
              have r1z9 : Hid (RulesR TRl TCd W0.heap.size ((((wz8.setCell ⟨Bz8, 0, none⟩ (.int .i64 k)).setCell ⟨Bz8, 1, none⟩ (.int .i64 n)).setCell ⟨Bz8, 2, none⟩ (.bool x)).setCell ⟨Bz8, 3, none⟩ (.slice oa1 L1 oc1)) (.slice oa1 L1 oc1) rs) := ((((r1z8.out.setG (g := Bz8) (j := 0) (u := .int .i64 k) g5z8.out (by decide) (by decide)).setG (g := Bz8) (j := 1) (u := .int .i64 n) (g5z8.out.set 0 (.int .i64 k)) (by decide) (by decide)).setG (g := Bz8) (j := 2) (u := .bool x) ((g5z8.out.set 0 (.int .i64 k)).set 1 (.int .i64 n)) (by decide) (by decide)).setG (g := Bz8) (j := 3) (u := .slice oa1 L1 oc1) (((g5z8.out.set 0 (.int .i64 k)).set 1 (.int .i64 n)).set 2 (.bool x)) (by decide) (by decide))
              have r2z9 : Hid (RulesR TRl TCd W0.heap.size ((((wz8.setCell ⟨Bz8, 0, none⟩ (.int .i64 k)).setCell ⟨Bz8, 1, none⟩ (.int .i64 n)).setCell ⟨Bz8, 2, none⟩ (.bool x)).setCell ⟨Bz8, 3, none⟩ (.slice oa1 L1 oc1)) (.slice oa2 L2 oc2) ss) := ((((r2z8.out.setG (g := Bz8) (j := 0) (u := .int .i64 k) g5z8.out (by decide) (by decide)).setG (g := Bz8) (j := 1) (u := .int .i64 n) (g5z8.out.set 0 (.int .i64 k)) (by decide) (by decide)).setG (g := Bz8) (j := 2) (u := .bool x) ((g5z8.out.set 0 (.int .i64 k)).set 1 (.int .i64 n)) (by decide) (by decide)).setG (g := Bz8) (j := 3) (u := .slice oa1 L1 oc1) (((g5z8.out.set 0 (.int .i64 k)).set 1 (.int .i64 n)).set 2 (.bool x)) (by decide) (by decide))
              go_simp
              refine hK.out _ _ (SOK.out _ hz9.out) (fun hHeld => ?_)
              clear hK K'
              try simp only [Act.put, List.setIfInBounds_toArray, List.set_cons_zero, List.set_cons_succ]
              clear hHeld
              clear z0 z1 z2 z3 y0 y1 y2 y3 hz8 g5z8 g6z8 r1z8 r2z8
              generalize ((((wz8.setCell ⟨Bz8, 0, none⟩ (.int .i64 k)).setCell ⟨Bz8, 1, none⟩ (.int .i64 n)).setCell ⟨Bz8, 2, none⟩ (.bool x)).setCell ⟨Bz8, 3, none⟩ (.slice oa1 L1 oc1)) = wz9 at *
              refine wpAnyH_ready (rs := [7]) (by kernel_rfl) (by simp) ?_
              refine AllReadyH.cons (o := { dst := none, op := Op.store 26 (Operand.tmp 6) (Operand.tmp 18), type := 0, pos := "law.go:94", after := #[{ on := 5, ground := Ground.data }, { on := 3, ground := Ground.data }, { on := 6, ground := Ground.chain }, { on := 0, ground := Ground.phase }, { on := 1, ground := Ground.phase }, { on := 2, ground := Ground.phase }, { on := 3, ground := Ground.phase }, { on := 4, ground := Ground.phase }, { on := 5, ground := Ground.phase }, { on := 6, ground := Ground.phase }], guard := none }) rfl (fun K' hK => ?_) ?_
              ·
                have z0 := g6z9.out.frozen 0
                have z1 := g6z9.out.frozen 1
                have z2 := g6z9.out.frozen 2
                have z3 := g6z9.out.frozen 3
                have y0 : wz9.cell? ⟨Bz7, 0, none⟩ = some (.int .i64 0) := g6z9.out.cell 0
                have y1 : wz9.cell? ⟨Bz7, 1, none⟩ = some (.int .i64 0) := g6z9.out.cell 1
                have y2 : wz9.cell? ⟨Bz7, 2, none⟩ = some (.bool false) := g6z9.out.cell 2
                have y3 : wz9.cell? ⟨Bz7, 3, none⟩ = some (.slice none 0 0) := g6z9.out.cell 3
                have hz10 : Hid (Below W0.heap.size W0 ((((wz9.setCell ⟨Bz7, 0, none⟩ (.int .i64 k2)).setCell ⟨Bz7, 1, none⟩ (.int .i64 n2)).setCell ⟨Bz7, 2, none⟩ (.bool x2)).setCell ⟨Bz7, 3, none⟩ (.slice oa2 L2 oc2))) := ((((hz9.out.setCell (p := ⟨Bz7, 0, none⟩) lz7 _).setCell (p := ⟨Bz7, 1, none⟩) lz7 _).setCell (p := ⟨Bz7, 2, none⟩) lz7 _).setCell (p := ⟨Bz7, 3, none⟩) lz7 _)
                have g6z10 : Hid (Blk ((((wz9.setCell ⟨Bz7, 0, none⟩ (.int .i64 k2)).setCell ⟨Bz7, 1, none⟩ (.int .i64 n2)).setCell ⟨Bz7, 2, none⟩ (.bool x2)).setCell ⟨Bz7, 3, none⟩ (.slice oa2 L2 oc2)) Bz7 TPl #[.int .i64 k2, .int .i64 n2, .bool x2, .slice oa2 L2 oc2]) := ((((g6z9.out.set 0 (.int .i64 k2)).set 1 (.int .i64 n2)).set 2 (.bool x2)).set 3 (.slice oa2 L2 oc2))
                have g5z10 := Lib.hid ((((g5z9.out.other (Ne.symm nz8) 0 (.int .i64 k2)).other (Ne.symm nz8) 1 (.int .i64 n2)).other (Ne.symm nz8) 2 (.bool x2)).other (Ne.symm nz8) 3 (.slice oa2 L2 oc2))
                have r1z10 : Hid (RulesR TRl TCd W0.heap.size ((((wz9.setCell ⟨Bz7, 0, none⟩ (.int .i64 k2)).setCell ⟨Bz7, 1, none⟩ (.int .i64 n2)).setCell ⟨Bz7, 2, none⟩ (.bool x2)).setCell ⟨Bz7, 3, none⟩ (.slice oa2 L2 oc2)) (.slice oa1 L1 oc1) rs) := ((((r1z9.out.setG (g := Bz7) (j := 0) (u := .int .i64 k2) g6z9.out (by decide) (by decide)).setG (g := Bz7) (j := 1) (u := .int .i64 n2) (g6z9.out.set 0 (.int .i64 k2)) (by decide) (by decide)).setG (g := Bz7) (j := 2) (u := .bool x2) ((g6z9.out.set 0 (.int .i64 k2)).set 1 (.int .i64 n2)) (by decide) (by decide)).setG (g := Bz7) (j := 3) (u := .slice oa2 L2 oc2) (((g6z9.out.set 0 (.int .i64 k2)).set 1 (.int .i64 n2)).set 2 (.bool x2)) (by decide) (by decide))
                have r2z10 : Hid (RulesR TRl TCd W0.heap.size ((((wz9.setCell ⟨Bz7, 0, none⟩ (.int .i64 k2)).setCell ⟨Bz7, 1, none⟩ (.int .i64 n2)).setCell ⟨Bz7, 2, none⟩ (.bool x2)).setCell ⟨Bz7, 3, none⟩ (.slice oa2 L2 oc2)) (.slice oa2 L2 oc2) ss) := ((((r2z9.out.setG (g := Bz7) (j := 0) (u := .int .i64 k2) g6z9.out (by decide) (by decide)).setG (g := Bz7) (j := 1) (u := .int .i64 n2) (g6z9.out.set 0 (.int .i64 k2)) (by decide) (by decide)).setG (g := Bz7) (j := 2) (u := .bool x2) ((g6z9.out.set 0 (.int .i64 k2)).set 1 (.int .i64 n2)) (by decide) (by decide)).setG (g := Bz7) (j := 3) (u := .slice oa2 L2 oc2) (((g6z9.out.set 0 (.int .i64 k2)).set 1 (.int .i64 n2)).set 2 (.bool x2)) (by decide) (by decide))
                go_simp
                refine hK.out _ _ (SOK.out _ hz10.out) (fun hHeld => ?_)
                clear hK K'
                try simp only [Act.put, List.setIfInBounds_toArray, List.set_cons_zero, List.set_cons_succ]
                clear hHeld
                clear z0 z1 z2 z3 y0 y1 y2 y3 hz9 g5z9 g6z9 r1z9 r2z9
                generalize ((((wz9.setCell ⟨Bz7, 0, none⟩ (.int .i64 k2)).setCell ⟨Bz7, 1, none⟩ (.int .i64 n2)).setCell ⟨Bz7, 2, none⟩ (.bool x2)).setCell ⟨Bz7, 3, none⟩ (.slice oa2 L2 oc2)) = wz10 at *
                refine wpAnyH_done (by kernel_rfl) ?_ _
                refine NoPanic.normal ?_
                go_wp2_with fail
                go_meet
                exact ⟨_, _, _, _, _, _, rfl, rfl, hz10, g5z10, g6z10, r1z10, r2z10⟩
              exact AllReadyH.nil
            exact AllReadyH.nil
          exact AllReadyH.nil
        exact AllReadyH.nil
      refine AllReadyH.cons (o := { dst := some 5, op := Op.alloc 26, type := 0, pos := "law.go:94", after := #[], guard := none }) rfl (fun K' hK => ?_) ?_
      ·
        have hz11 := Lib.hid (hz1.out.alloc hz1.out.size (.cells #[.int .i64 0, .int .i64 0, .bool false, .slice none 0 0] TPl))
        have g5z11 := Lib.hid (Blk.new wz1 TPl #[.int .i64 0, .int .i64 0, .bool false, .slice none 0 0])
        have lz11 : W0.heap.size ≤ wz1.heap.size := hz1.out.size
        have r1z11 := Lib.hid (r1z1.out.up (.cells #[.int .i64 0, .int .i64 0, .bool false, .slice none 0 0] TPl))
        go_simp
        refine hK.out _ _ (SOK.out _ hz11.out) (fun hHeld => ?_)
        clear hK K'
        try simp only [Act.put, List.setIfInBounds_toArray, List.set_cons_zero, List.set_cons_succ]
        clear hHeld
        clear hz1 r1z1
        generalize wz1.alloc (.cells #[.int .i64 0, .int .i64 0, .bool false, .slice none 0 0] TPl) = wz11 at *
        generalize wz1.heap.size = Bz11 at *
        refine wpAnyH_ready (rs := [3, 5]) (by kernel_rfl) (by simp) ?_
        refine AllReadyH.cons (o := { dst := some 18, op := Op.call { callee := Callee.value (Operand.func 14), args := #[Operand.tmp 17], argTypes := #[33] }, type := 26, pos := "law.go:94", after := #[{ on := 2, ground := Ground.data }, { on := 1, ground := Ground.chain }], guard := none }) rfl (fun K' hK => ?_) ?_
        ·
          go_simp
          refine (HOFb.out _ hz11.out).mono ?_
          rintro e wz12 ⟨oa2, oc2, rfl, hrr, hbz⟩
          have hz12 := belP hz11 hbz
          have g5z12 := blkHP g5z11 hbz
          have r1z12 := Lib.hid (r1z11.out.below hbz)
          have r2z12 := Lib.hid hrr
          refine hK.out _ _ (SOK.out _ hz12.out) (fun hHeld => ?_)
          clear hK K'
          try simp only [Act.put, List.setIfInBounds_toArray, List.set_cons_zero, List.set_cons_succ]
          clear hHeld
          clear hbz hrr hz11 g5z11 r1z11
          refine wpAnyH_ready (rs := [5]) (by kernel_rfl) (by simp) ?_
          refine AllReadyH.cons (o := { dst := some 6, op := Op.alloc 26, type := 0, pos := "law.go:94", after := #[], guard := none }) rfl (fun K' hK => ?_) ?_
          ·
            have hz13 := Lib.hid (hz12.out.alloc hz12.out.size (.cells #[.int .i64 0, .int .i64 0, .bool false, .slice none 0 0] TPl))
            have g6z13 := Lib.hid (Blk.new wz12 TPl #[.int .i64 0, .int .i64 0, .bool false, .slice none 0 0])
            have lz13 : W0.heap.size ≤ wz12.heap.size := hz12.out.size
            have g5z13 := Lib.hid (g5z12.out.alloc (.cells #[.int .i64 0, .int .i64 0, .bool false, .slice none 0 0] TPl))
            have nz13 : Bz11 ≠ wz12.heap.size := Nat.ne_of_lt g5z12.out.lt
            have r1z13 := Lib.hid (r1z12.out.up (.cells #[.int .i64 0, .int .i64 0, .bool false, .slice none 0 0] TPl))
            have r2z13 := Lib.hid (r2z12.out.up (.cells #[.int .i64 0, .int .i64 0, .bool false, .slice none 0 0] TPl))
            go_simp
            refine hK.out _ _ (SOK.out _ hz13.out) (fun hHeld => ?_)
            clear hK K'
            try simp only [Act.put, List.setIfInBounds_toArray, List.set_cons_zero, List.set_cons_succ]
            clear hHeld
            clear hz12 g5z12 r1z12 r2z12
            generalize wz12.alloc (.cells #[.int .i64 0, .int .i64 0, .bool false, .slice none 0 0] TPl) = wz13 at *
            generalize wz12.heap.size = Bz13 at *
            refine wpAnyH_ready (rs := [6]) (by kernel_rfl) (by simp) ?_
            refine AllReadyH.cons (o := { dst := none, op := Op.store 26 (Operand.tmp 5) (Operand.tmp 16), type := 0, pos := "law.go:94", after := #[{ on := 4, ground := Ground.data }, { on := 1, ground := Ground.data }, { on := 3, ground := Ground.chain }, { on := 0, ground := Ground.phase }, { on := 1, ground := Ground.phase }, { on := 2, ground := Ground.textOnly Departure.lateStores }, { on := 3, ground := Ground.textOnly Departure.lateStoresUnsure }, { on := 4, ground := Ground.phase }, { on := 5, ground := Ground.phase }], guard := none }) rfl (fun K' hK => ?_) ?_
            ·
              have z0 := g5z13.out.frozen 0
              have z1 := g5z13.out.frozen 1
              have z2 := g5z13.out.frozen 2
              have z3 := g5z13.out.frozen 3
              have y0 : wz13.cell? ⟨Bz11, 0, none⟩ = some (.int .i64 0) := g5z13.out.cell 0
              have y1 : wz13.cell? ⟨Bz11, 1, none⟩ = some (.int .i64 0) := g5z13.out.cell 1
              have y2 : wz13.cell? ⟨Bz11, 2, none⟩ = some (.bool false) := g5z13.out.cell 2
              have y3 : wz13.cell? ⟨Bz11, 3, none⟩ = some (.slice none 0 0) := g5z13.out.cell 3
              have hz14 : Hid (Below W0.heap.size W0 ((((wz13.setCell ⟨Bz11, 0, none⟩ (.int .i64 k)).setCell ⟨Bz11, 1, none⟩ (.int .i64 n)).setCell ⟨Bz11, 2, none⟩ (.bool x)).setCell ⟨Bz11, 3, none⟩ (.slice oa1 L1 oc1))) := ((((hz13.out.setCell (p := ⟨Bz11, 0, none⟩) lz11 _).setCell (p := ⟨Bz11, 1, none⟩) lz11 _).setCell (p := ⟨Bz11, 2, none⟩) lz11 _).setCell (p := ⟨Bz11, 3, none⟩) lz11 _)
              have g5z14 : Hid (Blk ((((wz13.setCell ⟨Bz11, 0, none⟩ (.int .i64 k)).setCell ⟨Bz11, 1, none⟩ (.int .i64 n)).setCell ⟨Bz11, 2, none⟩ (.bool x)).setCell ⟨Bz11, 3, none⟩ (.slice oa1 L1 oc1)) Bz11 TPl #[.int .i64 k, .int .i64 n, .bool x, .slice oa1 L1 oc1]) := ((((g5z13.out.set 0 (.int .i64 k)).set 1 (.int .i64 n)).set 2 (.bool x)).set 3 (.slice oa1 L1 oc1))
              have g6z14 := Lib.hid ((((g6z13.out.other (Ne.symm nz13) 0 (.int .i64 k)).other (Ne.symm nz13) 1 (.int .i64 n)).other (Ne.symm nz13) 2 (.bool x)).other (Ne.symm nz13) 3 (.slice oa1 L1 oc1))
              have r1z14 : Hid (RulesR TRl TCd W0.heap.size ((((wz13.setCell ⟨Bz11, 0, none⟩ (.int .i64 k)).setCell ⟨Bz11, 1, none⟩ (.int .i64 n)).setCell ⟨Bz11, 2, none⟩ (.bool x)).setCell ⟨Bz11, 3, none⟩ (.slice oa1 L1 oc1)) (.slice oa1 L1 oc1) rs) := ((((r1z13.out.setG (g := Bz11) (j := 0) (u := .int .i64 k) g5z13.out (by decide) (by decide)).setG (g := Bz11) (j := 1) (u := .int .i64 n) (g5z13.out.set 0 (.int .i64 k)) (by decide) (by decide)).setG (g := Bz11) (j := 2) (u := .bool x) ((g5z13.out.set 0 (.int .i64 k)).set 1 (.int .i64 n)) (by decide) (by decide)).setG (g := Bz11) (j := 3) (u := .slice oa1 L1 oc1) (((g5z13.out.set 0 (.int .i64 k)).set 1 (.int .i64 n)).set 2 (.bool x)) (by decide) (by decide))
              have r2z14 : Hid (RulesR TRl TCd W0.heap.size ((((wz13.setCell ⟨Bz11, 0, none⟩ (.int .i64 k)).setCell ⟨Bz11, 1, none⟩ (.int .i64 n)).setCell ⟨Bz11, 2, none⟩ (.bool x)).setCell ⟨Bz11, 3, none⟩ (.slice oa1 L1 oc1)) (.slice oa2 L2 oc2) ss) := ((((r2z13.out.setG (g := Bz11) (j := 0) (u := .int .i64 k) g5z13.out (by decide) (by decide)).setG (g := Bz11) (j := 1) (u := .int .i64 n) (g5z13.out.set 0 (.int .i64 k)) (by decide) (by decide)).setG (g := Bz11) (j := 2) (u := .bool x) ((g5z13.out.set 0 (.int .i64 k)).set 1 (.int .i64 n)) (by decide) (by decide)).setG (g := Bz11) (j := 3) (u := .slice oa1 L1 oc1) (((g5z13.out.set 0 (.int .i64 k)).set 1 (.int .i64 n)).set 2 (.bool x)) (by decide) (by decide))
              go_simp
              refine hK.out _ _ (SOK.out _ hz14.out) (fun hHeld => ?_)
              clear hK K'
              try simp only [Act.put, List.setIfInBounds_toArray, List.set_cons_zero, List.set_cons_succ]
              clear hHeld
              clear z0 z1 z2 z3 y0 y1 y2 y3 hz13 g5z13 g6z13 r1z13 r2z13
              generalize ((((wz13.setCell ⟨Bz11, 0, none⟩ (.int .i64 k)).setCell ⟨Bz11, 1, none⟩ (.int .i64 n)).setCell ⟨Bz11, 2, none⟩ (.bool x)).setCell ⟨Bz11, 3, none⟩ (.slice oa1 L1 oc1)) = wz14 at *
              refine wpAnyH_ready (rs := [7]) (by kernel_rfl) (by simp) ?_
              refine AllReadyH.cons (o := { dst := none, op := Op.store 26 (Operand.tmp 6) (Operand.tmp 18), type := 0, pos := "law.go:94", after := #[{ on := 5, ground := Ground.data }, { on := 3, ground := Ground.data }, { on := 6, ground := Ground.chain }, { on := 0, ground := Ground.phase }, { on := 1, ground := Ground.phase }, { on := 2, ground := Ground.phase }, { on := 3, ground := Ground.phase }, { on := 4, ground := Ground.phase }, { on := 5, ground := Ground.phase }, { on := 6, ground := Ground.phase }], guard := none }) rfl (fun K' hK => ?_) ?_
              ·
                have z0 := g6z14.out.frozen 0
                have z1 := g6z14.out.frozen 1
                have z2 := g6z14.out.frozen 2
                have z3 := g6z14.out.frozen 3
                have y0 : wz14.cell? ⟨Bz13, 0, none⟩ = some (.int .i64 0) := g6z14.out.cell 0
                have y1 : wz14.cell? ⟨Bz13, 1, none⟩ = some (.int .i64 0) := g6z14.out.cell 1
                have y2 : wz14.cell? ⟨Bz13, 2, none⟩ = some (.bool false) := g6z14.out.cell 2
                have y3 : wz14.cell? ⟨Bz13, 3, none⟩ = some (.slice none 0 0) := g6z14.out.cell 3
                have hz15 : Hid (Below W0.heap.size W0 ((((wz14.setCell ⟨Bz13, 0, none⟩ (.int .i64 k2)).setCell ⟨Bz13, 1, none⟩ (.int .i64 n2)).setCell ⟨Bz13, 2, none⟩ (.bool x2)).setCell ⟨Bz13, 3, none⟩ (.slice oa2 L2 oc2))) := ((((hz14.out.setCell (p := ⟨Bz13, 0, none⟩) lz13 _).setCell (p := ⟨Bz13, 1, none⟩) lz13 _).setCell (p := ⟨Bz13, 2, none⟩) lz13 _).setCell (p := ⟨Bz13, 3, none⟩) lz13 _)
                have g6z15 : Hid (Blk ((((wz14.setCell ⟨Bz13, 0, none⟩ (.int .i64 k2)).setCell ⟨Bz13, 1, none⟩ (.int .i64 n2)).setCell ⟨Bz13, 2, none⟩ (.bool x2)).setCell ⟨Bz13, 3, none⟩ (.slice oa2 L2 oc2)) Bz13 TPl #[.int .i64 k2, .int .i64 n2, .bool x2, .slice oa2 L2 oc2]) := ((((g6z14.out.set 0 (.int .i64 k2)).set 1 (.int .i64 n2)).set 2 (.bool x2)).set 3 (.slice oa2 L2 oc2))
                have g5z15 := Lib.hid ((((g5z14.out.other nz13 0 (.int .i64 k2)).other nz13 1 (.int .i64 n2)).other nz13 2 (.bool x2)).other nz13 3 (.slice oa2 L2 oc2))
                have r1z15 : Hid (RulesR TRl TCd W0.heap.size ((((wz14.setCell ⟨Bz13, 0, none⟩ (.int .i64 k2)).setCell ⟨Bz13, 1, none⟩ (.int .i64 n2)).setCell ⟨Bz13, 2, none⟩ (.bool x2)).setCell ⟨Bz13, 3, none⟩ (.slice oa2 L2 oc2)) (.slice oa1 L1 oc1) rs) := ((((r1z14.out.setG (g := Bz13) (j := 0) (u := .int .i64 k2) g6z14.out (by decide) (by decide)).setG (g := Bz13) (j := 1) (u := .int .i64 n2) (g6z14.out.set 0 (.int .i64 k2)) (by decide) (by decide)).setG (g := Bz13) (j := 2) (u := .bool x2) ((g6z14.out.set 0 (.int .i64 k2)).set 1 (.int .i64 n2)) (by decide) (by decide)).setG (g := Bz13) (j := 3) (u := .slice oa2 L2 oc2) (((g6z14.out.set 0 (.int .i64 k2)).set 1 (.int .i64 n2)).set 2 (.bool x2)) (by decide) (by decide))
                have r2z15 : Hid (RulesR TRl TCd W0.heap.size ((((wz14.setCell ⟨Bz13, 0, none⟩ (.int .i64 k2)).setCell ⟨Bz13, 1, none⟩ (.int .i64 n2)).setCell ⟨Bz13, 2, none⟩ (.bool x2)).setCell ⟨Bz13, 3, none⟩ (.slice oa2 L2 oc2)) (.slice oa2 L2 oc2) ss) := ((((r2z14.out.setG (g := Bz13) (j := 0) (u := .int .i64 k2) g6z14.out (by decide) (by decide)).setG (g := Bz13) (j := 1) (u := .int .i64 n2) (g6z14.out.set 0 (.int .i64 k2)) (by decide) (by decide)).setG (g := Bz13) (j := 2) (u := .bool x2) ((g6z14.out.set 0 (.int .i64 k2)).set 1 (.int .i64 n2)) (by decide) (by decide)).setG (g := Bz13) (j := 3) (u := .slice oa2 L2 oc2) (((g6z14.out.set 0 (.int .i64 k2)).set 1 (.int .i64 n2)).set 2 (.bool x2)) (by decide) (by decide))
                go_simp
                refine hK.out _ _ (SOK.out _ hz15.out) (fun hHeld => ?_)
                clear hK K'
                try simp only [Act.put, List.setIfInBounds_toArray, List.set_cons_zero, List.set_cons_succ]
                clear hHeld
                clear z0 z1 z2 z3 y0 y1 y2 y3 hz14 g5z14 g6z14 r1z14 r2z14
                generalize ((((wz14.setCell ⟨Bz13, 0, none⟩ (.int .i64 k2)).setCell ⟨Bz13, 1, none⟩ (.int .i64 n2)).setCell ⟨Bz13, 2, none⟩ (.bool x2)).setCell ⟨Bz13, 3, none⟩ (.slice oa2 L2 oc2)) = wz15 at *
                refine wpAnyH_done (by kernel_rfl) ?_ _
                refine NoPanic.normal ?_
                go_wp2_with fail
                go_meet
                exact ⟨_, _, _, _, _, _, rfl, rfl, hz15, g5z15, g6z15, r1z15, r2z15⟩
              exact AllReadyH.nil
            exact AllReadyH.nil
          exact AllReadyH.nil
        refine AllReadyH.cons (o := { dst := some 6, op := Op.alloc 26, type := 0, pos := "law.go:94", after := #[], guard := none }) rfl (fun K' hK => ?_) ?_
        ·
          have hz16 := Lib.hid (hz11.out.alloc hz11.out.size (.cells #[.int .i64 0, .int .i64 0, .bool false, .slice none 0 0] TPl))
          have g6z16 := Lib.hid (Blk.new wz11 TPl #[.int .i64 0, .int .i64 0, .bool false, .slice none 0 0])
          have lz16 : W0.heap.size ≤ wz11.heap.size := hz11.out.size
          have g5z16 := Lib.hid (g5z11.out.alloc (.cells #[.int .i64 0, .int .i64 0, .bool false, .slice none 0 0] TPl))
          have nz16 : Bz11 ≠ wz11.heap.size := Nat.ne_of_lt g5z11.out.lt
          have r1z16 := Lib.hid (r1z11.out.up (.cells #[.int .i64 0, .int .i64 0, .bool false, .slice none 0 0] TPl))
          go_simp
          refine hK.out _ _ (SOK.out _ hz16.out) (fun hHeld => ?_)
          clear hK K'
          try simp only [Act.put, List.setIfInBounds_toArray, List.set_cons_zero, List.set_cons_succ]
          clear hHeld
          clear hz11 g5z11 r1z11
          generalize wz11.alloc (.cells #[.int .i64 0, .int .i64 0, .bool false, .slice none 0 0] TPl) = wz16 at *
          generalize wz11.heap.size = Bz16 at *
          refine wpAnyH_ready (rs := [3]) (by kernel_rfl) (by simp) ?_
          refine AllReadyH.cons (o := { dst := some 18, op := Op.call { callee := Callee.value (Operand.func 14), args := #[Operand.tmp 17], argTypes := #[33] }, type := 26, pos := "law.go:94", after := #[{ on := 2, ground := Ground.data }, { on := 1, ground := Ground.chain }], guard := none }) rfl (fun K' hK => ?_) ?_
          ·
            go_simp
            refine (HOFb.out _ hz16.out).mono ?_
            rintro e wz17 ⟨oa2, oc2, rfl, hrr, hbz⟩
            have hz17 := belP hz16 hbz
            have g5z17 := blkHP g5z16 hbz
            have g6z17 := blkHP g6z16 hbz
            have r1z17 := Lib.hid (r1z16.out.below hbz)
            have r2z17 := Lib.hid hrr
            refine hK.out _ _ (SOK.out _ hz17.out) (fun hHeld => ?_)
            clear hK K'
            try simp only [Act.put, List.setIfInBounds_toArray, List.set_cons_zero, List.set_cons_succ]
            clear hHeld
            clear hbz hrr hz16 g5z16 g6z16 r1z16
            refine wpAnyH_ready (rs := [6]) (by kernel_rfl) (by simp) ?_
            refine AllReadyH.cons (o := { dst := none, op := Op.store 26 (Operand.tmp 5) (Operand.tmp 16), type := 0, pos := "law.go:94", after := #[{ on := 4, ground := Ground.data }, { on := 1, ground := Ground.data }, { on := 3, ground := Ground.chain }, { on := 0, ground := Ground.phase }, { on := 1, ground := Ground.phase }, { on := 2, ground := Ground.textOnly Departure.lateStores }, { on := 3, ground := Ground.textOnly Departure.lateStoresUnsure }, { on := 4, ground := Ground.phase }, { on := 5, ground := Ground.phase }], guard := none }) rfl (fun K' hK => ?_) ?_
            ·
              have z0 := g5z17.out.frozen 0
              have z1 := g5z17.out.frozen 1
              have z2 := g5z17.out.frozen 2
              have z3 := g5z17.out.frozen 3
              have y0 : wz17.cell? ⟨Bz11, 0, none⟩ = some (.int .i64 0) := g5z17.out.cell 0
              have y1 : wz17.cell? ⟨Bz11, 1, none⟩ = some (.int .i64 0) := g5z17.out.cell 1
              have y2 : wz17.cell? ⟨Bz11, 2, none⟩ = some (.bool false) := g5z17.out.cell 2
              have y3 : wz17.cell? ⟨Bz11, 3, none⟩ = some (.slice none 0 0) := g5z17.out.cell 3
              have hz18 : Hid (Below W0.heap.size W0 ((((wz17.setCell ⟨Bz11, 0, none⟩ (.int .i64 k)).setCell ⟨Bz11, 1, none⟩ (.int .i64 n)).setCell ⟨Bz11, 2, none⟩ (.bool x)).setCell ⟨Bz11, 3, none⟩ (.slice oa1 L1 oc1))) := ((((hz17.out.setCell (p := ⟨Bz11, 0, none⟩) lz11 _).setCell (p := ⟨Bz11, 1, none⟩) lz11 _).setCell (p := ⟨Bz11, 2, none⟩) lz11 _).setCell (p := ⟨Bz11, 3, none⟩) lz11 _)
              have g5z18 : Hid (Blk ((((wz17.setCell ⟨Bz11, 0, none⟩ (.int .i64 k)).setCell ⟨Bz11, 1, none⟩ (.int .i64 n)).setCell ⟨Bz11, 2, none⟩ (.bool x)).setCell ⟨Bz11, 3, none⟩ (.slice oa1 L1 oc1)) Bz11 TPl #[.int .i64 k, .int .i64 n, .bool x, .slice oa1 L1 oc1]) := ((((g5z17.out.set 0 (.int .i64 k)).set 1 (.int .i64 n)).set 2 (.bool x)).set 3 (.slice oa1 L1 oc1))
              have g6z18 := Lib.hid ((((g6z17.out.other (Ne.symm nz16) 0 (.int .i64 k)).other (Ne.symm nz16) 1 (.int .i64 n)).other (Ne.symm nz16) 2 (.bool x)).other (Ne.symm nz16) 3 (.slice oa1 L1 oc1))
              have r1z18 : Hid (RulesR TRl TCd W0.heap.size ((((wz17.setCell ⟨Bz11, 0, none⟩ (.int .i64 k)).setCell ⟨Bz11, 1, none⟩ (.int .i64 n)).setCell ⟨Bz11, 2, none⟩ (.bool x)).setCell ⟨Bz11, 3, none⟩ (.slice oa1 L1 oc1)) (.slice oa1 L1 oc1) rs) := ((((r1z17.out.setG (g := Bz11) (j := 0) (u := .int .i64 k) g5z17.out (by decide) (by decide)).setG (g := Bz11) (j := 1) (u := .int .i64 n) (g5z17.out.set 0 (.int .i64 k)) (by decide) (by decide)).setG (g := Bz11) (j := 2) (u := .bool x) ((g5z17.out.set 0 (.int .i64 k)).set 1 (.int .i64 n)) (by decide) (by decide)).setG (g := Bz11) (j := 3) (u := .slice oa1 L1 oc1) (((g5z17.out.set 0 (.int .i64 k)).set 1 (.int .i64 n)).set 2 (.bool x)) (by decide) (by decide))
              have r2z18 : Hid (RulesR TRl TCd W0.heap.size ((((wz17.setCell ⟨Bz11, 0, none⟩ (.int .i64 k)).setCell ⟨Bz11, 1, none⟩ (.int .i64 n)).setCell ⟨Bz11, 2, none⟩ (.bool x)).setCell ⟨Bz11, 3, none⟩ (.slice oa1 L1 oc1)) (.slice oa2 L2 oc2) ss) := ((((r2z17.out.setG (g := Bz11) (j := 0) (u := .int .i64 k) g5z17.out (by decide) (by decide)).setG (g := Bz11) (j := 1) (u := .int .i64 n) (g5z17.out.set 0 (.int .i64 k)) (by decide) (by decide)).setG (g := Bz11) (j := 2) (u := .bool x) ((g5z17.out.set 0 (.int .i64 k)).set 1 (.int .i64 n)) (by decide) (by decide)).setG (g := Bz11) (j := 3) (u := .slice oa1 L1 oc1) (((g5z17.out.set 0 (.int .i64 k)).set 1 (.int .i64 n)).set 2 (.bool x)) (by decide) (by decide))
              go_simp
              refine hK.out _ _ (SOK.out _ hz18.out) (fun hHeld => ?_)
              clear hK K'
              try simp only [Act.put, List.setIfInBounds_toArray, List.set_cons_zero, List.set_cons_succ]
              clear hHeld
              clear z0 z1 z2 z3 y0 y1 y2 y3 hz17 g5z17 g6z17 r1z17 r2z17
              generalize ((((wz17.setCell ⟨Bz11, 0, none⟩ (.int .i64 k)).setCell ⟨Bz11, 1, none⟩ (.int .i64 n)).setCell ⟨Bz11, 2, none⟩ (.bool x)).setCell ⟨Bz11, 3, none⟩ (.slice oa1 L1 oc1)) = wz18 at *
              refine wpAnyH_ready (rs := [7]) (by kernel_rfl) (by simp) ?_
              refine AllReadyH.cons (o := { dst := none, op := Op.store 26 (Operand.tmp 6) (Operand.tmp 18), type := 0, pos := "law.go:94", after := #[{ on := 5, ground := Ground.data }, { on := 3, ground := Ground.data }, { on := 6, ground := Ground.chain }, { on := 0, ground := Ground.phase }, { on := 1, ground := Ground.phase }, { on := 2, ground := Ground.phase }, { on := 3, ground := Ground.phase }, { on := 4, ground := Ground.phase }, { on := 5, ground := Ground.phase }, { on := 6, ground := Ground.phase }], guard := none }) rfl (fun K' hK => ?_) ?_
              ·
                have z0 := g6z18.out.frozen 0
                have z1 := g6z18.out.frozen 1
                have z2 := g6z18.out.frozen 2
                have z3 := g6z18.out.frozen 3
                have y0 : wz18.cell? ⟨Bz16, 0, none⟩ = some (.int .i64 0) := g6z18.out.cell 0
                have y1 : wz18.cell? ⟨Bz16, 1, none⟩ = some (.int .i64 0) := g6z18.out.cell 1
                have y2 : wz18.cell? ⟨Bz16, 2, none⟩ = some (.bool false) := g6z18.out.cell 2
                have y3 : wz18.cell? ⟨Bz16, 3, none⟩ = some (.slice none 0 0) := g6z18.out.cell 3
                have hz19 : Hid (Below W0.heap.size W0 ((((wz18.setCell ⟨Bz16, 0, none⟩ (.int .i64 k2)).setCell ⟨Bz16, 1, none⟩ (.int .i64 n2)).setCell ⟨Bz16, 2, none⟩ (.bool x2)).setCell ⟨Bz16, 3, none⟩ (.slice oa2 L2 oc2))) := ((((hz18.out.setCell (p := ⟨Bz16, 0, none⟩) lz16 _).setCell (p := ⟨Bz16, 1, none⟩) lz16 _).setCell (p := ⟨Bz16, 2, none⟩) lz16 _).setCell (p := ⟨Bz16, 3, none⟩) lz16 _)
                have g6z19 : Hid (Blk ((((wz18.setCell ⟨Bz16, 0, none⟩ (.int .i64 k2)).setCell ⟨Bz16, 1, none⟩ (.int .i64 n2)).setCell ⟨Bz16, 2, none⟩ (.bool x2)).setCell ⟨Bz16, 3, none⟩ (.slice oa2 L2 oc2)) Bz16 TPl #[.int .i64 k2, .int .i64 n2, .bool x2, .slice oa2 L2 oc2]) := ((((g6z18.out.set 0 (.int .i64 k2)).set 1 (.int .i64 n2)).set 2 (.bool x2)).set 3 (.slice oa2 L2 oc2))
                have g5z19 := Lib.hid ((((g5z18.out.other nz16 0 (.int .i64 k2)).other nz16 1 (.int .i64 n2)).other nz16 2 (.bool x2)).other nz16 3 (.slice oa2 L2 oc2))
                have r1z19 : Hid (RulesR TRl TCd W0.heap.size ((((wz18.setCell ⟨Bz16, 0, none⟩ (.int .i64 k2)).setCell ⟨Bz16, 1, none⟩ (.int .i64 n2)).setCell ⟨Bz16, 2, none⟩ (.bool x2)).setCell ⟨Bz16, 3, none⟩ (.slice oa2 L2 oc2)) (.slice oa1 L1 oc1) rs) := ((((r1z18.out.setG (g := Bz16) (j := 0) (u := .int .i64 k2) g6z18.out (by decide) (by decide)).setG (g := Bz16) (j := 1) (u := .int .i64 n2) (g6z18.out.set 0 (.int .i64 k2)) (by decide) (by decide)).setG (g := Bz16) (j := 2) (u := .bool x2) ((g6z18.out.set 0 (.int .i64 k2)).set 1 (.int .i64 n2)) (by decide) (by decide)).setG (g := Bz16) (j := 3) (u := .slice oa2 L2 oc2) (((g6z18.out.set 0 (.int .i64 k2)).set 1 (.int .i64 n2)).set 2 (.bool x2)) (by decide) (by decide))
                have r2z19 : Hid (RulesR TRl TCd W0.heap.size ((((wz18.setCell ⟨Bz16, 0, none⟩ (.int .i64 k2)).setCell ⟨Bz16, 1, none⟩ (.int .i64 n2)).setCell ⟨Bz16, 2, none⟩ (.bool x2)).setCell ⟨Bz16, 3, none⟩ (.slice oa2 L2 oc2)) (.slice oa2 L2 oc2) ss) := ((((r2z18.out.setG (g := Bz16) (j := 0) (u := .int .i64 k2) g6z18.out (by decide) (by decide)).setG (g := Bz16) (j := 1) (u := .int .i64 n2) (g6z18.out.set 0 (.int .i64 k2)) (by decide) (by decide)).setG (g := Bz16) (j := 2) (u := .bool x2) ((g6z18.out.set 0 (.int .i64 k2)).set 1 (.int .i64 n2)) (by decide) (by decide)).setG (g := Bz16) (j := 3) (u := .slice oa2 L2 oc2) (((g6z18.out.set 0 (.int .i64 k2)).set 1 (.int .i64 n2)).set 2 (.bool x2)) (by decide) (by decide))
                go_simp
                refine hK.out _ _ (SOK.out _ hz19.out) (fun hHeld => ?_)
                clear hK K'
                try simp only [Act.put, List.setIfInBounds_toArray, List.set_cons_zero, List.set_cons_succ]
                clear hHeld
                clear z0 z1 z2 z3 y0 y1 y2 y3 hz18 g5z18 g6z18 r1z18 r2z18
                generalize ((((wz18.setCell ⟨Bz16, 0, none⟩ (.int .i64 k2)).setCell ⟨Bz16, 1, none⟩ (.int .i64 n2)).setCell ⟨Bz16, 2, none⟩ (.bool x2)).setCell ⟨Bz16, 3, none⟩ (.slice oa2 L2 oc2)) = wz19 at *
                refine wpAnyH_done (by kernel_rfl) ?_ _
                refine NoPanic.normal ?_
                go_wp2_with fail
                go_meet
                exact ⟨_, _, _, _, _, _, rfl, rfl, hz19, g5z19, g6z19, r1z19, r2z19⟩
              exact AllReadyH.nil
            exact AllReadyH.nil
          exact AllReadyH.nil
        exact AllReadyH.nil
      refine AllReadyH.cons (o := { dst := some 6, op := Op.alloc 26, type := 0, pos := "law.go:94", after := #[], guard := none }) rfl (fun K' hK => ?_) ?_
      ·
        have hz20 := Lib.hid (hz1.out.alloc hz1.out.size (.cells #[.int .i64 0, .int .i64 0, .bool false, .slice none 0 0] TPl))
        have g6z20 := Lib.hid (Blk.new wz1 TPl #[.int .i64 0, .int .i64 0, .bool false, .slice none 0 0])
        have lz20 : W0.heap.size ≤ wz1.heap.size := hz1.out.size
        have r1z20 := Lib.hid (r1z1.out.up (.cells #[.int .i64 0, .int .i64 0, .bool false, .slice none 0 0] TPl))
        go_simp
        refine hK.out _ _ (SOK.out _ hz20.out) (fun hHeld => ?_)
        clear hK K'
        try simp only [Act.put, List.setIfInBounds_toArray, List.set_cons_zero, List.set_cons_succ]
        clear hHeld
        clear hz1 r1z1
        generalize wz1.alloc (.cells #[.int .i64 0, .int .i64 0, .bool false, .slice none 0 0] TPl) = wz20 at *
        generalize wz1.heap.size = Bz20 at *
        refine wpAnyH_ready (rs := [3, 4]) (by kernel_rfl) (by simp) ?_
        refine AllReadyH.cons (o := { dst := some 18, op := Op.call { callee := Callee.value (Operand.func 14), args := #[Operand.tmp 17], argTypes := #[33] }, type := 26, pos := "law.go:94", after := #[{ on := 2, ground := Ground.data }, { on := 1, ground := Ground.chain }], guard := none }) rfl (fun K' hK => ?_) ?_
        ·
          go_simp
          refine (HOFb.out _ hz20.out).mono ?_
          rintro e wz21 ⟨oa2, oc2, rfl, hrr, hbz⟩
          have hz21 := belP hz20 hbz
          have g6z21 := blkHP g6z20 hbz
          have r1z21 := Lib.hid (r1z20.out.below hbz)
          have r2z21 := Lib.hid hrr
          refine hK.out _ _ (SOK.out _ hz21.out) (fun hHeld => ?_)
          clear hK K'
          try simp only [Act.put, List.setIfInBounds_toArray, List.set_cons_zero, List.set_cons_succ]
          clear hHeld
          clear hbz hrr hz20 g6z20 r1z20
          refine wpAnyH_ready (rs := [4]) (by kernel_rfl) (by simp) ?_
          refine AllReadyH.cons (o := { dst := some 5, op := Op.alloc 26, type := 0, pos := "law.go:94", after := #[], guard := none }) rfl (fun K' hK => ?_) ?_
          ·
            have hz22 := Lib.hid (hz21.out.alloc hz21.out.size (.cells #[.int .i64 0, .int .i64 0, .bool false, .slice none 0 0] TPl))
            have g5z22 := Lib.hid (Blk.new wz21 TPl #[.int .i64 0, .int .i64 0, .bool false, .slice none 0 0])
            have lz22 : W0.heap.size ≤ wz21.heap.size := hz21.out.size
            have g6z22 := Lib.hid (g6z21.out.alloc (.cells #[.int .i64 0, .int .i64 0, .bool false, .slice none 0 0] TPl))
            have nz22 : Bz20 ≠ wz21.heap.size := Nat.ne_of_lt g6z21.out.lt
            have r1z22 := Lib.hid (r1z21.out.up (.cells #[.int .i64 0, .int .i64 0, .bool false, .slice none 0 0] TPl))
            have r2z22 := Lib.hid (r2z21.out.up (.cells #[.int .i64 0, .int .i64 0, .bool false, .slice none 0 0] TPl))
            go_simp
            refine hK.out _ _ (SOK.out _ hz22.out) (fun hHeld => ?_)
            clear hK K'
            try simp only [Act.put, List.setIfInBounds_toArray, List.set_cons_zero, List.set_cons_succ]
            clear hHeld
            clear hz21 g6z21 r1z21 r2z21
            generalize wz21.alloc (.cells #[.int .i64 0, .int .i64 0, .bool false, .slice none 0 0] TPl) = wz22 at *
            generalize wz21.heap.size = Bz22 at *
            refine wpAnyH_ready (rs := [6]) (by kernel_rfl) (by simp) ?_
            refine AllReadyH.cons (o := { dst := none, op := Op.store 26 (Operand.tmp 5) (Operand.tmp 16), type := 0, pos := "law.go:94", after := #[{ on := 4, ground := Ground.data }, { on := 1, ground := Ground.data }, { on := 3, ground := Ground.chain }, { on := 0, ground := Ground.phase }, { on := 1, ground := Ground.phase }, { on := 2, ground := Ground.textOnly Departure.lateStores }, { on := 3, ground := Ground.textOnly Departure.lateStoresUnsure }, { on := 4, ground := Ground.phase }, { on := 5, ground := Ground.phase }], guard := none }) rfl (fun K' hK => ?_) ?_
            ·
              have z0 := g5z22.out.frozen 0
              have z1 := g5z22.out.frozen 1
              have z2 := g5z22.out.frozen 2
              have z3 := g5z22.out.frozen 3
              have y0 : wz22.cell? ⟨Bz22, 0, none⟩ = some (.int .i64 0) := g5z22.out.cell 0
              have y1 : wz22.cell? ⟨Bz22, 1, none⟩ = some (.int .i64 0) := g5z22.out.cell 1
              have y2 : wz22.cell? ⟨Bz22, 2, none⟩ = some (.bool false) := g5z22.out.cell 2
              have y3 : wz22.cell? ⟨Bz22, 3, none⟩ = some (.slice none 0 0) := g5z22.out.cell 3
              have hz23 : Hid (Below W0.heap.size W0 ((((wz22.setCell ⟨Bz22, 0, none⟩ (.int .i64 k)).setCell ⟨Bz22, 1, none⟩ (.int .i64 n)).setCell ⟨Bz22, 2, none⟩ (.bool x)).setCell ⟨Bz22, 3, none⟩ (.slice oa1 L1 oc1))) := ((((hz22.out.setCell (p := ⟨Bz22, 0, none⟩) lz22 _).setCell (p := ⟨Bz22, 1, none⟩) lz22 _).setCell (p := ⟨Bz22, 2, none⟩) lz22 _).setCell (p := ⟨Bz22, 3, none⟩) lz22 _)
              have g5z23 : Hid (Blk ((((wz22.setCell ⟨Bz22, 0, none⟩ (.int .i64 k)).setCell ⟨Bz22, 1, none⟩ (.int .i64 n)).setCell ⟨Bz22, 2, none⟩ (.bool x)).setCell ⟨Bz22, 3, none⟩ (.slice oa1 L1 oc1)) Bz22 TPl #[.int .i64 k, .int .i64 n, .bool x, .slice oa1 L1 oc1]) := ((((g5z22.out.set 0 (.int .i64 k)).set 1 (.int .i64 n)).set 2 (.bool x)).set 3 (.slice oa1 L1 oc1))
              have g6z23 := Lib.hid ((((g6z22.out.other nz22 0 (.int .i64 k)).other nz22 1 (.int .i64 n)).other nz22 2 (.bool x)).other nz22 3 (.slice oa1 L1 oc1))
              have r1z23 : Hid (RulesR TRl TCd W0.heap.size ((((wz22.setCell ⟨Bz22, 0, none⟩ (.int .i64 k)).setCell ⟨Bz22, 1, none⟩ (.int .i64 n)).setCell ⟨Bz22, 2, none⟩ (.bool x)).setCell ⟨Bz22, 3, none⟩ (.slice oa1 L1 oc1)) (.slice oa1 L1 oc1) rs) := ((((r1z22.out.setG (g := Bz22) (j := 0) (u := .int .i64 k) g5z22.out (by decide) (by decide)).setG (g := Bz22) (j := 1) (u := .int .i64 n) (g5z22.out.set 0 (.int .i64 k)) (by decide) (by decide)).setG (g := Bz22) (j := 2) (u := .bool x) ((g5z22.out.set 0 (.int .i64 k)).set 1 (.int .i64 n)) (by decide) (by decide)).setG (g := Bz22) (j := 3) (u := .slice oa1 L1 oc1) (((g5z22.out.set 0 (.int .i64 k)).set 1 (.int .i64 n)).set 2 (.bool x)) (by decide) (by decide))
              have r2z23 : Hid (RulesR TRl TCd W0.heap.size ((((wz22.setCell ⟨Bz22, 0, none⟩ (.int .i64 k)).setCell ⟨Bz22, 1, none⟩ (.int .i64 n)).setCell ⟨Bz22, 2, none⟩ (.bool x)).setCell ⟨Bz22, 3, none⟩ (.slice oa1 L1 oc1)) (.slice oa2 L2 oc2) ss) := ((((r2z22.out.setG (g := Bz22) (j := 0) (u := .int .i64 k) g5z22.out (by decide) (by decide)).setG (g := Bz22) (j := 1) (u := .int .i64 n) (g5z22.out.set 0 (.int .i64 k)) (by decide) (by decide)).setG (g := Bz22) (j := 2) (u := .bool x) ((g5z22.out.set 0 (.int .i64 k)).set 1 (.int .i64 n)) (by decide) (by decide)).setG (g := Bz22) (j := 3) (u := .slice oa1 L1 oc1) (((g5z22.out.set 0 (.int .i64 k)).set 1 (.int .i64 n)).set 2 (.bool x)) (by decide) (by decide))
              go_simp
              refine hK.out _ _ (SOK.out _ hz23.out) (fun hHeld => ?_)
              clear hK K'
              try simp only [Act.put, List.setIfInBounds_toArray, List.set_cons_zero, List.set_cons_succ]
              clear hHeld
              clear z0 z1 z2 z3 y0 y1 y2 y3 hz22 g5z22 g6z22 r1z22 r2z22
              generalize ((((wz22.setCell ⟨Bz22, 0, none⟩ (.int .i64 k)).setCell ⟨Bz22, 1, none⟩ (.int .i64 n)).setCell ⟨Bz22, 2, none⟩ (.bool x)).setCell ⟨Bz22, 3, none⟩ (.slice oa1 L1 oc1)) = wz23 at *
              refine wpAnyH_ready (rs := [7]) (by kernel_rfl) (by simp) ?_
              refine AllReadyH.cons (o := { dst := none, op := Op.store 26 (Operand.tmp 6) (Operand.tmp 18), type := 0, pos := "law.go:94", after := #[{ on := 5, ground := Ground.data }, { on := 3, ground := Ground.data }, { on := 6, ground := Ground.chain }, { on := 0, ground := Ground.phase }, { on := 1, ground := Ground.phase }, { on := 2, ground := Ground.phase }, { on := 3, ground := Ground.phase }, { on := 4, ground := Ground.phase }, { on := 5, ground := Ground.phase }, { on := 6, ground := Ground.phase }], guard := none }) rfl (fun K' hK => ?_) ?_
              ·
                have z0 := g6z23.out.frozen 0
                have z1 := g6z23.out.frozen 1
                have z2 := g6z23.out.frozen 2
                have z3 := g6z23.out.frozen 3
                have y0 : wz23.cell? ⟨Bz20, 0, none⟩ = some (.int .i64 0) := g6z23.out.cell 0
                have y1 : wz23.cell? ⟨Bz20, 1, none⟩ = some (.int .i64 0) := g6z23.out.cell 1
                have y2 : wz23.cell? ⟨Bz20, 2, none⟩ = some (.bool false) := g6z23.out.cell 2
                have y3 : wz23.cell? ⟨Bz20, 3, none⟩ = some (.slice none 0 0) := g6z23.out.cell 3
                have hz24 : Hid (Below W0.heap.size W0 ((((wz23.setCell ⟨Bz20, 0, none⟩ (.int .i64 k2)).setCell ⟨Bz20, 1, none⟩ (.int .i64 n2)).setCell ⟨Bz20, 2, none⟩ (.bool x2)).setCell ⟨Bz20, 3, none⟩ (.slice oa2 L2 oc2))) := ((((hz23.out.setCell (p := ⟨Bz20, 0, none⟩) lz20 _).setCell (p := ⟨Bz20, 1, none⟩) lz20 _).setCell (p := ⟨Bz20, 2, none⟩) lz20 _).setCell (p := ⟨Bz20, 3, none⟩) lz20 _)
                have g6z24 : Hid (Blk ((((wz23.setCell ⟨Bz20, 0, none⟩ (.int .i64 k2)).setCell ⟨Bz20, 1, none⟩ (.int .i64 n2)).setCell ⟨Bz20, 2, none⟩ (.bool x2)).setCell ⟨Bz20, 3, none⟩ (.slice oa2 L2 oc2)) Bz20 TPl #[.int .i64 k2, .int .i64 n2, .bool x2, .slice oa2 L2 oc2]) := ((((g6z23.out.set 0 (.int .i64 k2)).set 1 (.int .i64 n2)).set 2 (.bool x2)).set 3 (.slice oa2 L2 oc2))
                have g5z24 := Lib.hid ((((g5z23.out.other (Ne.symm nz22) 0 (.int .i64 k2)).other (Ne.symm nz22) 1 (.int .i64 n2)).other (Ne.symm nz22) 2 (.bool x2)).other (Ne.symm nz22) 3 (.slice oa2 L2 oc2))
                have r1z24 : Hid (RulesR TRl TCd W0.heap.size ((((wz23.setCell ⟨Bz20, 0, none⟩ (.int .i64 k2)).setCell ⟨Bz20, 1, none⟩ (.int .i64 n2)).setCell ⟨Bz20, 2, none⟩ (.bool x2)).setCell ⟨Bz20, 3, none⟩ (.slice oa2 L2 oc2)) (.slice oa1 L1 oc1) rs) := ((((r1z23.out.setG (g := Bz20) (j := 0) (u := .int .i64 k2) g6z23.out (by decide) (by decide)).setG (g := Bz20) (j := 1) (u := .int .i64 n2) (g6z23.out.set 0 (.int .i64 k2)) (by decide) (by decide)).setG (g := Bz20) (j := 2) (u := .bool x2) ((g6z23.out.set 0 (.int .i64 k2)).set 1 (.int .i64 n2)) (by decide) (by decide)).setG (g := Bz20) (j := 3) (u := .slice oa2 L2 oc2) (((g6z23.out.set 0 (.int .i64 k2)).set 1 (.int .i64 n2)).set 2 (.bool x2)) (by decide) (by decide))
                have r2z24 : Hid (RulesR TRl TCd W0.heap.size ((((wz23.setCell ⟨Bz20, 0, none⟩ (.int .i64 k2)).setCell ⟨Bz20, 1, none⟩ (.int .i64 n2)).setCell ⟨Bz20, 2, none⟩ (.bool x2)).setCell ⟨Bz20, 3, none⟩ (.slice oa2 L2 oc2)) (.slice oa2 L2 oc2) ss) := ((((r2z23.out.setG (g := Bz20) (j := 0) (u := .int .i64 k2) g6z23.out (by decide) (by decide)).setG (g := Bz20) (j := 1) (u := .int .i64 n2) (g6z23.out.set 0 (.int .i64 k2)) (by decide) (by decide)).setG (g := Bz20) (j := 2) (u := .bool x2) ((g6z23.out.set 0 (.int .i64 k2)).set 1 (.int .i64 n2)) (by decide) (by decide)).setG (g := Bz20) (j := 3) (u := .slice oa2 L2 oc2) (((g6z23.out.set 0 (.int .i64 k2)).set 1 (.int .i64 n2)).set 2 (.bool x2)) (by decide) (by decide))
                go_simp
                refine hK.out _ _ (SOK.out _ hz24.out) (fun hHeld => ?_)
                clear hK K'
                try simp only [Act.put, List.setIfInBounds_toArray, List.set_cons_zero, List.set_cons_succ]
                clear hHeld
                clear z0 z1 z2 z3 y0 y1 y2 y3 hz23 g5z23 g6z23 r1z23 r2z23
                generalize ((((wz23.setCell ⟨Bz20, 0, none⟩ (.int .i64 k2)).setCell ⟨Bz20, 1, none⟩ (.int .i64 n2)).setCell ⟨Bz20, 2, none⟩ (.bool x2)).setCell ⟨Bz20, 3, none⟩ (.slice oa2 L2 oc2)) = wz24 at *
                refine wpAnyH_done (by kernel_rfl) ?_ _
                refine NoPanic.normal ?_
                go_wp2_with fail
                go_meet
                exact ⟨_, _, _, _, _, _, rfl, rfl, hz24, g5z24, g6z24, r1z24, r2z24⟩
              exact AllReadyH.nil
            exact AllReadyH.nil
          exact AllReadyH.nil
        refine AllReadyH.cons (o := { dst := some 5, op := Op.alloc 26, type := 0, pos := "law.go:94", after := #[], guard := none }) rfl (fun K' hK => ?_) ?_
        ·
          have hz25 := Lib.hid (hz20.out.alloc hz20.out.size (.cells #[.int .i64 0, .int .i64 0, .bool false, .slice none 0 0] TPl))
          have g5z25 := Lib.hid (Blk.new wz20 TPl #[.int .i64 0, .int .i64 0, .bool false, .slice none 0 0])
          have lz25 : W0.heap.size ≤ wz20.heap.size := hz20.out.size
          have g6z25 := Lib.hid (g6z20.out.alloc (.cells #[.int .i64 0, .int .i64 0, .bool false, .slice none 0 0] TPl))
          have nz25 : Bz20 ≠ wz20.heap.size := Nat.ne_of_lt g6z20.out.lt
          have r1z25 := Lib.hid (r1z20.out.up (.cells #[.int .i64 0, .int .i64 0, .bool false, .slice none 0 0] TPl))
          go_simp
          refine hK.out _ _ (SOK.out _ hz25.out) (fun hHeld => ?_)
          clear hK K'
          try simp only [Act.put, List.setIfInBounds_toArray, List.set_cons_zero, List.set_cons_succ]
          clear hHeld
          clear hz20 g6z20 r1z20
          generalize wz20.alloc (.cells #[.int .i64 0, .int .i64 0, .bool false, .slice none 0 0] TPl) = wz25 at *
          generalize wz20.heap.size = Bz25 at *
          refine wpAnyH_ready (rs := [3]) (by kernel_rfl) (by simp) ?_
          refine AllReadyH.cons (o := { dst := some 18, op := Op.call { callee := Callee.value (Operand.func 14), args := #[Operand.tmp 17], argTypes := #[33] }, type := 26, pos := "law.go:94", after := #[{ on := 2, ground := Ground.data }, { on := 1, ground := Ground.chain }], guard := none }) rfl (fun K' hK => ?_) ?_
          ·
            go_simp
            refine (HOFb.out _ hz25.out).mono ?_
            rintro e wz26 ⟨oa2, oc2, rfl, hrr, hbz⟩
            have hz26 := belP hz25 hbz
            have g5z26 := blkHP g5z25 hbz
            have g6z26 := blkHP g6z25 hbz
            have r1z26 := Lib.hid (r1z25.out.below hbz)
            have r2z26 := Lib.hid hrr
            refine hK.out _ _ (SOK.out _ hz26.out) (fun hHeld => ?_)
            clear hK K'
            try simp only [Act.put, List.setIfInBounds_toArray, List.set_cons_zero, List.set_cons_succ]
            clear hHeld
            clear hbz hrr hz25 g5z25 g6z25 r1z25
            refine wpAnyH_ready (rs := [6]) (by kernel_rfl) (by simp) ?_
            refine AllReadyH.cons (o := { dst := none, op := Op.store 26 (Operand.tmp 5) (Operand.tmp 16), type := 0, pos := "law.go:94", after := #[{ on := 4, ground := Ground.data }, { on := 1, ground := Ground.data }, { on := 3, ground := Ground.chain }, { on := 0, ground := Ground.phase }, { on := 1, ground := Ground.phase }, { on := 2, ground := Ground.textOnly Departure.lateStores }, { on := 3, ground := Ground.textOnly Departure.lateStoresUnsure }, { on := 4, ground := Ground.phase }, { on := 5, ground := Ground.phase }], guard := none }) rfl (fun K' hK => ?_) ?_
            ·
              have z0 := g5z26.out.frozen 0
              have z1 := g5z26.out.frozen 1
              have z2 := g5z26.out.frozen 2
              have z3 := g5z26.out.frozen 3
              have y0 : wz26.cell? ⟨Bz25, 0, none⟩ = some (.int .i64 0) := g5z26.out.cell 0
              have y1 : wz26.cell? ⟨Bz25, 1, none⟩ = some (.int .i64 0) := g5z26.out.cell 1
              have y2 : wz26.cell? ⟨Bz25, 2, none⟩ = some (.bool false) := g5z26.out.cell 2
              have y3 : wz26.cell? ⟨Bz25, 3, none⟩ = some (.slice none 0 0) := g5z26.out.cell 3
              have hz27 : Hid (Below W0.heap.size W0 ((((wz26.setCell ⟨Bz25, 0, none⟩ (.int .i64 k)).setCell ⟨Bz25, 1, none⟩ (.int .i64 n)).setCell ⟨Bz25, 2, none⟩ (.bool x)).setCell ⟨Bz25, 3, none⟩ (.slice oa1 L1 oc1))) := ((((hz26.out.setCell (p := ⟨Bz25, 0, none⟩) lz25 _).setCell (p := ⟨Bz25, 1, none⟩) lz25 _).setCell (p := ⟨Bz25, 2, none⟩) lz25 _).setCell (p := ⟨Bz25, 3, none⟩) lz25 _)
              have g5z27 : Hid (Blk ((((wz26.setCell ⟨Bz25, 0, none⟩ (.int .i64 k)).setCell ⟨Bz25, 1, none⟩ (.int .i64 n)).setCell ⟨Bz25, 2, none⟩ (.bool x)).setCell ⟨Bz25, 3, none⟩ (.slice oa1 L1 oc1)) Bz25 TPl #[.int .i64 k, .int .i64 n, .bool x, .slice oa1 L1 oc1]) := ((((g5z26.out.set 0 (.int .i64 k)).set 1 (.int .i64 n)).set 2 (.bool x)).set 3 (.slice oa1 L1 oc1))
              have g6z27 := Lib.hid ((((g6z26.out.other nz25 0 (.int .i64 k)).other nz25 1 (.int .i64 n)).other nz25 2 (.bool x)).other nz25 3 (.slice oa1 L1 oc1))
              have r1z27 : Hid (RulesR TRl TCd W0.heap.size ((((wz26.setCell ⟨Bz25, 0, none⟩ (.int .i64 k)).setCell ⟨Bz25, 1, none⟩ (.int .i64 n)).setCell ⟨Bz25, 2, none⟩ (.bool x)).setCell ⟨Bz25, 3, none⟩ (.slice oa1 L1 oc1)) (.slice oa1 L1 oc1) rs) := ((((r1z26.out.setG (g := Bz25) (j := 0) (u := .int .i64 k) g5z26.out (by decide) (by decide)).setG (g := Bz25) (j := 1) (u := .int .i64 n) (g5z26.out.set 0 (.int .i64 k)) (by decide) (by decide)).setG (g := Bz25) (j := 2) (u := .bool x) ((g5z26.out.set 0 (.int .i64 k)).set 1 (.int .i64 n)) (by decide) (by decide)).setG (g := Bz25) (j := 3) (u := .slice oa1 L1 oc1) (((g5z26.out.set 0 (.int .i64 k)).set 1 (.int .i64 n)).set 2 (.bool x)) (by decide) (by decide))
              have r2z27 : Hid (RulesR TRl TCd W0.heap.size ((((wz26.setCell ⟨Bz25, 0, none⟩ (.int .i64 k)).setCell ⟨Bz25, 1, none⟩ (.int .i64 n)).setCell ⟨Bz25, 2, none⟩ (.bool x)).setCell ⟨Bz25, 3, none⟩ (.slice oa1 L1 oc1)) (.slice oa2 L2 oc2) ss) := ((((r2z26.out.setG (g := Bz25) (j := 0) (u := .int .i64 k) g5z26.out (by decide) (by decide)).setG (g := Bz25) (j := 1) (u := .int .i64 n) (g5z26.out.set 0 (.int .i64 k)) (by decide) (by decide)).setG (g := Bz25) (j := 2) (u := .bool x) ((g5z26.out.set 0 (.int .i64 k)).set 1 (.int .i64 n)) (by decide) (by decide)).setG (g := Bz25) (j := 3) (u := .slice oa1 L1 oc1) (((g5z26.out.set 0 (.int .i64 k)).set 1 (.int .i64 n)).set 2 (.bool x)) (by decide) (by decide))
              go_simp
              refine hK.out _ _ (SOK.out _ hz27.out) (fun hHeld => ?_)
              clear hK K'
              try simp only [Act.put, List.setIfInBounds_toArray, List.set_cons_zero, List.set_cons_succ]
              clear hHeld
              clear z0 z1 z2 z3 y0 y1 y2 y3 hz26 g5z26 g6z26 r1z26 r2z26
              generalize ((((wz26.setCell ⟨Bz25, 0, none⟩ (.int .i64 k)).setCell ⟨Bz25, 1, none⟩ (.int .i64 n)).setCell ⟨Bz25, 2, none⟩ (.bool x)).setCell ⟨Bz25, 3, none⟩ (.slice oa1 L1 oc1)) = wz27 at *
              refine wpAnyH_ready (rs := [7]) (by kernel_rfl) (by simp) ?_
              refine AllReadyH.cons (o := { dst := none, op := Op.store 26 (Operand.tmp 6) (Operand.tmp 18), type := 0, pos := "law.go:94", after := #[{ on := 5, ground := Ground.data }, { on := 3, ground := Ground.data }, { on := 6, ground := Ground.chain }, { on := 0, ground := Ground.phase }, { on := 1, ground := Ground.phase }, { on := 2, ground := Ground.phase }, { on := 3, ground := Ground.phase }, { on := 4, ground := Ground.phase }, { on := 5, ground := Ground.phase }, { on := 6, ground := Ground.phase }], guard := none }) rfl (fun K' hK => ?_) ?_
              ·
                have z0 := g6z27.out.frozen 0
                have z1 := g6z27.out.frozen 1
                have z2 := g6z27.out.frozen 2
                have z3 := g6z27.out.frozen 3
                have y0 : wz27.cell? ⟨Bz20, 0, none⟩ = some (.int .i64 0) := g6z27.out.cell 0
                have y1 : wz27.cell? ⟨Bz20, 1, none⟩ = some (.int .i64 0) := g6z27.out.cell 1
                have y2 : wz27.cell? ⟨Bz20, 2, none⟩ = some (.bool false) := g6z27.out.cell 2
                have y3 : wz27.cell? ⟨Bz20, 3, none⟩ = some (.slice none 0 0) := g6z27.out.cell 3
                have hz28 : Hid (Below W0.heap.size W0 ((((wz27.setCell ⟨Bz20, 0, none⟩ (.int .i64 k2)).setCell ⟨Bz20, 1, none⟩ (.int .i64 n2)).setCell ⟨Bz20, 2, none⟩ (.bool x2)).setCell ⟨Bz20, 3, none⟩ (.slice oa2 L2 oc2))) := ((((hz27.out.setCell (p := ⟨Bz20, 0, none⟩) lz20 _).setCell (p := ⟨Bz20, 1, none⟩) lz20 _).setCell (p := ⟨Bz20, 2, none⟩) lz20 _).setCell (p := ⟨Bz20, 3, none⟩) lz20 _)
                have g6z28 : Hid (Blk ((((wz27.setCell ⟨Bz20, 0, none⟩ (.int .i64 k2)).setCell ⟨Bz20, 1, none⟩ (.int .i64 n2)).setCell ⟨Bz20, 2, none⟩ (.bool x2)).setCell ⟨Bz20, 3, none⟩ (.slice oa2 L2 oc2)) Bz20 TPl #[.int .i64 k2, .int .i64 n2, .bool x2, .slice oa2 L2 oc2]) := ((((g6z27.out.set 0 (.int .i64 k2)).set 1 (.int .i64 n2)).set 2 (.bool x2)).set 3 (.slice oa2 L2 oc2))
                have g5z28 := Lib.hid ((((g5z27.out.other (Ne.symm nz25) 0 (.int .i64 k2)).other (Ne.symm nz25) 1 (.int .i64 n2)).other (Ne.symm nz25) 2 (.bool x2)).other (Ne.symm nz25) 3 (.slice oa2 L2 oc2))
                have r1z28 : Hid (RulesR TRl TCd W0.heap.size ((((wz27.setCell ⟨Bz20, 0, none⟩ (.int .i64 k2)).setCell ⟨Bz20, 1, none⟩ (.int .i64 n2)).setCell ⟨Bz20, 2, none⟩ (.bool x2)).setCell ⟨Bz20, 3, none⟩ (.slice oa2 L2 oc2)) (.slice oa1 L1 oc1) rs) := ((((r1z27.out.setG (g := Bz20) (j := 0) (u := .int .i64 k2) g6z27.out (by decide) (by decide)).setG (g := Bz20) (j := 1) (u := .int .i64 n2) (g6z27.out.set 0 (.int .i64 k2)) (by decide) (by decide)).setG (g := Bz20) (j := 2) (u := .bool x2) ((g6z27.out.set 0 (.int .i64 k2)).set 1 (.int .i64 n2)) (by decide) (by decide)).setG (g := Bz20) (j := 3) (u := .slice oa2 L2 oc2) (((g6z27.out.set 0 (.int .i64 k2)).set 1 (.int .i64 n2)).set 2 (.bool x2)) (by decide) (by decide))
                have r2z28 : Hid (RulesR TRl TCd W0.heap.size ((((wz27.setCell ⟨Bz20, 0, none⟩ (.int .i64 k2)).setCell ⟨Bz20, 1, none⟩ (.int .i64 n2)).setCell ⟨Bz20, 2, none⟩ (.bool x2)).setCell ⟨Bz20, 3, none⟩ (.slice oa2 L2 oc2)) (.slice oa2 L2 oc2) ss) := ((((r2z27.out.setG (g := Bz20) (j := 0) (u := .int .i64 k2) g6z27.out (by decide) (by decide)).setG (g := Bz20) (j := 1) (u := .int .i64 n2) (g6z27.out.set 0 (.int .i64 k2)) (by decide) (by decide)).setG (g := Bz20) (j := 2) (u := .bool x2) ((g6z27.out.set 0 (.int .i64 k2)).set 1 (.int .i64 n2)) (by decide) (by decide)).setG (g := Bz20) (j := 3) (u := .slice oa2 L2 oc2) (((g6z27.out.set 0 (.int .i64 k2)).set 1 (.int .i64 n2)).set 2 (.bool x2)) (by decide) (by decide))
                go_simp
                refine hK.out _ _ (SOK.out _ hz28.out) (fun hHeld => ?_)
                clear hK K'
                try simp only [Act.put, List.setIfInBounds_toArray, List.set_cons_zero, List.set_cons_succ]
                clear hHeld
                clear z0 z1 z2 z3 y0 y1 y2 y3 hz27 g5z27 g6z27 r1z27 r2z27
                generalize ((((wz27.setCell ⟨Bz20, 0, none⟩ (.int .i64 k2)).setCell ⟨Bz20, 1, none⟩ (.int .i64 n2)).setCell ⟨Bz20, 2, none⟩ (.bool x2)).setCell ⟨Bz20, 3, none⟩ (.slice oa2 L2 oc2)) = wz28 at *
                refine wpAnyH_done (by kernel_rfl) ?_ _
                refine NoPanic.normal ?_
                go_wp2_with fail
                go_meet
                exact ⟨_, _, _, _, _, _, rfl, rfl, hz28, g5z28, g6z28, r1z28, r2z28⟩
              exact AllReadyH.nil
            exact AllReadyH.nil
          exact AllReadyH.nil
        exact AllReadyH.nil
      exact AllReadyH.nil
    refine AllReadyH.cons (o := { dst := some 5, op := Op.alloc 26, type := 0, pos := "law.go:94", after := #[], guard := none }) rfl (fun K' hK => ?_) ?_
    ·
      have hz29 := Lib.hid (hz0.out.alloc hz0.out.size (.cells #[.int .i64 0, .int .i64 0, .bool false, .slice none 0 0] TPl))
      have g5z29 := Lib.hid (Blk.new wz0 TPl #[.int .i64 0, .int .i64 0, .bool false, .slice none 0 0])
      have lz29 : W0.heap.size ≤ wz0.heap.size := hz0.out.size
      go_simp
      refine hK.out _ _ (SOK.out _ hz29.out) (fun hHeld => ?_)
      clear hK K'
      try simp only [Act.put, List.setIfInBounds_toArray, List.set_cons_zero, List.set_cons_succ]
      clear hHeld
      clear hz0
      generalize wz0.alloc (.cells #[.int .i64 0, .int .i64 0, .bool false, .slice none 0 0] TPl) = wz29 at *
      generalize wz0.heap.size = Bz29 at *
      refine wpAnyH_ready (rs := [1, 5]) (by kernel_rfl) (by simp) ?_
      refine AllReadyH.cons (o := { dst := some 16, op := Op.call { callee := Callee.value (Operand.func 14), args := #[Operand.tmp 15], argTypes := #[33] }, type := 26, pos := "law.go:94", after := #[{ on := 0, ground := Ground.data }], guard := none }) rfl (fun K' hK => ?_) ?_
      ·
        go_simp
        refine (HOFa.out _ hz29.out).mono ?_
        rintro e wz30 ⟨oa1, oc1, rfl, hrr, hbz⟩
        have hz30 := belP hz29 hbz
        have g5z30 := blkHP g5z29 hbz
        have r1z30 := Lib.hid hrr
        refine hK.out _ _ (SOK.out _ hz30.out) (fun hHeld => ?_)
        clear hK K'
        try simp only [Act.put, List.setIfInBounds_toArray, List.set_cons_zero, List.set_cons_succ]
        clear hHeld
        clear hbz hrr hz29 g5z29
        refine wpAnyH_ready (rs := [3, 5]) (by kernel_rfl) (by simp) ?_
        refine AllReadyH.cons (o := { dst := some 18, op := Op.call { callee := Callee.value (Operand.func 14), args := #[Operand.tmp 17], argTypes := #[33] }, type := 26, pos := "law.go:94", after := #[{ on := 2, ground := Ground.data }, { on := 1, ground := Ground.chain }], guard := none }) rfl (fun K' hK => ?_) ?_
        ·
          go_simp
          refine (HOFb.out _ hz30.out).mono ?_
          rintro e wz31 ⟨oa2, oc2, rfl, hrr, hbz⟩
          have hz31 := belP hz30 hbz
          have g5z31 := blkHP g5z30 hbz
          have r1z31 := Lib.hid (r1z30.out.below hbz)
          have r2z31 := Lib.hid hrr
          refine hK.out _ _ (SOK.out _ hz31.out) (fun hHeld => ?_)
          clear hK K'
          try simp only [Act.put, List.setIfInBounds_toArray, List.set_cons_zero, List.set_cons_succ]
          clear hHeld
          clear hbz hrr hz30 g5z30 r1z30
          refine wpAnyH_ready (rs := [5]) (by kernel_rfl) (by simp) ?_
          refine AllReadyH.cons (o := { dst := some 6, op := Op.alloc 26, type := 0, pos := "law.go:94", after := #[], guard := none }) rfl (fun K' hK => ?_) ?_
          ·
            have hz32 := Lib.hid (hz31.out.alloc hz31.out.size (.cells #[.int .i64 0, .int .i64 0, .bool false, .slice none 0 0] TPl))
            have g6z32 := Lib.hid (Blk.new wz31 TPl #[.int .i64 0, .int .i64 0, .bool false, .slice none 0 0])
            have lz32 : W0.heap.size ≤ wz31.heap.size := hz31.out.size
            have g5z32 := Lib.hid (g5z31.out.alloc (.cells #[.int .i64 0, .int .i64 0, .bool false, .slice none 0 0] TPl))
            have nz32 : Bz29 ≠ wz31.heap.size := Nat.ne_of_lt g5z31.out.lt
            have r1z32 := Lib.hid (r1z31.out.up (.cells #[.int .i64 0, .int .i64 0, .bool false, .slice none 0 0] TPl))
            have r2z32 := Lib.hid (r2z31.out.up (.cells #[.int .i64 0, .int .i64 0, .bool false, .slice none 0 0] TPl))
            go_simp
            refine hK.out _ _ (SOK.out _ hz32.out) (fun hHeld => ?_)
            clear hK K'
            try simp only [Act.put, List.setIfInBounds_toArray, List.set_cons_zero, List.set_cons_succ]
            clear hHeld
            clear hz31 g5z31 r1z31 r2z31
            generalize wz31.alloc (.cells #[.int .i64 0, .int .i64 0, .bool false, .slice none 0 0] TPl) = wz32 at *
            generalize wz31.heap.size = Bz32 at *
            refine wpAnyH_ready (rs := [6]) (by kernel_rfl) (by simp) ?_
            refine AllReadyH.cons (o := { dst := none, op := Op.store 26 (Operand.tmp 5) (Operand.tmp 16), type := 0, pos := "law.go:94", after := #[{ on := 4, ground := Ground.data }, { on := 1, ground := Ground.data }, { on := 3, ground := Ground.chain }, { on := 0, ground := Ground.phase }, { on := 1, ground := Ground.phase }, { on := 2, ground := Ground.textOnly Departure.lateStores }, { on := 3, ground := Ground.textOnly Departure.lateStoresUnsure }, { on := 4, ground := Ground.phase }, { on := 5, ground := Ground.phase }], guard := none }) rfl (fun K' hK => ?_) ?_
            ·
              have z0 := g5z32.out.frozen 0
              have z1 := g5z32.out.frozen 1
              have z2 := g5z32.out.frozen 2
              have z3 := g5z32.out.frozen 3
              have y0 : wz32.cell? ⟨Bz29, 0, none⟩ = some (.int .i64 0) := g5z32.out.cell 0
              have y1 : wz32.cell? ⟨Bz29, 1, none⟩ = some (.int .i64 0) := g5z32.out.cell 1
              have y2 : wz32.cell? ⟨Bz29, 2, none⟩ = some (.bool false) := g5z32.out.cell 2
              have y3 : wz32.cell? ⟨Bz29, 3, none⟩ = some (.slice none 0 0) := g5z32.out.cell 3
              have hz33 : Hid (Below W0.heap.size W0 ((((wz32.setCell ⟨Bz29, 0, none⟩ (.int .i64 k)).setCell ⟨Bz29, 1, none⟩ (.int .i64 n)).setCell ⟨Bz29, 2, none⟩ (.bool x)).setCell ⟨Bz29, 3, none⟩ (.slice oa1 L1 oc1))) := ((((hz32.out.setCell (p := ⟨Bz29, 0, none⟩) lz29 _).setCell (p := ⟨Bz29, 1, none⟩) lz29 _).setCell (p := ⟨Bz29, 2, none⟩) lz29 _).setCell (p := ⟨Bz29, 3, none⟩) lz29 _)
              have g5z33 : Hid (Blk ((((wz32.setCell ⟨Bz29, 0, none⟩ (.int .i64 k)).setCell ⟨Bz29, 1, none⟩ (.int .i64 n)).setCell ⟨Bz29, 2, none⟩ (.bool x)).setCell ⟨Bz29, 3, none⟩ (.slice oa1 L1 oc1)) Bz29 TPl #[.int .i64 k, .int .i64 n, .bool x, .slice oa1 L1 oc1]) := ((((g5z32.out.set 0 (.int .i64 k)).set 1 (.int .i64 n)).set 2 (.bool x)).set 3 (.slice oa1 L1 oc1))
              have g6z33 := Lib.hid ((((g6z32.out.other (Ne.symm nz32) 0 (.int .i64 k)).other (Ne.symm nz32) 1 (.int .i64 n)).other (Ne.symm nz32) 2 (.bool x)).other (Ne.symm nz32) 3 (.slice oa1 L1 oc1))
              have r1z33 : Hid (RulesR TRl TCd W0.heap.size ((((wz32.setCell ⟨Bz29, 0, none⟩ (.int .i64 k)).setCell ⟨Bz29, 1, none⟩ (.int .i64 n)).setCell ⟨Bz29, 2, none⟩ (.bool x)).setCell ⟨Bz29, 3, none⟩ (.slice oa1 L1 oc1)) (.slice oa1 L1 oc1) rs) := ((((r1z32.out.setG (g := Bz29) (j := 0) (u := .int .i64 k) g5z32.out (by decide) (by decide)).setG (g := Bz29) (j := 1) (u := .int .i64 n) (g5z32.out.set 0 (.int .i64 k)) (by decide) (by decide)).setG (g := Bz29) (j := 2) (u := .bool x) ((g5z32.out.set 0 (.int .i64 k)).set 1 (.int .i64 n)) (by decide) (by decide)).setG (g := Bz29) (j := 3) (u := .slice oa1 L1 oc1) (((g5z32.out.set 0 (.int .i64 k)).set 1 (.int .i64 n)).set 2 (.bool x)) (by decide) (by decide))
              have r2z33 : Hid (RulesR TRl TCd W0.heap.size ((((wz32.setCell ⟨Bz29, 0, none⟩ (.int .i64 k)).setCell ⟨Bz29, 1, none⟩ (.int .i64 n)).setCell ⟨Bz29, 2, none⟩ (.bool x)).setCell ⟨Bz29, 3, none⟩ (.slice oa1 L1 oc1)) (.slice oa2 L2 oc2) ss) := ((((r2z32.out.setG (g := Bz29) (j := 0) (u := .int .i64 k) g5z32.out (by decide) (by decide)).setG (g := Bz29) (j := 1) (u := .int .i64 n) (g5z32.out.set 0 (.int .i64 k)) (by decide) (by decide)).setG (g := Bz29) (j := 2) (u := .bool x) ((g5z32.out.set 0 (.int .i64 k)).set 1 (.int .i64 n)) (by decide) (by decide)).setG (g := Bz29) (j := 3) (u := .slice oa1 L1 oc1) (((g5z32.out.set 0 (.int .i64 k)).set 1 (.int .i64 n)).set 2 (.bool x)) (by decide) (by decide))
              go_simp
              refine hK.out _ _ (SOK.out _ hz33.out) (fun hHeld => ?_)
              clear hK K'
              try simp only [Act.put, List.setIfInBounds_toArray, List.set_cons_zero, List.set_cons_succ]
              clear hHeld
              clear z0 z1 z2 z3 y0 y1 y2 y3 hz32 g5z32 g6z32 r1z32 r2z32
              generalize ((((wz32.setCell ⟨Bz29, 0, none⟩ (.int .i64 k)).setCell ⟨Bz29, 1, none⟩ (.int .i64 n)).setCell ⟨Bz29, 2, none⟩ (.bool x)).setCell ⟨Bz29, 3, none⟩ (.slice oa1 L1 oc1)) = wz33 at *
              refine wpAnyH_ready (rs := [7]) (by kernel_rfl) (by simp) ?_
              refine AllReadyH.cons (o := { dst := none, op := Op.store 26 (Operand.tmp 6) (Operand.tmp 18), type := 0, pos := "law.go:94", after := #[{ on := 5, ground := Ground.data }, { on := 3, ground := Ground.data }, { on := 6, ground := Ground.chain }, { on := 0, ground := Ground.phase }, { on := 1, ground := Ground.phase }, { on := 2, ground := Ground.phase }, { on := 3, ground := Ground.phase }, { on := 4, ground := Ground.phase }, { on := 5, ground := Ground.phase }, { on := 6, ground := Ground.phase }], guard := none }) rfl (fun K' hK => ?_) ?_
              ·
                have z0 := g6z33.out.frozen 0
                have z1 := g6z33.out.frozen 1
                have z2 := g6z33.out.frozen 2
                have z3 := g6z33.out.frozen 3
                have y0 : wz33.cell? ⟨Bz32, 0, none⟩ = some (.int .i64 0) := g6z33.out.cell 0
                have y1 : wz33.cell? ⟨Bz32, 1, none⟩ = some (.int .i64 0) := g6z33.out.cell 1
                have y2 : wz33.cell? ⟨Bz32, 2, none⟩ = some (.bool false) := g6z33.out.cell 2
                have y3 : wz33.cell? ⟨Bz32, 3, none⟩ = some (.slice none 0 0) := g6z33.out.cell 3
                have hz34 : Hid (Below W0.heap.size W0 ((((wz33.setCell ⟨Bz32, 0, none⟩ (.int .i64 k2)).setCell ⟨Bz32, 1, none⟩ (.int .i64 n2)).setCell ⟨Bz32, 2, none⟩ (.bool x2)).setCell ⟨Bz32, 3, none⟩ (.slice oa2 L2 oc2))) := ((((hz33.out.setCell (p := ⟨Bz32, 0, none⟩) lz32 _).setCell (p := ⟨Bz32, 1, none⟩) lz32 _).setCell (p := ⟨Bz32, 2, none⟩) lz32 _).setCell (p := ⟨Bz32, 3, none⟩) lz32 _)
                have g6z34 : Hid (Blk ((((wz33.setCell ⟨Bz32, 0, none⟩ (.int .i64 k2)).setCell ⟨Bz32, 1, none⟩ (.int .i64 n2)).setCell ⟨Bz32, 2, none⟩ (.bool x2)).setCell ⟨Bz32, 3, none⟩ (.slice oa2 L2 oc2)) Bz32 TPl #[.int .i64 k2, .int .i64 n2, .bool x2, .slice oa2 L2 oc2]) := ((((g6z33.out.set 0 (.int .i64 k2)).set 1 (.int .i64 n2)).set 2 (.bool x2)).set 3 (.slice oa2 L2 oc2))
                have g5z34 := Lib.hid ((((g5z33.out.other nz32 0 (.int .i64 k2)).other nz32 1 (.int .i64 n2)).other nz32 2 (.bool x2)).other nz32 3 (.slice oa2 L2 oc2))
                have r1z34 : Hid (RulesR TRl TCd W0.heap.size ((((wz33.setCell ⟨Bz32, 0, none⟩ (.int .i64 k2)).setCell ⟨Bz32, 1, none⟩ (.int .i64 n2)).setCell ⟨Bz32, 2, none⟩ (.bool x2)).setCell ⟨Bz32, 3, none⟩ (.slice oa2 L2 oc2)) (.slice oa1 L1 oc1) rs) := ((((r1z33.out.setG (g := Bz32) (j := 0) (u := .int .i64 k2) g6z33.out (by decide) (by decide)).setG (g := Bz32) (j := 1) (u := .int .i64 n2) (g6z33.out.set 0 (.int .i64 k2)) (by decide) (by decide)).setG (g := Bz32) (j := 2) (u := .bool x2) ((g6z33.out.set 0 (.int .i64 k2)).set 1 (.int .i64 n2)) (by decide) (by decide)).setG (g := Bz32) (j := 3) (u := .slice oa2 L2 oc2) (((g6z33.out.set 0 (.int .i64 k2)).set 1 (.int .i64 n2)).set 2 (.bool x2)) (by decide) (by decide))
                have r2z34 : Hid (RulesR TRl TCd W0.heap.size ((((wz33.setCell ⟨Bz32, 0, none⟩ (.int .i64 k2)).setCell ⟨Bz32, 1, none⟩ (.int .i64 n2)).setCell ⟨Bz32, 2, none⟩ (.bool x2)).setCell ⟨Bz32, 3, none⟩ (.slice oa2 L2 oc2)) (.slice oa2 L2 oc2) ss) := ((((r2z33.out.setG (g := Bz32) (j := 0) (u := .int .i64 k2) g6z33.out (by decide) (by decide)).setG (g := Bz32) (j := 1) (u := .int .i64 n2) (g6z33.out.set 0 (.int .i64 k2)) (by decide) (by decide)).setG (g := Bz32) (j := 2) (u := .bool x2) ((g6z33.out.set 0 (.int .i64 k2)).set 1 (.int .i64 n2)) (by decide) (by decide)).setG (g := Bz32) (j := 3) (u := .slice oa2 L2 oc2) (((g6z33.out.set 0 (.int .i64 k2)).set 1 (.int .i64 n2)).set 2 (.bool x2)) (by decide) (by decide))
                go_simp
                refine hK.out _ _ (SOK.out _ hz34.out) (fun hHeld => ?_)
                clear hK K'
                try simp only [Act.put, List.setIfInBounds_toArray, List.set_cons_zero, List.set_cons_succ]
                clear hHeld
                clear z0 z1 z2 z3 y0 y1 y2 y3 hz33 g5z33 g6z33 r1z33 r2z33
                generalize ((((wz33.setCell ⟨Bz32, 0, none⟩ (.int .i64 k2)).setCell ⟨Bz32, 1, none⟩ (.int .i64 n2)).setCell ⟨Bz32, 2, none⟩ (.bool x2)).setCell ⟨Bz32, 3, none⟩ (.slice oa2 L2 oc2)) = wz34 at *
                refine wpAnyH_done (by kernel_rfl) ?_ _
                refine NoPanic.normal ?_
                go_wp2_with fail
                go_meet
                exact ⟨_, _, _, _, _, _, rfl, rfl, hz34, g5z34, g6z34, r1z34, r2z34⟩
              exact AllReadyH.nil
            exact AllReadyH.nil
          exact AllReadyH.nil
        refine AllReadyH.cons (o := { dst := some 6, op := Op.alloc 26, type := 0, pos := "law.go:94", after := #[], guard := none }) rfl (fun K' hK => ?_) ?_
        ·
          have hz35 := Lib.hid (hz30.out.alloc hz30.out.size (.cells #[.int .i64 0, .int .i64 0, .bool false, .slice none 0 0] TPl))
          have g6z35 := Lib.hid (Blk.new wz30 TPl #[.int .i64 0, .int .i64 0, .bool false, .slice none 0 0])
          have lz35 : W0.heap.size ≤ wz30.heap.size := hz30.out.size
          have g5z35 := Lib.hid (g5z30.out.alloc (.cells #[.int .i64 0, .int .i64 0, .bool false, .slice none 0 0] TPl))
          have nz35 : Bz29 ≠ wz30.heap.size := Nat.ne_of_lt g5z30.out.lt
          have r1z35 := Lib.hid (r1z30.out.up (.cells #[.int .i64 0, .int .i64 0, .bool false, .slice none 0 0] TPl))
          go_simp
          refine hK.out _ _ (SOK.out _ hz35.out) (fun hHeld => ?_)
          clear hK K'
          try simp only [Act.put, List.setIfInBounds_toArray, List.set_cons_zero, List.set_cons_succ]
          clear hHeld
          clear hz30 g5z30 r1z30
          generalize wz30.alloc (.cells #[.int .i64 0, .int .i64 0, .bool false, .slice none 0 0] TPl) = wz35 at *
          generalize wz30.heap.size = Bz35 at *
          refine wpAnyH_ready (rs := [3]) (by kernel_rfl) (by simp) ?_
          refine AllReadyH.cons (o := { dst := some 18, op := Op.call { callee := Callee.value (Operand.func 14), args := #[Operand.tmp 17], argTypes := #[33] }, type := 26, pos := "law.go:94", after := #[{ on := 2, ground := Ground.data }, { on := 1, ground := Ground.chain }], guard := none }) rfl (fun K' hK => ?_) ?_
          ·
            go_simp
            refine (HOFb.out _ hz35.out).mono ?_
            rintro e wz36 ⟨oa2, oc2, rfl, hrr, hbz⟩
            have hz36 := belP hz35 hbz
            have g5z36 := blkHP g5z35 hbz
            have g6z36 := blkHP g6z35 hbz
            have r1z36 := Lib.hid (r1z35.out.below hbz)
            have r2z36 := Lib.hid hrr
            refine hK.out _ _ (SOK.out _ hz36.out) (fun hHeld => ?_)
            clear hK K'
            try simp only [Act.put, List.setIfInBounds_toArray, List.set_cons_zero, List.set_cons_succ]
            clear hHeld
            clear hbz hrr hz35 g5z35 g6z35 r1z35
            refine wpAnyH_ready (rs := [6]) (by kernel_rfl) (by simp) ?_
            refine AllReadyH.cons (o := { dst := none, op := Op.store 26 (Operand.tmp 5) (Operand.tmp 16), type := 0, pos := "law.go:94", after := #[{ on := 4, ground := Ground.data }, { on := 1, ground := Ground.data }, { on := 3, ground := Ground.chain }, { on := 0, ground := Ground.phase }, { on := 1, ground := Ground.phase }, { on := 2, ground := Ground.textOnly Departure.lateStores }, { on := 3, ground := Ground.textOnly Departure.lateStoresUnsure }, { on := 4, ground := Ground.phase }, { on := 5, ground := Ground.phase }], guard := none }) rfl (fun K' hK => ?_) ?_
            ·
              have z0 := g5z36.out.frozen 0
              have z1 := g5z36.out.frozen 1
              have z2 := g5z36.out.frozen 2
              have z3 := g5z36.out.frozen 3
              have y0 : wz36.cell? ⟨Bz29, 0, none⟩ = some (.int .i64 0) := g5z36.out.cell 0
              have y1 : wz36.cell? ⟨Bz29, 1, none⟩ = some (.int .i64 0) := g5z36.out.cell 1
              have y2 : wz36.cell? ⟨Bz29, 2, none⟩ = some (.bool false) := g5z36.out.cell 2
              have y3 : wz36.cell? ⟨Bz29, 3, none⟩ = some (.slice none 0 0) := g5z36.out.cell 3
              have hz37 : Hid (Below W0.heap.size W0 ((((wz36.setCell ⟨Bz29, 0, none⟩ (.int .i64 k)).setCell ⟨Bz29, 1, none⟩ (.int .i64 n)).setCell ⟨Bz29, 2, none⟩ (.bool x)).setCell ⟨Bz29, 3, none⟩ (.slice oa1 L1 oc1))) := ((((hz36.out.setCell (p := ⟨Bz29, 0, none⟩) lz29 _).setCell (p := ⟨Bz29, 1, none⟩) lz29 _).setCell (p := ⟨Bz29, 2, none⟩) lz29 _).setCell (p := ⟨Bz29, 3, none⟩) lz29 _)
              have g5z37 : Hid (Blk ((((wz36.setCell ⟨Bz29, 0, none⟩ (.int .i64 k)).setCell ⟨Bz29, 1, none⟩ (.int .i64 n)).setCell ⟨Bz29, 2, none⟩ (.bool x)).setCell ⟨Bz29, 3, none⟩ (.slice oa1 L1 oc1)) Bz29 TPl #[.int .i64 k, .int .i64 n, .bool x, .slice oa1 L1 oc1]) := ((((g5z36.out.set 0 (.int .i64 k)).set 1 (.int .i64 n)).set 2 (.bool x)).set 3 (.slice oa1 L1 oc1))
              have g6z37 := Lib.hid ((((g6z36.out.other (Ne.symm nz35) 0 (.int .i64 k)).other (Ne.symm nz35) 1 (.int .i64 n)).other (Ne.symm nz35) 2 (.bool x)).other (Ne.symm nz35) 3 (.slice oa1 L1 oc1))
              have r1z37 : Hid (RulesR TRl TCd W0.heap.size ((((wz36.setCell ⟨Bz29, 0, none⟩ (.int .i64 k)).setCell ⟨Bz29, 1, none⟩ (.int .i64 n)).setCell ⟨Bz29, 2, none⟩ (.bool x)).setCell ⟨Bz29, 3, none⟩ (.slice oa1 L1 oc1)) (.slice oa1 L1 oc1) rs) := ((((r1z36.out.setG (g := Bz29) (j := 0) (u := .int .i64 k) g5z36.out (by decide) (by decide)).setG (g := Bz29) (j := 1) (u := .int .i64 n) (g5z36.out.set 0 (.int .i64 k)) (by decide) (by decide)).setG (g := Bz29) (j := 2) (u := .bool x) ((g5z36.out.set 0 (.int .i64 k)).set 1 (.int .i64 n)) (by decide) (by decide)).setG (g := Bz29) (j := 3) (u := .slice oa1 L1 oc1) (((g5z36.out.set 0 (.int .i64 k)).set 1 (.int .i64 n)).set 2 (.bool x)) (by decide) (by decide))
              have r2z37 : Hid (RulesR TRl TCd W0.heap.size ((((wz36.setCell ⟨Bz29, 0, none⟩ (.int .i64 k)).setCell ⟨Bz29, 1, none⟩ (.int .i64 n)).setCell ⟨Bz29, 2, none⟩ (.bool x)).setCell ⟨Bz29, 3, none⟩ (.slice oa1 L1 oc1)) (.slice oa2 L2 oc2) ss) := ((((r2z36.out.setG (g := Bz29) (j := 0) (u := .int .i64 k) g5z36.out (by decide) (by decide)).setG (g := Bz29) (j := 1) (u := .int .i64 n) (g5z36.out.set 0 (.int .i64 k)) (by decide) (by decide)).setG (g := Bz29) (j := 2) (u := .bool x) ((g5z36.out.set 0 (.int .i64 k)).set 1 (.int .i64 n)) (by decide) (by decide)).setG (g := Bz29) (j := 3) (u := .slice oa1 L1 oc1) (((g5z36.out.set 0 (.int .i64 k)).set 1 (.int .i64 n)).set 2 (.bool x)) (by decide) (by decide))
              go_simp
              refine hK.out _ _ (SOK.out _ hz37.out) (fun hHeld => ?_)
              clear hK K'
              try simp only [Act.put, List.setIfInBounds_toArray, List.set_cons_zero, List.set_cons_succ]
              clear hHeld
              clear z0 z1 z2 z3 y0 y1 y2 y3 hz36 g5z36 g6z36 r1z36 r2z36
              generalize ((((wz36.setCell ⟨Bz29, 0, none⟩ (.int .i64 k)).setCell ⟨Bz29, 1, none⟩ (.int .i64 n)).setCell ⟨Bz29, 2, none⟩ (.bool x)).setCell ⟨Bz29, 3, none⟩ (.slice oa1 L1 oc1)) = wz37 at *
              refine wpAnyH_ready (rs := [7]) (by kernel_rfl) (by simp) ?_
              refine AllReadyH.cons (o := { dst := none, op := Op.store 26 (Operand.tmp 6) (Operand.tmp 18), type := 0, pos := "law.go:94", after := #[{ on := 5, ground := Ground.data }, { on := 3, ground := Ground.data }, { on := 6, ground := Ground.chain }, { on := 0, ground := Ground.phase }, { on := 1, ground := Ground.phase }, { on := 2, ground := Ground.phase }, { on := 3, ground := Ground.phase }, { on := 4, ground := Ground.phase }, { on := 5, ground := Ground.phase }, { on := 6, ground := Ground.phase }], guard := none }) rfl (fun K' hK => ?_) ?_
              ·
                have z0 := g6z37.out.frozen 0
                have z1 := g6z37.out.frozen 1
                have z2 := g6z37.out.frozen 2
                have z3 := g6z37.out.frozen 3
                have y0 : wz37.cell? ⟨Bz35, 0, none⟩ = some (.int .i64 0) := g6z37.out.cell 0
                have y1 : wz37.cell? ⟨Bz35, 1, none⟩ = some (.int .i64 0) := g6z37.out.cell 1
                have y2 : wz37.cell? ⟨Bz35, 2, none⟩ = some (.bool false) := g6z37.out.cell 2
                have y3 : wz37.cell? ⟨Bz35, 3, none⟩ = some (.slice none 0 0) := g6z37.out.cell 3
                have hz38 : Hid (Below W0.heap.size W0 ((((wz37.setCell ⟨Bz35, 0, none⟩ (.int .i64 k2)).setCell ⟨Bz35, 1, none⟩ (.int .i64 n2)).setCell ⟨Bz35, 2, none⟩ (.bool x2)).setCell ⟨Bz35, 3, none⟩ (.slice oa2 L2 oc2))) := ((((hz37.out.setCell (p := ⟨Bz35, 0, none⟩) lz35 _).setCell (p := ⟨Bz35, 1, none⟩) lz35 _).setCell (p := ⟨Bz35, 2, none⟩) lz35 _).setCell (p := ⟨Bz35, 3, none⟩) lz35 _)
                have g6z38 : Hid (Blk ((((wz37.setCell ⟨Bz35, 0, none⟩ (.int .i64 k2)).setCell ⟨Bz35, 1, none⟩ (.int .i64 n2)).setCell ⟨Bz35, 2, none⟩ (.bool x2)).setCell ⟨Bz35, 3, none⟩ (.slice oa2 L2 oc2)) Bz35 TPl #[.int .i64 k2, .int .i64 n2, .bool x2, .slice oa2 L2 oc2]) := ((((g6z37.out.set 0 (.int .i64 k2)).set 1 (.int .i64 n2)).set 2 (.bool x2)).set 3 (.slice oa2 L2 oc2))
                have g5z38 := Lib.hid ((((g5z37.out.other nz35 0 (.int .i64 k2)).other nz35 1 (.int .i64 n2)).other nz35 2 (.bool x2)).other nz35 3 (.slice oa2 L2 oc2))
                have r1z38 : Hid (RulesR TRl TCd W0.heap.size ((((wz37.setCell ⟨Bz35, 0, none⟩ (.int .i64 k2)).setCell ⟨Bz35, 1, none⟩ (.int .i64 n2)).setCell ⟨Bz35, 2, none⟩ (.bool x2)).setCell ⟨Bz35, 3, none⟩ (.slice oa2 L2 oc2)) (.slice oa1 L1 oc1) rs) := ((((r1z37.out.setG (g := Bz35) (j := 0) (u := .int .i64 k2) g6z37.out (by decide) (by decide)).setG (g := Bz35) (j := 1) (u := .int .i64 n2) (g6z37.out.set 0 (.int .i64 k2)) (by decide) (by decide)).setG (g := Bz35) (j := 2) (u := .bool x2) ((g6z37.out.set 0 (.int .i64 k2)).set 1 (.int .i64 n2)) (by decide) (by decide)).setG (g := Bz35) (j := 3) (u := .slice oa2 L2 oc2) (((g6z37.out.set 0 (.int .i64 k2)).set 1 (.int .i64 n2)).set 2 (.bool x2)) (by decide) (by decide))
                have r2z38 : Hid (RulesR TRl TCd W0.heap.size ((((wz37.setCell ⟨Bz35, 0, none⟩ (.int .i64 k2)).setCell ⟨Bz35, 1, none⟩ (.int .i64 n2)).setCell ⟨Bz35, 2, none⟩ (.bool x2)).setCell ⟨Bz35, 3, none⟩ (.slice oa2 L2 oc2)) (.slice oa2 L2 oc2) ss) := ((((r2z37.out.setG (g := Bz35) (j := 0) (u := .int .i64 k2) g6z37.out (by decide) (by decide)).setG (g := Bz35) (j := 1) (u := .int .i64 n2) (g6z37.out.set 0 (.int .i64 k2)) (by decide) (by decide)).setG (g := Bz35) (j := 2) (u := .bool x2) ((g6z37.out.set 0 (.int .i64 k2)).set 1 (.int .i64 n2)) (by decide) (by decide)).setG (g := Bz35) (j := 3) (u := .slice oa2 L2 oc2) (((g6z37.out.set 0 (.int .i64 k2)).set 1 (.int .i64 n2)).set 2 (.bool x2)) (by decide) (by decide))
                go_simp
                refine hK.out _ _ (SOK.out _ hz38.out) (fun hHeld => ?_)
                clear hK K'
                try simp only [Act.put, List.setIfInBounds_toArray, List.set_cons_zero, List.set_cons_succ]
                clear hHeld
                clear z0 z1 z2 z3 y0 y1 y2 y3 hz37 g5z37 g6z37 r1z37 r2z37
                generalize ((((wz37.setCell ⟨Bz35, 0, none⟩ (.int .i64 k2)).setCell ⟨Bz35, 1, none⟩ (.int .i64 n2)).setCell ⟨Bz35, 2, none⟩ (.bool x2)).setCell ⟨Bz35, 3, none⟩ (.slice oa2 L2 oc2)) = wz38 at *
                refine wpAnyH_done (by kernel_rfl) ?_ _
                refine NoPanic.normal ?_
                go_wp2_with fail
                go_meet
                exact ⟨_, _, _, _, _, _, rfl, rfl, hz38, g5z38, g6z38, r1z38, r2z38⟩
              exact AllReadyH.nil
            exact AllReadyH.nil
          exact AllReadyH.nil
        exact AllReadyH.nil
      refine AllReadyH.cons (o := { dst := some 6, op := Op.alloc 26, type := 0, pos := "law.go:94", after := #[], guard := none }) rfl (fun K' hK => ?_) ?_
      ·
        have hz39 := Lib.hid (hz29.out.alloc hz29.out.size (.cells #[.int .i64 0, .int .i64 0, .bool false, .slice none 0 0] TPl))
        have g6z39 := Lib.hid (Blk.new wz29 TPl #[.int .i64 0, .int .i64 0, .bool false, .slice none 0 0])
        have lz39 : W0.heap.size ≤ wz29.heap.size := hz29.out.size
        have g5z39 := Lib.hid (g5z29.out.alloc (.cells #[.int .i64 0, .int .i64 0, .bool false, .slice none 0 0] TPl))
        have nz39 : Bz29 ≠ wz29.heap.size := Nat.ne_of_lt g5z29.out.lt
        go_simp
        refine hK.out _ _ (SOK.out _ hz39.out) (fun hHeld => ?_)
        clear hK K'
        try simp only [Act.put, List.setIfInBounds_toArray, List.set_cons_zero, List.set_cons_succ]
        clear hHeld
        clear hz29 g5z29
        generalize wz29.alloc (.cells #[.int .i64 0, .int .i64 0, .bool false, .slice none 0 0] TPl) = wz39 at *
        generalize wz29.heap.size = Bz39 at *
        refine wpAnyH_ready (rs := [1]) (by kernel_rfl) (by simp) ?_
        refine AllReadyH.cons (o := { dst := some 16, op := Op.call { callee := Callee.value (Operand.func 14), args := #[Operand.tmp 15], argTypes := #[33] }, type := 26, pos := "law.go:94", after := #[{ on := 0, ground := Ground.data }], guard := none }) rfl (fun K' hK => ?_) ?_
        ·
          go_simp
          refine (HOFa.out _ hz39.out).mono ?_
          rintro e wz40 ⟨oa1, oc1, rfl, hrr, hbz⟩
          have hz40 := belP hz39 hbz
          have g5z40 := blkHP g5z39 hbz
          have g6z40 := blkHP g6z39 hbz
          have r1z40 := Lib.hid hrr
          refine hK.out _ _ (SOK.out _ hz40.out) (fun hHeld => ?_)
          clear hK K'
          try simp only [Act.put, List.setIfInBounds_toArray, List.set_cons_zero, List.set_cons_succ]
          clear hHeld
          clear hbz hrr hz39 g5z39 g6z39
          refine wpAnyH_ready (rs := [3]) (by kernel_rfl) (by simp) ?_
          refine AllReadyH.cons (o := { dst := some 18, op := Op.call { callee := Callee.value (Operand.func 14), args := #[Operand.tmp 17], argTypes := #[33] }, type := 26, pos := "law.go:94", after := #[{ on := 2, ground := Ground.data }, { on := 1, ground := Ground.chain }], guard := none }) rfl (fun K' hK => ?_) ?_
          ·
            go_simp
            refine (HOFb.out _ hz40.out).mono ?_
            rintro e wz41 ⟨oa2, oc2, rfl, hrr, hbz⟩
            have hz41 := belP hz40 hbz
            have g5z41 := blkHP g5z40 hbz
            have g6z41 := blkHP g6z40 hbz
            have r1z41 := Lib.hid (r1z40.out.below hbz)
            have r2z41 := Lib.hid hrr
            refine hK.out _ _ (SOK.out _ hz41.out) (fun hHeld => ?_)
            clear hK K'
            try simp only [Act.put, List.setIfInBounds_toArray, List.set_cons_zero, List.set_cons_succ]
            clear hHeld
            clear hbz hrr hz40 g5z40 g6z40 r1z40
            refine wpAnyH_ready (rs := [6]) (by kernel_rfl) (by simp) ?_
            refine AllReadyH.cons (o := { dst := none, op := Op.store 26 (Operand.tmp 5) (Operand.tmp 16), type := 0, pos := "law.go:94", after := #[{ on := 4, ground := Ground.data }, { on := 1, ground := Ground.data }, { on := 3, ground := Ground.chain }, { on := 0, ground := Ground.phase }, { on := 1, ground := Ground.phase }, { on := 2, ground := Ground.textOnly Departure.lateStores }, { on := 3, ground := Ground.textOnly Departure.lateStoresUnsure }, { on := 4, ground := Ground.phase }, { on := 5, ground := Ground.phase }], guard := none }) rfl (fun K' hK => ?_) ?_
            ·
              have z0 := g5z41.out.frozen 0
              have z1 := g5z41.out.frozen 1
              have z2 := g5z41.out.frozen 2
              have z3 := g5z41.out.frozen 3
              have y0 : wz41.cell? ⟨Bz29, 0, none⟩ = some (.int .i64 0) := g5z41.out.cell 0
              have y1 : wz41.cell? ⟨Bz29, 1, none⟩ = some (.int .i64 0) := g5z41.out.cell 1
              have y2 : wz41.cell? ⟨Bz29, 2, none⟩ = some (.bool false) := g5z41.out.cell 2
              have y3 : wz41.cell? ⟨Bz29, 3, none⟩ = some (.slice none 0 0) := g5z41.out.cell 3
              have hz42 : Hid (Below W0.heap.size W0 ((((wz41.setCell ⟨Bz29, 0, none⟩ (.int .i64 k)).setCell ⟨Bz29, 1, none⟩ (.int .i64 n)).setCell ⟨Bz29, 2, none⟩ (.bool x)).setCell ⟨Bz29, 3, none⟩ (.slice oa1 L1 oc1))) := ((((hz41.out.setCell (p := ⟨Bz29, 0, none⟩) lz29 _).setCell (p := ⟨Bz29, 1, none⟩) lz29 _).setCell (p := ⟨Bz29, 2, none⟩) lz29 _).setCell (p := ⟨Bz29, 3, none⟩) lz29 _)
              have g5z42 : Hid (Blk ((((wz41.setCell ⟨Bz29, 0, none⟩ (.int .i64 k)).setCell ⟨Bz29, 1, none⟩ (.int .i64 n)).setCell ⟨Bz29, 2, none⟩ (.bool x)).setCell ⟨Bz29, 3, none⟩ (.slice oa1 L1 oc1)) Bz29 TPl #[.int .i64 k, .int .i64 n, .bool x, .slice oa1 L1 oc1]) := ((((g5z41.out.set 0 (.int .i64 k)).set 1 (.int .i64 n)).set 2 (.bool x)).set 3 (.slice oa1 L1 oc1))
              have g6z42 := Lib.hid ((((g6z41.out.other (Ne.symm nz39) 0 (.int .i64 k)).other (Ne.symm nz39) 1 (.int .i64 n)).other (Ne.symm nz39) 2 (.bool x)).other (Ne.symm nz39) 3 (.slice oa1 L1 oc1))
              have r1z42 : Hid (RulesR TRl TCd W0.heap.size ((((wz41.setCell ⟨Bz29, 0, none⟩ (.int .i64 k)).setCell ⟨Bz29, 1, none⟩ (.int .i64 n)).setCell ⟨Bz29, 2, none⟩ (.bool x)).setCell ⟨Bz29, 3, none⟩ (.slice oa1 L1 oc1)) (.slice oa1 L1 oc1) rs) := ((((r1z41.out.setG (g := Bz29) (j := 0) (u := .int .i64 k) g5z41.out (by decide) (by decide)).setG (g := Bz29) (j := 1) (u := .int .i64 n) (g5z41.out.set 0 (.int .i64 k)) (by decide) (by decide)).setG (g := Bz29) (j := 2) (u := .bool x) ((g5z41.out.set 0 (.int .i64 k)).set 1 (.int .i64 n)) (by decide) (by decide)).setG (g := Bz29) (j := 3) (u := .slice oa1 L1 oc1) (((g5z41.out.set 0 (.int .i64 k)).set 1 (.int .i64 n)).set 2 (.bool x)) (by decide) (by decide))
              have r2z42 : Hid (RulesR TRl TCd W0.heap.size ((((wz41.setCell ⟨Bz29, 0, none⟩ (.int .i64 k)).setCell ⟨Bz29, 1, none⟩ (.int .i64 n)).setCell ⟨Bz29, 2, none⟩ (.bool x)).setCell ⟨Bz29, 3, none⟩ (.slice oa1 L1 oc1)) (.slice oa2 L2 oc2) ss) := ((((r2z41.out.setG (g := Bz29) (j := 0) (u := .int .i64 k) g5z41.out (by decide) (by decide)).setG (g := Bz29) (j := 1) (u := .int .i64 n) (g5z41.out.set 0 (.int .i64 k)) (by decide) (by decide)).setG (g := Bz29) (j := 2) (u := .bool x) ((g5z41.out.set 0 (.int .i64 k)).set 1 (.int .i64 n)) (by decide) (by decide)).setG (g := Bz29) (j := 3) (u := .slice oa1 L1 oc1) (((g5z41.out.set 0 (.int .i64 k)).set 1 (.int .i64 n)).set 2 (.bool x)) (by decide) (by decide))
              go_simp
              refine hK.out _ _ (SOK.out _ hz42.out) (fun hHeld => ?_)
              clear hK K'
              try simp only [Act.put, List.setIfInBounds_toArray, List.set_cons_zero, List.set_cons_succ]
              clear hHeld
              clear z0 z1 z2 z3 y0 y1 y2 y3 hz41 g5z41 g6z41 r1z41 r2z41
              generalize ((((wz41.setCell ⟨Bz29, 0, none⟩ (.int .i64 k)).setCell ⟨Bz29, 1, none⟩ (.int .i64 n)).setCell ⟨Bz29, 2, none⟩ (.bool x)).setCell ⟨Bz29, 3, none⟩ (.slice oa1 L1 oc1)) = wz42 at *
              refine wpAnyH_ready (rs := [7]) (by kernel_rfl) (by simp) ?_
              refine AllReadyH.cons (o := { dst := none, op := Op.store 26 (Operand.tmp 6) (Operand.tmp 18), type := 0, pos := "law.go:94", after := #[{ on := 5, ground := Ground.data }, { on := 3, ground := Ground.data }, { on := 6, ground := Ground.chain }, { on := 0, ground := Ground.phase }, { on := 1, ground := Ground.phase }, { on := 2, ground := Ground.phase }, { on := 3, ground := Ground.phase }, { on := 4, ground := Ground.phase }, { on := 5, ground := Ground.phase }, { on := 6, ground := Ground.phase }], guard := none }) rfl (fun K' hK => ?_) ?_
              ·
                have z0 := g6z42.out.frozen 0
                have z1 := g6z42.out.frozen 1
                have z2 := g6z42.out.frozen 2
                have z3 := g6z42.out.frozen 3
                have y0 : wz42.cell? ⟨Bz39, 0, none⟩ = some (.int .i64 0) := g6z42.out.cell 0
                have y1 : wz42.cell? ⟨Bz39, 1, none⟩ = some (.int .i64 0) := g6z42.out.cell 1
                have y2 : wz42.cell? ⟨Bz39, 2, none⟩ = some (.bool false) := g6z42.out.cell 2
                have y3 : wz42.cell? ⟨Bz39, 3, none⟩ = some (.slice none 0 0) := g6z42.out.cell 3
                have hz43 : Hid (Below W0.heap.size W0 ((((wz42.setCell ⟨Bz39, 0, none⟩ (.int .i64 k2)).setCell ⟨Bz39, 1, none⟩ (.int .i64 n2)).setCell ⟨Bz39, 2, none⟩ (.bool x2)).setCell ⟨Bz39, 3, none⟩ (.slice oa2 L2 oc2))) := ((((hz42.out.setCell (p := ⟨Bz39, 0, none⟩) lz39 _).setCell (p := ⟨Bz39, 1, none⟩) lz39 _).setCell (p := ⟨Bz39, 2, none⟩) lz39 _).setCell (p := ⟨Bz39, 3, none⟩) lz39 _)
                have g6z43 : Hid (Blk ((((wz42.setCell ⟨Bz39, 0, none⟩ (.int .i64 k2)).setCell ⟨Bz39, 1, none⟩ (.int .i64 n2)).setCell ⟨Bz39, 2, none⟩ (.bool x2)).setCell ⟨Bz39, 3, none⟩ (.slice oa2 L2 oc2)) Bz39 TPl #[.int .i64 k2, .int .i64 n2, .bool x2, .slice oa2 L2 oc2]) := ((((g6z42.out.set 0 (.int .i64 k2)).set 1 (.int .i64 n2)).set 2 (.bool x2)).set 3 (.slice oa2 L2 oc2))
                have g5z43 := Lib.hid ((((g5z42.out.other nz39 0 (.int .i64 k2)).other nz39 1 (.int .i64 n2)).other nz39 2 (.bool x2)).other nz39 3 (.slice oa2 L2 oc2))
                have r1z43 : Hid (RulesR TRl TCd W0.heap.size ((((wz42.setCell ⟨Bz39, 0, none⟩ (.int .i64 k2)).setCell ⟨Bz39, 1, none⟩ (.int .i64 n2)).setCell ⟨Bz39, 2, none⟩ (.bool x2)).setCell ⟨Bz39, 3, none⟩ (.slice oa2 L2 oc2)) (.slice oa1 L1 oc1) rs) := ((((r1z42.out.setG (g := Bz39) (j := 0) (u := .int .i64 k2) g6z42.out (by decide) (by decide)).setG (g := Bz39) (j := 1) (u := .int .i64 n2) (g6z42.out.set 0 (.int .i64 k2)) (by decide) (by decide)).setG (g := Bz39) (j := 2) (u := .bool x2) ((g6z42.out.set 0 (.int .i64 k2)).set 1 (.int .i64 n2)) (by decide) (by decide)).setG (g := Bz39) (j := 3) (u := .slice oa2 L2 oc2) (((g6z42.out.set 0 (.int .i64 k2)).set 1 (.int .i64 n2)).set 2 (.bool x2)) (by decide) (by decide))
                have r2z43 : Hid (RulesR TRl TCd W0.heap.size ((((wz42.setCell ⟨Bz39, 0, none⟩ (.int .i64 k2)).setCell ⟨Bz39, 1, none⟩ (.int .i64 n2)).setCell ⟨Bz39, 2, none⟩ (.bool x2)).setCell ⟨Bz39, 3, none⟩ (.slice oa2 L2 oc2)) (.slice oa2 L2 oc2) ss) := ((((r2z42.out.setG (g := Bz39) (j := 0) (u := .int .i64 k2) g6z42.out (by decide) (by decide)).setG (g := Bz39) (j := 1) (u := .int .i64 n2) (g6z42.out.set 0 (.int .i64 k2)) (by decide) (by decide)).setG (g := Bz39) (j := 2) (u := .bool x2) ((g6z42.out.set 0 (.int .i64 k2)).set 1 (.int .i64 n2)) (by decide) (by decide)).setG (g := Bz39) (j := 3) (u := .slice oa2 L2 oc2) (((g6z42.out.set 0 (.int .i64 k2)).set 1 (.int .i64 n2)).set 2 (.bool x2)) (by decide) (by decide))
                go_simp
                refine hK.out _ _ (SOK.out _ hz43.out) (fun hHeld => ?_)
                clear hK K'
                try simp only [Act.put, List.setIfInBounds_toArray, List.set_cons_zero, List.set_cons_succ]
                clear hHeld
                clear z0 z1 z2 z3 y0 y1 y2 y3 hz42 g5z42 g6z42 r1z42 r2z42
                generalize ((((wz42.setCell ⟨Bz39, 0, none⟩ (.int .i64 k2)).setCell ⟨Bz39, 1, none⟩ (.int .i64 n2)).setCell ⟨Bz39, 2, none⟩ (.bool x2)).setCell ⟨Bz39, 3, none⟩ (.slice oa2 L2 oc2)) = wz43 at *
                refine wpAnyH_done (by kernel_rfl) ?_ _
                refine NoPanic.normal ?_
                go_wp2_with fail
                go_meet
                exact ⟨_, _, _, _, _, _, rfl, rfl, hz43, g5z43, g6z43, r1z43, r2z43⟩
              exact AllReadyH.nil
            exact AllReadyH.nil
          exact AllReadyH.nil
        exact AllReadyH.nil
      exact AllReadyH.nil
    refine AllReadyH.cons (o := { dst := some 6, op := Op.alloc 26, type := 0, pos := "law.go:94", after := #[], guard := none }) rfl (fun K' hK => ?_) ?_
    ·
      have hz44 := Lib.hid (hz0.out.alloc hz0.out.size (.cells #[.int .i64 0, .int .i64 0, .bool false, .slice none 0 0] TPl))
      have g6z44 := Lib.hid (Blk.new wz0 TPl #[.int .i64 0, .int .i64 0, .bool false, .slice none 0 0])
      have lz44 : W0.heap.size ≤ wz0.heap.size := hz0.out.size
      go_simp
      refine hK.out _ _ (SOK.out _ hz44.out) (fun hHeld => ?_)
      clear hK K'
      try simp only [Act.put, List.setIfInBounds_toArray, List.set_cons_zero, List.set_cons_succ]
      clear hHeld
      clear hz0
      generalize wz0.alloc (.cells #[.int .i64 0, .int .i64 0, .bool false, .slice none 0 0] TPl) = wz44 at *
      generalize wz0.heap.size = Bz44 at *
      refine wpAnyH_ready (rs := [1, 4]) (by kernel_rfl) (by simp) ?_
      refine AllReadyH.cons (o := { dst := some 16, op := Op.call { callee := Callee.value (Operand.func 14), args := #[Operand.tmp 15], argTypes := #[33] }, type := 26, pos := "law.go:94", after := #[{ on := 0, ground := Ground.data }], guard := none }) rfl (fun K' hK => ?_) ?_
      ·
        go_simp
        refine (HOFa.out _ hz44.out).mono ?_
        rintro e wz45 ⟨oa1, oc1, rfl, hrr, hbz⟩
        have hz45 := belP hz44 hbz
        have g6z45 := blkHP g6z44 hbz
        have r1z45 := Lib.hid hrr
        refine hK.out _ _ (SOK.out _ hz45.out) (fun hHeld => ?_)
        clear hK K'
        try simp only [Act.put, List.setIfInBounds_toArray, List.set_cons_zero, List.set_cons_succ]
        clear hHeld
        clear hbz hrr hz44 g6z44
        refine wpAnyH_ready (rs := [3, 4]) (by kernel_rfl) (by simp) ?_
        refine AllReadyH.cons (o := { dst := some 18, op := Op.call { callee := Callee.value (Operand.func 14), args := #[Operand.tmp 17], argTypes := #[33] }, type := 26, pos := "law.go:94", after := #[{ on := 2, ground := Ground.data }, { on := 1, ground := Ground.chain }], guard := none }) rfl (fun K' hK => ?_) ?_
        ·
          go_simp
          refine (HOFb.out _ hz45.out).mono ?_
          rintro e wz46 ⟨oa2, oc2, rfl, hrr, hbz⟩
          have hz46 := belP hz45 hbz
          have g6z46 := blkHP g6z45 hbz
          have r1z46 := Lib.hid (r1z45.out.below hbz)
          have r2z46 := Lib.hid hrr
          refine hK.out _ _ (SOK.out _ hz46.out) (fun hHeld => ?_)
          clear hK K'
          try simp only [Act.put, List.setIfInBounds_toArray, List.set_cons_zero, List.set_cons_succ]
          clear hHeld
          clear hbz hrr hz45 g6z45 r1z45
          refine wpAnyH_ready (rs := [4]) (by kernel_rfl) (by simp) ?_
          refine AllReadyH.cons (o := { dst := some 5, op := Op.alloc 26, type := 0, pos := "law.go:94", after := #[], guard := none }) rfl (fun K' hK => ?_) ?_
          ·
            have hz47 := Lib.hid (hz46.out.alloc hz46.out.size (.cells #[.int .i64 0, .int .i64 0, .bool false, .slice none 0 0] TPl))
            have g5z47 := Lib.hid (Blk.new wz46 TPl #[.int .i64 0, .int .i64 0, .bool false, .slice none 0 0])
            have lz47 : W0.heap.size ≤ wz46.heap.size := hz46.out.size
            have g6z47 := Lib.hid (g6z46.out.alloc (.cells #[.int .i64 0, .int .i64 0, .bool false, .slice none 0 0] TPl))
            have nz47 : Bz44 ≠ wz46.heap.size := Nat.ne_of_lt g6z46.out.lt
            have r1z47 := Lib.hid (r1z46.out.up (.cells #[.int .i64 0, .int .i64 0, .bool false, .slice none 0 0] TPl))
            have r2z47 := Lib.hid (r2z46.out.up (.cells #[.int .i64 0, .int .i64 0, .bool false, .slice none 0 0] TPl))
            go_simp
            refine hK.out _ _ (SOK.out _ hz47.out) (fun hHeld => ?_)
            clear hK K'
            try simp only [Act.put, List.setIfInBounds_toArray, List.set_cons_zero, List.set_cons_succ]
            clear hHeld
            clear hz46 g6z46 r1z46 r2z46
            generalize wz46.alloc (.cells #[.int .i64 0, .int .i64 0, .bool false, .slice none 0 0] TPl) = wz47 at *
            generalize wz46.heap.size = Bz47 at *
            refine wpAnyH_ready (rs := [6]) (by kernel_rfl) (by simp) ?_
            refine AllReadyH.cons (o := { dst := none, op := Op.store 26 (Operand.tmp 5) (Operand.tmp 16), type := 0, pos := "law.go:94", after := #[{ on := 4, ground := Ground.data }, { on := 1, ground := Ground.data }, { on := 3, ground := Ground.chain }, { on := 0, ground := Ground.phase }, { on := 1, ground := Ground.phase }, { on := 2, ground := Ground.textOnly Departure.lateStores }, { on := 3, ground := Ground.textOnly Departure.lateStoresUnsure }, { on := 4, ground := Ground.phase }, { on := 5, ground := Ground.phase }], guard := none }) rfl (fun K' hK => ?_) ?_
            ·
              have z0 := g5z47.out.frozen 0
              have z1 := g5z47.out.frozen 1
              have z2 := g5z47.out.frozen 2
              have z3 := g5z47.out.frozen 3
              have y0 : wz47.cell? ⟨Bz47, 0, none⟩ = some (.int .i64 0) := g5z47.out.cell 0
              have y1 : wz47.cell? ⟨Bz47, 1, none⟩ = some (.int .i64 0) := g5z47.out.cell 1
              have y2 : wz47.cell? ⟨Bz47, 2, none⟩ = some (.bool false) := g5z47.out.cell 2
              have y3 : wz47.cell? ⟨Bz47, 3, none⟩ = some (.slice none 0 0) := g5z47.out.cell 3
              have hz48 : Hid (Below W0.heap.size W0 ((((wz47.setCell ⟨Bz47, 0, none⟩ (.int .i64 k)).setCell ⟨Bz47, 1, none⟩ (.int .i64 n)).setCell ⟨Bz47, 2, none⟩ (.bool x)).setCell ⟨Bz47, 3, none⟩ (.slice oa1 L1 oc1))) := ((((hz47.out.setCell (p := ⟨Bz47, 0, none⟩) lz47 _).setCell (p := ⟨Bz47, 1, none⟩) lz47 _).setCell (p := ⟨Bz47, 2, none⟩) lz47 _).setCell (p := ⟨Bz47, 3, none⟩) lz47 _)
              have g5z48 : Hid (Blk ((((wz47.setCell ⟨Bz47, 0, none⟩ (.int .i64 k)).setCell ⟨Bz47, 1, none⟩ (.int .i64 n)).setCell ⟨Bz47, 2, none⟩ (.bool x)).setCell ⟨Bz47, 3, none⟩ (.slice oa1 L1 oc1)) Bz47 TPl #[.int .i64 k, .int .i64 n, .bool x, .slice oa1 L1 oc1]) := ((((g5z47.out.set 0 (.int .i64 k)).set 1 (.int .i64 n)).set 2 (.bool x)).set 3 (.slice oa1 L1 oc1))
              have g6z48 := Lib.hid ((((g6z47.out.other nz47 0 (.int .i64 k)).other nz47 1 (.int .i64 n)).other nz47 2 (.bool x)).other nz47 3 (.slice oa1 L1 oc1))
              have r1z48 : Hid (RulesR TRl TCd W0.heap.size ((((wz47.setCell ⟨Bz47, 0, none⟩ (.int .i64 k)).setCell ⟨Bz47, 1, none⟩ (.int .i64 n)).setCell ⟨Bz47, 2, none⟩ (.bool x)).setCell ⟨Bz47, 3, none⟩ (.slice oa1 L1 oc1)) (.slice oa1 L1 oc1) rs) := ((((r1z47.out.setG (g := Bz47) (j := 0) (u := .int .i64 k) g5z47.out (by decide) (by decide)).setG (g := Bz47) (j := 1) (u := .int .i64 n) (g5z47.out.set 0 (.int .i64 k)) (by decide) (by decide)).setG (g := Bz47) (j := 2) (u := .bool x) ((g5z47.out.set 0 (.int .i64 k)).set 1 (.int .i64 n)) (by decide) (by decide)).setG (g := Bz47) (j := 3) (u := .slice oa1 L1 oc1) (((g5z47.out.set 0 (.int .i64 k)).set 1 (.int .i64 n)).set 2 (.bool x)) (by decide) (by decide))
              have r2z48 : Hid (RulesR TRl TCd W0.heap.size ((((wz47.setCell ⟨Bz47, 0, none⟩ (.int .i64 k)).setCell ⟨Bz47, 1, none⟩ (.int .i64 n)).setCell ⟨Bz47, 2, none⟩ (.bool x)).setCell ⟨Bz47, 3, none⟩ (.slice oa1 L1 oc1)) (.slice oa2 L2 oc2) ss) := ((((r2z47.out.setG (g := Bz47) (j := 0) (u := .int .i64 k) g5z47.out (by decide) (by decide)).setG (g := Bz47) (j := 1) (u := .int .i64 n) (g5z47.out.set 0 (.int .i64 k)) (by decide) (by decide)).setG (g := Bz47) (j := 2) (u := .bool x) ((g5z47.out.set 0 (.int .i64 k)).set 1 (.int .i64 n)) (by decide) (by decide)).setG (g := Bz47) (j := 3) (u := .slice oa1 L1 oc1) (((g5z47.out.set 0 (.int .i64 k)).set 1 (.int .i64 n)).set 2 (.bool x)) (by decide) (by decide))
              go_simp
              refine hK.out _ _ (SOK.out _ hz48.out) (fun hHeld => ?_)
              clear hK K'
              try simp only [Act.put, List.setIfInBounds_toArray, List.set_cons_zero, List.set_cons_succ]
              clear hHeld
              clear z0 z1 z2 z3 y0 y1 y2 y3 hz47 g5z47 g6z47 r1z47 r2z47
              generalize ((((wz47.setCell ⟨Bz47, 0, none⟩ (.int .i64 k)).setCell ⟨Bz47, 1, none⟩ (.int .i64 n)).setCell ⟨Bz47, 2, none⟩ (.bool x)).setCell ⟨Bz47, 3, none⟩ (.slice oa1 L1 oc1)) = wz48 at *
              refine wpAnyH_ready (rs := [7]) (by kernel_rfl) (by simp) ?_
              refine AllReadyH.cons (o := { dst := none, op := Op.store 26 (Operand.tmp 6) (Operand.tmp 18), type := 0, pos := "law.go:94", after := #[{ on := 5, ground := Ground.data }, { on := 3, ground := Ground.data }, { on := 6, ground := Ground.chain }, { on := 0, ground := Ground.phase }, { on := 1, ground := Ground.phase }, { on := 2, ground := Ground.phase }, { on := 3, ground := Ground.phase }, { on := 4, ground := Ground.phase }, { on := 5, ground := Ground.phase }, { on := 6, ground := Ground.phase }], guard := none }) rfl (fun K' hK => ?_) ?_
              ·
                have z0 := g6z48.out.frozen 0
                have z1 := g6z48.out.frozen 1
                have z2 := g6z48.out.frozen 2
                have z3 := g6z48.out.frozen 3
                have y0 : wz48.cell? ⟨Bz44, 0, none⟩ = some (.int .i64 0) := g6z48.out.cell 0
                have y1 : wz48.cell? ⟨Bz44, 1, none⟩ = some (.int .i64 0) := g6z48.out.cell 1
                have y2 : wz48.cell? ⟨Bz44, 2, none⟩ = some (.bool false) := g6z48.out.cell 2
                have y3 : wz48.cell? ⟨Bz44, 3, none⟩ = some (.slice none 0 0) := g6z48.out.cell 3
                have hz49 : Hid (Below W0.heap.size W0 ((((wz48.setCell ⟨Bz44, 0, none⟩ (.int .i64 k2)).setCell ⟨Bz44, 1, none⟩ (.int .i64 n2)).setCell ⟨Bz44, 2, none⟩ (.bool x2)).setCell ⟨Bz44, 3, none⟩ (.slice oa2 L2 oc2))) := ((((hz48.out.setCell (p := ⟨Bz44, 0, none⟩) lz44 _).setCell (p := ⟨Bz44, 1, none⟩) lz44 _).setCell (p := ⟨Bz44, 2, none⟩) lz44 _).setCell (p := ⟨Bz44, 3, none⟩) lz44 _)
                have g6z49 : Hid (Blk ((((wz48.setCell ⟨Bz44, 0, none⟩ (.int .i64 k2)).setCell ⟨Bz44, 1, none⟩ (.int .i64 n2)).setCell ⟨Bz44, 2, none⟩ (.bool x2)).setCell ⟨Bz44, 3, none⟩ (.slice oa2 L2 oc2)) Bz44 TPl #[.int .i64 k2, .int .i64 n2, .bool x2, .slice oa2 L2 oc2]) := ((((g6z48.out.set 0 (.int .i64 k2)).set 1 (.int .i64 n2)).set 2 (.bool x2)).set 3 (.slice oa2 L2 oc2))
                have g5z49 := Lib.hid ((((g5z48.out.other (Ne.symm nz47) 0 (.int .i64 k2)).other (Ne.symm nz47) 1 (.int .i64 n2)).other (Ne.symm nz47) 2 (.bool x2)).other (Ne.symm nz47) 3 (.slice oa2 L2 oc2))
                have r1z49 : Hid (RulesR TRl TCd W0.heap.size ((((wz48.setCell ⟨Bz44, 0, none⟩ (.int .i64 k2)).setCell ⟨Bz44, 1, none⟩ (.int .i64 n2)).setCell ⟨Bz44, 2, none⟩ (.bool x2)).setCell ⟨Bz44, 3, none⟩ (.slice oa2 L2 oc2)) (.slice oa1 L1 oc1) rs) := ((((r1z48.out.setG (g := Bz44) (j := 0) (u := .int .i64 k2) g6z48.out (by decide) (by decide)).setG (g := Bz44) (j := 1) (u := .int .i64 n2) (g6z48.out.set 0 (.int .i64 k2)) (by decide) (by decide)).setG (g := Bz44) (j := 2) (u := .bool x2) ((g6z48.out.set 0 (.int .i64 k2)).set 1 (.int .i64 n2)) (by decide) (by decide)).setG (g := Bz44) (j := 3) (u := .slice oa2 L2 oc2) (((g6z48.out.set 0 (.int .i64 k2)).set 1 (.int .i64 n2)).set 2 (.bool x2)) (by decide) (by decide))
                have r2z49 : Hid (RulesR TRl TCd W0.heap.size ((((wz48.setCell ⟨Bz44, 0, none⟩ (.int .i64 k2)).setCell ⟨Bz44, 1, none⟩ (.int .i64 n2)).setCell ⟨Bz44, 2, none⟩ (.bool x2)).setCell ⟨Bz44, 3, none⟩ (.slice oa2 L2 oc2)) (.slice oa2 L2 oc2) ss) := ((((r2z48.out.setG (g := Bz44) (j := 0) (u := .int .i64 k2) g6z48.out (by decide) (by decide)).setG (g := Bz44) (j := 1) (u := .int .i64 n2) (g6z48.out.set 0 (.int .i64 k2)) (by decide) (by decide)).setG (g := Bz44) (j := 2) (u := .bool x2) ((g6z48.out.set 0 (.int .i64 k2)).set 1 (.int .i64 n2)) (by decide) (by decide)).setG (g := Bz44) (j := 3) (u := .slice oa2 L2 oc2) (((g6z48.out.set 0 (.int .i64 k2)).set 1 (.int .i64 n2)).set 2 (.bool x2)) (by decide) (by decide))
                go_simp
                refine hK.out _ _ (SOK.out _ hz49.out) (fun hHeld => ?_)
                clear hK K'
                try simp only [Act.put, List.setIfInBounds_toArray, List.set_cons_zero, List.set_cons_succ]
                clear hHeld
                clear z0 z1 z2 z3 y0 y1 y2 y3 hz48 g5z48 g6z48 r1z48 r2z48
                generalize ((((wz48.setCell ⟨Bz44, 0, none⟩ (.int .i64 k2)).setCell ⟨Bz44, 1, none⟩ (.int .i64 n2)).setCell ⟨Bz44, 2, none⟩ (.bool x2)).setCell ⟨Bz44, 3, none⟩ (.slice oa2 L2 oc2)) = wz49 at *
                refine wpAnyH_done (by kernel_rfl) ?_ _
                refine NoPanic.normal ?_
                go_wp2_with fail
                go_meet
                exact ⟨_, _, _, _, _, _, rfl, rfl, hz49, g5z49, g6z49, r1z49, r2z49⟩
              exact AllReadyH.nil
            exact AllReadyH.nil
          exact AllReadyH.nil
        refine AllReadyH.cons (o := { dst := some 5, op := Op.alloc 26, type := 0, pos := "law.go:94", after := #[], guard := none }) rfl (fun K' hK => ?_) ?_
        ·
          have hz50 := Lib.hid (hz45.out.alloc hz45.out.size (.cells #[.int .i64 0, .int .i64 0, .bool false, .slice none 0 0] TPl))
          have g5z50 := Lib.hid (Blk.new wz45 TPl #[.int .i64 0, .int .i64 0, .bool false, .slice none 0 0])
          have lz50 : W0.heap.size ≤ wz45.heap.size := hz45.out.size
          have g6z50 := Lib.hid (g6z45.out.alloc (.cells #[.int .i64 0, .int .i64 0, .bool false, .slice none 0 0] TPl))
          have nz50 : Bz44 ≠ wz45.heap.size := Nat.ne_of_lt g6z45.out.lt
          have r1z50 := Lib.hid (r1z45.out.up (.cells #[.int .i64 0, .int .i64 0, .bool false, .slice none 0 0] TPl))
          go_simp
          refine hK.out _ _ (SOK.out _ hz50.out) (fun hHeld => ?_)
          clear hK K'
          try simp only [Act.put, List.setIfInBounds_toArray, List.set_cons_zero, List.set_cons_succ]
          clear hHeld
          clear hz45 g6z45 r1z45
          generalize wz45.alloc (.cells #[.int .i64 0, .int .i64 0, .bool false, .slice none 0 0] TPl) = wz50 at *
          generalize wz45.heap.size = Bz50 at *
          refine wpAnyH_ready (rs := [3]) (by kernel_rfl) (by simp) ?_
          refine AllReadyH.cons (o := { dst := some 18, op := Op.call { callee := Callee.value (Operand.func 14), args := #[Operand.tmp 17], argTypes := #[33] }, type := 26, pos := "law.go:94", after := #[{ on := 2, ground := Ground.data }, { on := 1, ground := Ground.chain }], guard := none }) rfl (fun K' hK => ?_) ?_
          ·
            go_simp
            refine (HOFb.out _ hz50.out).mono ?_
            rintro e wz51 ⟨oa2, oc2, rfl, hrr, hbz⟩
            have hz51 := belP hz50 hbz
            have g5z51 := blkHP g5z50 hbz
            have g6z51 := blkHP g6z50 hbz
            have r1z51 := Lib.hid (r1z50.out.below hbz)
            have r2z51 := Lib.hid hrr
            refine hK.out _ _ (SOK.out _ hz51.out) (fun hHeld => ?_)
            clear hK K'
            try simp only [Act.put, List.setIfInBounds_toArray, List.set_cons_zero, List.set_cons_succ]
            clear hHeld
            clear hbz hrr hz50 g5z50 g6z50 r1z50
            refine wpAnyH_ready (rs := [6]) (by kernel_rfl) (by simp) ?_
            refine AllReadyH.cons (o := { dst := none, op := Op.store 26 (Operand.tmp 5) (Operand.tmp 16), type := 0, pos := "law.go:94", after := #[{ on := 4, ground := Ground.data }, { on := 1, ground := Ground.data }, { on := 3, ground := Ground.chain }, { on := 0, ground := Ground.phase }, { on := 1, ground := Ground.phase }, { on := 2, ground := Ground.textOnly Departure.lateStores }, { on := 3, ground := Ground.textOnly Departure.lateStoresUnsure }, { on := 4, ground := Ground.phase }, { on := 5, ground := Ground.phase }], guard := none }) rfl (fun K' hK => ?_) ?_
            ·
              have z0 := g5z51.out.frozen 0
              have z1 := g5z51.out.frozen 1
              have z2 := g5z51.out.frozen 2
              have z3 := g5z51.out.frozen 3
              have y0 : wz51.cell? ⟨Bz50, 0, none⟩ = some (.int .i64 0) := g5z51.out.cell 0
              have y1 : wz51.cell? ⟨Bz50, 1, none⟩ = some (.int .i64 0) := g5z51.out.cell 1
              have y2 : wz51.cell? ⟨Bz50, 2, none⟩ = some (.bool false) := g5z51.out.cell 2
              have y3 : wz51.cell? ⟨Bz50, 3, none⟩ = some (.slice none 0 0) := g5z51.out.cell 3
              have hz52 : Hid (Below W0.heap.size W0 ((((wz51.setCell ⟨Bz50, 0, none⟩ (.int .i64 k)).setCell ⟨Bz50, 1, none⟩ (.int .i64 n)).setCell ⟨Bz50, 2, none⟩ (.bool x)).setCell ⟨Bz50, 3, none⟩ (.slice oa1 L1 oc1))) := ((((hz51.out.setCell (p := ⟨Bz50, 0, none⟩) lz50 _).setCell (p := ⟨Bz50, 1, none⟩) lz50 _).setCell (p := ⟨Bz50, 2, none⟩) lz50 _).setCell (p := ⟨Bz50, 3, none⟩) lz50 _)
              have g5z52 : Hid (Blk ((((wz51.setCell ⟨Bz50, 0, none⟩ (.int .i64 k)).setCell ⟨Bz50, 1, none⟩ (.int .i64 n)).setCell ⟨Bz50, 2, none⟩ (.bool x)).setCell ⟨Bz50, 3, none⟩ (.slice oa1 L1 oc1)) Bz50 TPl #[.int .i64 k, .int .i64 n, .bool x, .slice oa1 L1 oc1]) := ((((g5z51.out.set 0 (.int .i64 k)).set 1 (.int .i64 n)).set 2 (.bool x)).set 3 (.slice oa1 L1 oc1))
              have g6z52 := Lib.hid ((((g6z51.out.other nz50 0 (.int .i64 k)).other nz50 1 (.int .i64 n)).other nz50 2 (.bool x)).other nz50 3 (.slice oa1 L1 oc1))
              have r1z52 : Hid (RulesR TRl TCd W0.heap.size ((((wz51.setCell ⟨Bz50, 0, none⟩ (.int .i64 k)).setCell ⟨Bz50, 1, none⟩ (.int .i64 n)).setCell ⟨Bz50, 2, none⟩ (.bool x)).setCell ⟨Bz50, 3, none⟩ (.slice oa1 L1 oc1)) (.slice oa1 L1 oc1) rs) := ((((r1z51.out.setG (g := Bz50) (j := 0) (u := .int .i64 k) g5z51.out (by decide) (by decide)).setG (g := Bz50) (j := 1) (u := .int .i64 n) (g5z51.out.set 0 (.int .i64 k)) (by decide) (by decide)).setG (g := Bz50) (j := 2) (u := .bool x) ((g5z51.out.set 0 (.int .i64 k)).set 1 (.int .i64 n)) (by decide) (by decide)).setG (g := Bz50) (j := 3) (u := .slice oa1 L1 oc1) (((g5z51.out.set 0 (.int .i64 k)).set 1 (.int .i64 n)).set 2 (.bool x)) (by decide) (by decide))
              have r2z52 : Hid (RulesR TRl TCd W0.heap.size ((((wz51.setCell ⟨Bz50, 0, none⟩ (.int .i64 k)).setCell ⟨Bz50, 1, none⟩ (.int .i64 n)).setCell ⟨Bz50, 2, none⟩ (.bool x)).setCell ⟨Bz50, 3, none⟩ (.slice oa1 L1 oc1)) (.slice oa2 L2 oc2) ss) := ((((r2z51.out.setG (g := Bz50) (j := 0) (u := .int .i64 k) g5z51.out (by decide) (by decide)).setG (g := Bz50) (j := 1) (u := .int .i64 n) (g5z51.out.set 0 (.int .i64 k)) (by decide) (by decide)).setG (g := Bz50) (j := 2) (u := .bool x) ((g5z51.out.set 0 (.int .i64 k)).set 1 (.int .i64 n)) (by decide) (by decide)).setG (g := Bz50) (j := 3) (u := .slice oa1 L1 oc1) (((g5z51.out.set 0 (.int .i64 k)).set 1 (.int .i64 n)).set 2 (.bool x)) (by decide) (by decide))
              go_simp
              refine hK.out _ _ (SOK.out _ hz52.out) (fun hHeld => ?_)
              clear hK K'
              try simp only [Act.put, List.setIfInBounds_toArray, List.set_cons_zero, List.set_cons_succ]
              clear hHeld
              clear z0 z1 z2 z3 y0 y1 y2 y3 hz51 g5z51 g6z51 r1z51 r2z51
              generalize ((((wz51.setCell ⟨Bz50, 0, none⟩ (.int .i64 k)).setCell ⟨Bz50, 1, none⟩ (.int .i64 n)).setCell ⟨Bz50, 2, none⟩ (.bool x)).setCell ⟨Bz50, 3, none⟩ (.slice oa1 L1 oc1)) = wz52 at *
              refine wpAnyH_ready (rs := [7]) (by kernel_rfl) (by simp) ?_
              refine AllReadyH.cons (o := { dst := none, op := Op.store 26 (Operand.tmp 6) (Operand.tmp 18), type := 0, pos := "law.go:94", after := #[{ on := 5, ground := Ground.data }, { on := 3, ground := Ground.data }, { on := 6, ground := Ground.chain }, { on := 0, ground := Ground.phase }, { on := 1, ground := Ground.phase }, { on := 2, ground := Ground.phase }, { on := 3, ground := Ground.phase }, { on := 4, ground := Ground.phase }, { on := 5, ground := Ground.phase }, { on := 6, ground := Ground.phase }], guard := none }) rfl (fun K' hK => ?_) ?_
              ·
                have z0 := g6z52.out.frozen 0
                have z1 := g6z52.out.frozen 1
                have z2 := g6z52.out.frozen 2
                have z3 := g6z52.out.frozen 3
                have y0 : wz52.cell? ⟨Bz44, 0, none⟩ = some (.int .i64 0) := g6z52.out.cell 0
                have y1 : wz52.cell? ⟨Bz44, 1, none⟩ = some (.int .i64 0) := g6z52.out.cell 1
                have y2 : wz52.cell? ⟨Bz44, 2, none⟩ = some (.bool false) := g6z52.out.cell 2
                have y3 : wz52.cell? ⟨Bz44, 3, none⟩ = some (.slice none 0 0) := g6z52.out.cell 3
                have hz53 : Hid (Below W0.heap.size W0 ((((wz52.setCell ⟨Bz44, 0, none⟩ (.int .i64 k2)).setCell ⟨Bz44, 1, none⟩ (.int .i64 n2)).setCell ⟨Bz44, 2, none⟩ (.bool x2)).setCell ⟨Bz44, 3, none⟩ (.slice oa2 L2 oc2))) := ((((hz52.out.setCell (p := ⟨Bz44, 0, none⟩) lz44 _).setCell (p := ⟨Bz44, 1, none⟩) lz44 _).setCell (p := ⟨Bz44, 2, none⟩) lz44 _).setCell (p := ⟨Bz44, 3, none⟩) lz44 _)
                have g6z53 : Hid (Blk ((((wz52.setCell ⟨Bz44, 0, none⟩ (.int .i64 k2)).setCell ⟨Bz44, 1, none⟩ (.int .i64 n2)).setCell ⟨Bz44, 2, none⟩ (.bool x2)).setCell ⟨Bz44, 3, none⟩ (.slice oa2 L2 oc2)) Bz44 TPl #[.int .i64 k2, .int .i64 n2, .bool x2, .slice oa2 L2 oc2]) := ((((g6z52.out.set 0 (.int .i64 k2)).set 1 (.int .i64 n2)).set 2 (.bool x2)).set 3 (.slice oa2 L2 oc2))
                have g5z53 := Lib.hid ((((g5z52.out.other (Ne.symm nz50) 0 (.int .i64 k2)).other (Ne.symm nz50) 1 (.int .i64 n2)).other (Ne.symm nz50) 2 (.bool x2)).other (Ne.symm nz50) 3 (.slice oa2 L2 oc2))
                have r1z53 : Hid (RulesR TRl TCd W0.heap.size ((((wz52.setCell ⟨Bz44, 0, none⟩ (.int .i64 k2)).setCell ⟨Bz44, 1, none⟩ (.int .i64 n2)).setCell ⟨Bz44, 2, none⟩ (.bool x2)).setCell ⟨Bz44, 3, none⟩ (.slice oa2 L2 oc2)) (.slice oa1 L1 oc1) rs) := ((((r1z52.out.setG (g := Bz44) (j := 0) (u := .int .i64 k2) g6z52.out (by decide) (by decide)).setG (g := Bz44) (j := 1) (u := .int .i64 n2) (g6z52.out.set 0 (.int .i64 k2)) (by decide) (by decide)).setG (g := Bz44) (j := 2) (u := .bool x2) ((g6z52.out.set 0 (.int .i64 k2)).set 1 (.int .i64 n2)) (by decide) (by decide)).setG (g := Bz44) (j := 3) (u := .slice oa2 L2 oc2) (((g6z52.out.set 0 (.int .i64 k2)).set 1 (.int .i64 n2)).set 2 (.bool x2)) (by decide) (by decide))
                have r2z53 : Hid (RulesR TRl TCd W0.heap.size ((((wz52.setCell ⟨Bz44, 0, none⟩ (.int .i64 k2)).setCell ⟨Bz44, 1, none⟩ (.int .i64 n2)).setCell ⟨Bz44, 2, none⟩ (.bool x2)).setCell ⟨Bz44, 3, none⟩ (.slice oa2 L2 oc2)) (.slice oa2 L2 oc2) ss) := ((((r2z52.out.setG (g := Bz44) (j := 0) (u := .int .i64 k2) g6z52.out (by decide) (by decide)).setG (g := Bz44) (j := 1) (u := .int .i64 n2) (g6z52.out.set 0 (.int .i64 k2)) (by decide) (by decide)).setG (g := Bz44) (j := 2) (u := .bool x2) ((g6z52.out.set 0 (.int .i64 k2)).set 1 (.int .i64 n2)) (by decide) (by decide)).setG (g := Bz44) (j := 3) (u := .slice oa2 L2 oc2) (((g6z52.out.set 0 (.int .i64 k2)).set 1 (.int .i64 n2)).set 2 (.bool x2)) (by decide) (by decide))
                go_simp
                refine hK.out _ _ (SOK.out _ hz53.out) (fun hHeld => ?_)
                clear hK K'
                try simp only [Act.put, List.setIfInBounds_toArray, List.set_cons_zero, List.set_cons_succ]
                clear hHeld
                clear z0 z1 z2 z3 y0 y1 y2 y3 hz52 g5z52 g6z52 r1z52 r2z52
                generalize ((((wz52.setCell ⟨Bz44, 0, none⟩ (.int .i64 k2)).setCell ⟨Bz44, 1, none⟩ (.int .i64 n2)).setCell ⟨Bz44, 2, none⟩ (.bool x2)).setCell ⟨Bz44, 3, none⟩ (.slice oa2 L2 oc2)) = wz53 at *
                refine wpAnyH_done (by kernel_rfl) ?_ _
                refine NoPanic.normal ?_
                go_wp2_with fail
                go_meet
                exact ⟨_, _, _, _, _, _, rfl, rfl, hz53, g5z53, g6z53, r1z53, r2z53⟩
              exact AllReadyH.nil
            exact AllReadyH.nil
          exact AllReadyH.nil
        exact AllReadyH.nil
      refine AllReadyH.cons (o := { dst := some 5, op := Op.alloc 26, type := 0, pos := "law.go:94", after := #[], guard := none }) rfl (fun K' hK => ?_) ?_
      ·
        have hz54 := Lib.hid (hz44.out.alloc hz44.out.size (.cells #[.int .i64 0, .int .i64 0, .bool false, .slice none 0 0] TPl))
        have g5z54 := Lib.hid (Blk.new wz44 TPl #[.int .i64 0, .int .i64 0, .bool false, .slice none 0 0])
        have lz54 : W0.heap.size ≤ wz44.heap.size := hz44.out.size
        have g6z54 := Lib.hid (g6z44.out.alloc (.cells #[.int .i64 0, .int .i64 0, .bool false, .slice none 0 0] TPl))
        have nz54 : Bz44 ≠ wz44.heap.size := Nat.ne_of_lt g6z44.out.lt
        go_simp
        refine hK.out _ _ (SOK.out _ hz54.out) (fun hHeld => ?_)
        clear hK K'
        try simp only [Act.put, List.setIfInBounds_toArray, List.set_cons_zero, List.set_cons_succ]
        clear hHeld
        clear hz44 g6z44
        generalize wz44.alloc (.cells #[.int .i64 0, .int .i64 0, .bool false, .slice none 0 0] TPl) = wz54 at *
        generalize wz44.heap.size = Bz54 at *
        refine wpAnyH_ready (rs := [1]) (by kernel_rfl) (by simp) ?_
        refine AllReadyH.cons (o := { dst := some 16, op := Op.call { callee := Callee.value (Operand.func 14), args := #[Operand.tmp 15], argTypes := #[33] }, type := 26, pos := "law.go:94", after := #[{ on := 0, ground := Ground.data }], guard := none }) rfl (fun K' hK => ?_) ?_
        ·
          go_simp
          refine (HOFa.out _ hz54.out).mono ?_
          rintro e wz55 ⟨oa1, oc1, rfl, hrr, hbz⟩
          have hz55 := belP hz54 hbz
          have g5z55 := blkHP g5z54 hbz
          have g6z55 := blkHP g6z54 hbz
          have r1z55 := Lib.hid hrr
          refine hK.out _ _ (SOK.out _ hz55.out) (fun hHeld => ?_)
          clear hK K'
          try simp only [Act.put, List.setIfInBounds_toArray, List.set_cons_zero, List.set_cons_succ]
          clear hHeld
          clear hbz hrr hz54 g5z54 g6z54
          refine wpAnyH_ready (rs := [3]) (by kernel_rfl) (by simp) ?_
          refine AllReadyH.cons (o := { dst := some 18, op := Op.call { callee := Callee.value (Operand.func 14), args := #[Operand.tmp 17], argTypes := #[33] }, type := 26, pos := "law.go:94", after := #[{ on := 2, ground := Ground.data }, { on := 1, ground := Ground.chain }], guard := none }) rfl (fun K' hK => ?_) ?_
          ·
            go_simp
            refine (HOFb.out _ hz55.out).mono ?_
            rintro e wz56 ⟨oa2, oc2, rfl, hrr, hbz⟩
            have hz56 := belP hz55 hbz
            have g5z56 := blkHP g5z55 hbz
            have g6z56 := blkHP g6z55 hbz
            have r1z56 := Lib.hid (r1z55.out.below hbz)
            have r2z56 := Lib.hid hrr
            refine hK.out _ _ (SOK.out _ hz56.out) (fun hHeld => ?_)
            clear hK K'
            try simp only [Act.put, List.setIfInBounds_toArray, List.set_cons_zero, List.set_cons_succ]
            clear hHeld
            clear hbz hrr hz55 g5z55 g6z55 r1z55
            refine wpAnyH_ready (rs := [6]) (by kernel_rfl) (by simp) ?_
            refine AllReadyH.cons (o := { dst := none, op := Op.store 26 (Operand.tmp 5) (Operand.tmp 16), type := 0, pos := "law.go:94", after := #[{ on := 4, ground := Ground.data }, { on := 1, ground := Ground.data }, { on := 3, ground := Ground.chain }, { on := 0, ground := Ground.phase }, { on := 1, ground := Ground.phase }, { on := 2, ground := Ground.textOnly Departure.lateStores }, { on := 3, ground := Ground.textOnly Departure.lateStoresUnsure }, { on := 4, ground := Ground.phase }, { on := 5, ground := Ground.phase }], guard := none }) rfl (fun K' hK => ?_) ?_
            ·
              have z0 := g5z56.out.frozen 0
              have z1 := g5z56.out.frozen 1
              have z2 := g5z56.out.frozen 2
              have z3 := g5z56.out.frozen 3
              have y0 : wz56.cell? ⟨Bz54, 0, none⟩ = some (.int .i64 0) := g5z56.out.cell 0
              have y1 : wz56.cell? ⟨Bz54, 1, none⟩ = some (.int .i64 0) := g5z56.out.cell 1
              have y2 : wz56.cell? ⟨Bz54, 2, none⟩ = some (.bool false) := g5z56.out.cell 2
              have y3 : wz56.cell? ⟨Bz54, 3, none⟩ = some (.slice none 0 0) := g5z56.out.cell 3
              have hz57 : Hid (Below W0.heap.size W0 ((((wz56.setCell ⟨Bz54, 0, none⟩ (.int .i64 k)).setCell ⟨Bz54, 1, none⟩ (.int .i64 n)).setCell ⟨Bz54, 2, none⟩ (.bool x)).setCell ⟨Bz54, 3, none⟩ (.slice oa1 L1 oc1))) := ((((hz56.out.setCell (p := ⟨Bz54, 0, none⟩) lz54 _).setCell (p := ⟨Bz54, 1, none⟩) lz54 _).setCell (p := ⟨Bz54, 2, none⟩) lz54 _).setCell (p := ⟨Bz54, 3, none⟩) lz54 _)
              have g5z57 : Hid (Blk ((((wz56.setCell ⟨Bz54, 0, none⟩ (.int .i64 k)).setCell ⟨Bz54, 1, none⟩ (.int .i64 n)).setCell ⟨Bz54, 2, none⟩ (.bool x)).setCell ⟨Bz54, 3, none⟩ (.slice oa1 L1 oc1)) Bz54 TPl #[.int .i64 k, .int .i64 n, .bool x, .slice oa1 L1 oc1]) := ((((g5z56.out.set 0 (.int .i64 k)).set 1 (.int .i64 n)).set 2 (.bool x)).set 3 (.slice oa1 L1 oc1))
              have g6z57 := Lib.hid ((((g6z56.out.other nz54 0 (.int .i64 k)).other nz54 1 (.int .i64 n)).other nz54 2 (.bool x)).other nz54 3 (.slice oa1 L1 oc1))
              have r1z57 : Hid (RulesR TRl TCd W0.heap.size ((((wz56.setCell ⟨Bz54, 0, none⟩ (.int .i64 k)).setCell ⟨Bz54, 1, none⟩ (.int .i64 n)).setCell ⟨Bz54, 2, none⟩ (.bool x)).setCell ⟨Bz54, 3, none⟩ (.slice oa1 L1 oc1)) (.slice oa1 L1 oc1) rs) := ((((r1z56.out.setG (g := Bz54) (j := 0) (u := .int .i64 k) g5z56.out (by decide) (by decide)).setG (g := Bz54) (j := 1) (u := .int .i64 n) (g5z56.out.set 0 (.int .i64 k)) (by decide) (by decide)).setG (g := Bz54) (j := 2) (u := .bool x) ((g5z56.out.set 0 (.int .i64 k)).set 1 (.int .i64 n)) (by decide) (by decide)).setG (g := Bz54) (j := 3) (u := .slice oa1 L1 oc1) (((g5z56.out.set 0 (.int .i64 k)).set 1 (.int .i64 n)).set 2 (.bool x)) (by decide) (by decide))
              have r2z57 : Hid (RulesR TRl TCd W0.heap.size ((((wz56.setCell ⟨Bz54, 0, none⟩ (.int .i64 k)).setCell ⟨Bz54, 1, none⟩ (.int .i64 n)).setCell ⟨Bz54, 2, none⟩ (.bool x)).setCell ⟨Bz54, 3, none⟩ (.slice oa1 L1 oc1)) (.slice oa2 L2 oc2) ss) := ((((r2z56.out.setG (g := Bz54) (j := 0) (u := .int .i64 k) g5z56.out (by decide) (by decide)).setG (g := Bz54) (j := 1) (u := .int .i64 n) (g5z56.out.set 0 (.int .i64 k)) (by decide) (by decide)).setG (g := Bz54) (j := 2) (u := .bool x) ((g5z56.out.set 0 (.int .i64 k)).set 1 (.int .i64 n)) (by decide) (by decide)).setG (g := Bz54) (j := 3) (u := .slice oa1 L1 oc1) (((g5z56.out.set 0 (.int .i64 k)).set 1 (.int .i64 n)).set 2 (.bool x)) (by decide) (by decide))
              go_simp
              refine hK.out _ _ (SOK.out _ hz57.out) (fun hHeld => ?_)
              clear hK K'
              try simp only [Act.put, List.setIfInBounds_toArray, List.set_cons_zero, List.set_cons_succ]
              clear hHeld
              clear z0 z1 z2 z3 y0 y1 y2 y3 hz56 g5z56 g6z56 r1z56 r2z56
              generalize ((((wz56.setCell ⟨Bz54, 0, none⟩ (.int .i64 k)).setCell ⟨Bz54, 1, none⟩ (.int .i64 n)).setCell ⟨Bz54, 2, none⟩ (.bool x)).setCell ⟨Bz54, 3, none⟩ (.slice oa1 L1 oc1)) = wz57 at *
              refine wpAnyH_ready (rs := [7]) (by kernel_rfl) (by simp) ?_
              refine AllReadyH.cons (o := { dst := none, op := Op.store 26 (Operand.tmp 6) (Operand.tmp 18), type := 0, pos := "law.go:94", after := #[{ on := 5, ground := Ground.data }, { on := 3, ground := Ground.data }, { on := 6, ground := Ground.chain }, { on := 0, ground := Ground.phase }, { on := 1, ground := Ground.phase }, { on := 2, ground := Ground.phase }, { on := 3, ground := Ground.phase }, { on := 4, ground := Ground.phase }, { on := 5, ground := Ground.phase }, { on := 6, ground := Ground.phase }], guard := none }) rfl (fun K' hK => ?_) ?_
              ·
                have z0 := g6z57.out.frozen 0
                have z1 := g6z57.out.frozen 1
                have z2 := g6z57.out.frozen 2
                have z3 := g6z57.out.frozen 3
                have y0 : wz57.cell? ⟨Bz44, 0, none⟩ = some (.int .i64 0) := g6z57.out.cell 0
                have y1 : wz57.cell? ⟨Bz44, 1, none⟩ = some (.int .i64 0) := g6z57.out.cell 1
                have y2 : wz57.cell? ⟨Bz44, 2, none⟩ = some (.bool false) := g6z57.out.cell 2
                have y3 : wz57.cell? ⟨Bz44, 3, none⟩ = some (.slice none 0 0) := g6z57.out.cell 3
                have hz58 : Hid (Below W0.heap.size W0 ((((wz57.setCell ⟨Bz44, 0, none⟩ (.int .i64 k2)).setCell ⟨Bz44, 1, none⟩ (.int .i64 n2)).setCell ⟨Bz44, 2, none⟩ (.bool x2)).setCell ⟨Bz44, 3, none⟩ (.slice oa2 L2 oc2))) := ((((hz57.out.setCell (p := ⟨Bz44, 0, none⟩) lz44 _).setCell (p := ⟨Bz44, 1, none⟩) lz44 _).setCell (p := ⟨Bz44, 2, none⟩) lz44 _).setCell (p := ⟨Bz44, 3, none⟩) lz44 _)
                have g6z58 : Hid (Blk ((((wz57.setCell ⟨Bz44, 0, none⟩ (.int .i64 k2)).setCell ⟨Bz44, 1, none⟩ (.int .i64 n2)).setCell ⟨Bz44, 2, none⟩ (.bool x2)).setCell ⟨Bz44, 3, none⟩ (.slice oa2 L2 oc2)) Bz44 TPl #[.int .i64 k2, .int .i64 n2, .bool x2, .slice oa2 L2 oc2]) := ((((g6z57.out.set 0 (.int .i64 k2)).set 1 (.int .i64 n2)).set 2 (.bool x2)).set 3 (.slice oa2 L2 oc2))
                have g5z58 := Lib.hid ((((g5z57.out.other (Ne.symm nz54) 0 (.int .i64 k2)).other (Ne.symm nz54) 1 (.int .i64 n2)).other (Ne.symm nz54) 2 (.bool x2)).other (Ne.symm nz54) 3 (.slice oa2 L2 oc2))
                have r1z58 : Hid (RulesR TRl TCd W0.heap.size ((((wz57.setCell ⟨Bz44, 0, none⟩ (.int .i64 k2)).setCell ⟨Bz44, 1, none⟩ (.int .i64 n2)).setCell ⟨Bz44, 2, none⟩ (.bool x2)).setCell ⟨Bz44, 3, none⟩ (.slice oa2 L2 oc2)) (.slice oa1 L1 oc1) rs) := ((((r1z57.out.setG (g := Bz44) (j := 0) (u := .int .i64 k2) g6z57.out (by decide) (by decide)).setG (g := Bz44) (j := 1) (u := .int .i64 n2) (g6z57.out.set 0 (.int .i64 k2)) (by decide) (by decide)).setG (g := Bz44) (j := 2) (u := .bool x2) ((g6z57.out.set 0 (.int .i64 k2)).set 1 (.int .i64 n2)) (by decide) (by decide)).setG (g := Bz44) (j := 3) (u := .slice oa2 L2 oc2) (((g6z57.out.set 0 (.int .i64 k2)).set 1 (.int .i64 n2)).set 2 (.bool x2)) (by decide) (by decide))
                have r2z58 : Hid (RulesR TRl TCd W0.heap.size ((((wz57.setCell ⟨Bz44, 0, none⟩ (.int .i64 k2)).setCell ⟨Bz44, 1, none⟩ (.int .i64 n2)).setCell ⟨Bz44, 2, none⟩ (.bool x2)).setCell ⟨Bz44, 3, none⟩ (.slice oa2 L2 oc2)) (.slice oa2 L2 oc2) ss) := ((((r2z57.out.setG (g := Bz44) (j := 0) (u := .int .i64 k2) g6z57.out (by decide) (by decide)).setG (g := Bz44) (j := 1) (u := .int .i64 n2) (g6z57.out.set 0 (.int .i64 k2)) (by decide) (by decide)).setG (g := Bz44) (j := 2) (u := .bool x2) ((g6z57.out.set 0 (.int .i64 k2)).set 1 (.int .i64 n2)) (by decide) (by decide)).setG (g := Bz44) (j := 3) (u := .slice oa2 L2 oc2) (((g6z57.out.set 0 (.int .i64 k2)).set 1 (.int .i64 n2)).set 2 (.bool x2)) (by decide) (by decide))
                go_simp
                refine hK.out _ _ (SOK.out _ hz58.out) (fun hHeld => ?_)
                clear hK K'
                try simp only [Act.put, List.setIfInBounds_toArray, List.set_cons_zero, List.set_cons_succ]
                clear hHeld
                clear z0 z1 z2 z3 y0 y1 y2 y3 hz57 g5z57 g6z57 r1z57 r2z57
                generalize ((((wz57.setCell ⟨Bz44, 0, none⟩ (.int .i64 k2)).setCell ⟨Bz44, 1, none⟩ (.int .i64 n2)).setCell ⟨Bz44, 2, none⟩ (.bool x2)).setCell ⟨Bz44, 3, none⟩ (.slice oa2 L2 oc2)) = wz58 at *
                refine wpAnyH_done (by kernel_rfl) ?_ _
                refine NoPanic.normal ?_
                go_wp2_with fail
                go_meet
                exact ⟨_, _, _, _, _, _, rfl, rfl, hz58, g5z58, g6z58, r1z58, r2z58⟩
              exact AllReadyH.nil
            exact AllReadyH.nil
          exact AllReadyH.nil
        exact AllReadyH.nil
      exact AllReadyH.nil
    exact AllReadyH.nil
  case rest =>
    obtain ⟨B5, B6, oa1, oa2, oc1, oc2, rfl, rfl, HBw, HA, HBk, HRA, HRB⟩ := hcut
    have HBc : Hid (Below w.heap.size w wc) := HB2.out.trans (HBw.out.mono HB2.out.size)
    have HRA' := Lib.hid (HRA.out.lo HN0.out)
    have HRB' := Lib.hid (HRB.out.lo HN0.out)
    have HS1 := Lib.hid (fun W h => HS1'.out wc W _ _ _ _ h HRA'.out HRB'.out)
    have HS2 := Lib.hid (fun W h => HS2'.out wc W _ _ _ _ h HRA'.out HRB'.out)
    have HS3 := Lib.hid (fun W oa' oc' h hr => HS3'.out wc W _ oa' _ oc' W0.heap.size h HRA'.out hr)
    have HT := Lib.hid (fun W h => HT'.out wc W _ _ HBc.out h HRA'.out)
    have HOF : Hid (∀ W, Below wc.heap.size wc W → Calls Tryz.prog 14 #[.agg #[.int .i64 k, .int .i64 n, .bool x, .slice a1 L1 c1]] W fun e w' => ∃ a c, e = .returned (.agg #[.int .i64 k, .int .i64 n, .bool x, .slice a L1 c]) ∧ RulesR TRl TCd W0.heap.size w' (.slice a L1 c) rs ∧ Below W.heap.size W w') := fun W h => HOFa.out W (HBw.out.trans (h.mono HBw.out.size))
    have SOK4 : Hid (∀ w', Below wc.heap.size wc w' → (w'.cell? ⟨B5, 0, none⟩ = some (.int .i64 k) ∧ w'.cell? ⟨B5, 1, none⟩ = some (.int .i64 n) ∧ w'.cell? ⟨B5, 2, none⟩ = some (.bool x) ∧ w'.cell? ⟨B5, 3, none⟩ = some (.slice oa1 L1 oc1) ∧ w'.cell? ⟨B6, 0, none⟩ = some (.int .i64 k2) ∧ w'.cell? ⟨B6, 1, none⟩ = some (.int .i64 n2) ∧ w'.cell? ⟨B6, 2, none⟩ = some (.bool x2) ∧ w'.cell? ⟨B6, 3, none⟩ = some (.slice oa2 L2 oc2) ∧ w'.cell? ⟨w.heap.size, 0, none⟩ = some (.int .i64 k) ∧ w'.cell? ⟨w.heap.size, 1, none⟩ = some (.int .i64 n) ∧ w'.cell? ⟨w.heap.size, 2, none⟩ = some (.bool x) ∧ w'.cell? ⟨w.heap.size, 3, none⟩ = some (.slice a1 L1 c1) ∧ w'.cell? ⟨YB, 0, none⟩ = some (.int .i64 k2) ∧ w'.cell? ⟨YB, 1, none⟩ = some (.int .i64 n2) ∧ w'.cell? ⟨YB, 2, none⟩ = some (.bool x2) ∧ w'.cell? ⟨YB, 3, none⟩ = some (.slice a2 L2 c2))) := fun w' hb => ⟨(HA.out.below hb HA.out.lt).cell 0, (HA.out.below hb HA.out.lt).cell 1, (HA.out.below hb HA.out.lt).cell 2, (HA.out.below hb HA.out.lt).cell 3, (HBk.out.below hb HBk.out.lt).cell 0, (HBk.out.below hb HBk.out.lt).cell 1, (HBk.out.below hb HBk.out.lt).cell 2, (HBk.out.below hb HBk.out.lt).cell 3, SOK.out _ (HBw.out.trans (hb.mono HBw.out.size))⟩
    clear HB2 HX2 HY2 HN0 HOFa HOFb SOK HBw HA HBk HRA HRB HRA' HRB' HS1' HS2' HS3' HT'
    go_upto_region 4 with fail
    refine wp_region_noPanic ?_
    refine wp_region_held_drew (S := fun w' => w'.cell? ⟨B5, 0, none⟩ = some (.int .i64 k) ∧ w'.cell? ⟨B5, 1, none⟩ = some (.int .i64 n) ∧ w'.cell? ⟨B5, 2, none⟩ = some (.bool x) ∧ w'.cell? ⟨B5, 3, none⟩ = some (.slice oa1 L1 oc1) ∧ w'.cell? ⟨B6, 0, none⟩ = some (.int .i64 k2) ∧ w'.cell? ⟨B6, 1, none⟩ = some (.int .i64 n2) ∧ w'.cell? ⟨B6, 2, none⟩ = some (.bool x2) ∧ w'.cell? ⟨B6, 3, none⟩ = some (.slice oa2 L2 oc2) ∧ w'.cell? ⟨w.heap.size, 0, none⟩ = some (.int .i64 k) ∧ w'.cell? ⟨w.heap.size, 1, none⟩ = some (.int .i64 n) ∧ w'.cell? ⟨w.heap.size, 2, none⟩ = some (.bool x) ∧ w'.cell? ⟨w.heap.size, 3, none⟩ = some (.slice a1 L1 c1) ∧ w'.cell? ⟨YB, 0, none⟩ = some (.int .i64 k2) ∧ w'.cell? ⟨YB, 1, none⟩ = some (.int .i64 n2) ∧ w'.cell? ⟨YB, 2, none⟩ = some (.bool x2) ∧ w'.cell? ⟨YB, 3, none⟩ = some (.slice a2 L2 c2)) (by kernel_rfl) (by first | exact SOK4.out _ (Below.refl _ wc).drew) (fun hHeld => ?_)
    have hq0 := Lib.hid ((Below.refl wc.heap.size wc).drew)
    refine wpAnyH_take (i := 0) (oi := { dst := some 19, op := Op.load 26 (Operand.tmp 5), type := 26, pos := "law.go:95", after := #[], guard := none }) (v := ?vq0) rfl (by kernel_rfl) (by kernel_rfl) (by kernel_rfl) (fun _ _ _ h => h) (Or.inl ⟨by rfl, ?hyq0⟩) (by assumption) ?restq0
    case hyq0 =>
      intro w hSw
      try dsimp only at hSw
      try obtain ⟨hSw, hSw2⟩ := hSw
      try go_split_ands
      go_simp
      try with_reducible rfl
    try simp only [Act.put, List.setIfInBounds_toArray, List.set_cons_zero, List.set_cons_succ]
    refine wpAnyH_take (i := 1) (oi := { dst := some 20, op := Op.load 26 (Operand.tmp 6), type := 26, pos := "law.go:95", after := #[], guard := none }) (v := ?vq1) rfl (by kernel_rfl) (by kernel_rfl) (by kernel_rfl) (fun _ _ _ h => h) (Or.inl ⟨by rfl, ?hyq1⟩) (by assumption) ?restq1
    case hyq1 =>
      intro w hSw
      try dsimp only at hSw
      try obtain ⟨hSw, hSw2⟩ := hSw
      try go_split_ands
      go_simp
      try with_reducible rfl
    try simp only [Act.put, List.setIfInBounds_toArray, List.set_cons_zero, List.set_cons_succ]
    refine wpAnyH_take (i := 3) (oi := { dst := some 22, op := Op.load 26 (Operand.tmp 5), type := 26, pos := "law.go:95", after := #[], guard := none }) (v := ?vq3) rfl (by kernel_rfl) (by kernel_rfl) (by kernel_rfl) (fun _ _ _ h => h) (Or.inl ⟨by rfl, ?hyq3⟩) (by assumption) ?restq3
    case hyq3 =>
      intro w hSw
      try dsimp only at hSw
      try obtain ⟨hSw, hSw2⟩ := hSw
      try go_split_ands
      go_simp
      try with_reducible rfl
    try simp only [Act.put, List.setIfInBounds_toArray, List.set_cons_zero, List.set_cons_succ]
    refine wpAnyH_take (i := 4) (oi := { dst := some 23, op := Op.load 33 (Operand.tmp 3), type := 33, pos := "law.go:95", after := #[], guard := none }) (v := ?vq4) rfl (by kernel_rfl) (by kernel_rfl) (by kernel_rfl) (fun _ _ _ h => h) (Or.inl ⟨by rfl, ?hyq4⟩) (by assumption) ?restq4
    case hyq4 =>
      intro w hSw
      try dsimp only at hSw
      try obtain ⟨hSw, hSw2⟩ := hSw
      try go_split_ands
      go_simp
      try with_reducible rfl
    try simp only [Act.put, List.setIfInBounds_toArray, List.set_cons_zero, List.set_cons_succ]
    refine wpAnyH_ready (rs := [2]) (by kernel_rfl) (by simp) ?_
    refine AllReadyH.cons (o := { dst := some 21, op := Op.call { callee := Callee.value (Operand.func 15), args := #[Operand.tmp 19, Operand.tmp 20], argTypes := #[26, 26] }, type := 4, pos := "law.go:95", after := #[{ on := 0, ground := Ground.data }, { on := 1, ground := Ground.data }], guard := none }) rfl (fun K' hK => ?_) AllReadyH.nil
    go_simp
    refine (HS1.out _ hq0.out).mono ?_
    rintro e wq1 ⟨rfl, hbz⟩
    have hq1 := belP hq0 hbz
    clear hHeld
    refine hK.out _ _ (SOK4.out _ hq1.out) (fun hHeld => ?_)
    clear hK K' hbz hq0
    try simp only [Act.put, List.setIfInBounds_toArray, List.set_cons_zero, List.set_cons_succ]
    refine wpAnyH_ready (rs := [5]) (by kernel_rfl) (by simp) ?_
    refine AllReadyH.cons (o := { dst := some 24, op := Op.call { callee := Callee.value (Operand.func 11), args := #[Operand.tmp 22, Operand.tmp 23], argTypes := #[26, 33] }, type := 4, pos := "law.go:95", after := #[{ on := 3, ground := Ground.data }, { on := 4, ground := Ground.data }, { on := 2, ground := Ground.chain }], guard := none }) rfl (fun K' hK => ?_) AllReadyH.nil
    go_simp
    refine (HT.out _ hq1.out).mono ?_
    rintro e wq2 ⟨rfl, hbz⟩
    have hq2 := belP hq1 hbz
    clear hHeld
    refine hK.out _ _ (SOK4.out _ hq2.out) (fun hHeld => ?_)
    clear hK K' hbz hq1
    try simp only [Act.put, List.setIfInBounds_toArray, List.set_cons_zero, List.set_cons_succ]
    refine wpAnyH_take (i := 6) (oi := { dst := some 25, op := Op.binOp BinOp.eql 4 (Operand.tmp 21) (Operand.tmp 24) 4, type := 4, pos := "law.go:95", after := #[{ on := 2, ground := Ground.data }, { on := 5, ground := Ground.data }], guard := none }) (v := (.bool true)) rfl (by kernel_rfl) (by kernel_rfl) (by kernel_rfl) (fun _ _ _ h => h) (Or.inl ⟨by rfl, ?hyq6⟩) (by assumption) ?restq6
    case hyq6 =>
      intro w hSw
      try dsimp only at hSw
      try obtain ⟨hSw, hSw2⟩ := hSw
      try go_split_ands
      go_simp
      try with_reducible rfl
      try omega
    try simp only [Act.put, List.setIfInBounds_toArray, List.set_cons_zero, List.set_cons_succ]
    refine wpAnyH_take (i := 7) (oi := { dst := some 26, op := Op.move (Operand.tmp 25), type := 4, pos := "law.go:95", after := #[{ on := 6, ground := Ground.data }, { on := 5, ground := Ground.chain }], guard := none }) (v := ?vq7) rfl (by kernel_rfl) (by kernel_rfl) (by kernel_rfl) (fun _ _ _ h => h) (Or.inl ⟨by rfl, ?hyq7⟩) (by assumption) ?restq7
    case hyq7 =>
      intro w hSw
      try dsimp only at hSw
      try obtain ⟨hSw, hSw2⟩ := hSw
      try go_split_ands
      go_simp
      try with_reducible rfl
    try simp only [Act.put, List.setIfInBounds_toArray, List.set_cons_zero, List.set_cons_succ]
    refine wpAnyH_take (i := 8) (oi := { dst := some 27, op := Op.load 26 (Operand.tmp 6), type := 26, pos := "law.go:95", after := #[{ on := 7, ground := Ground.guard }], guard := some (7, true) }) (v := ?vq8) rfl (by kernel_rfl) (by kernel_rfl) (by kernel_rfl) (fun _ _ _ h => h) (Or.inl ⟨by rfl, ?hyq8⟩) (by assumption) ?restq8
    case hyq8 =>
      intro w hSw
      try dsimp only at hSw
      try obtain ⟨hSw, hSw2⟩ := hSw
      try go_split_ands
      go_simp
      try with_reducible rfl
    try simp only [Act.put, List.setIfInBounds_toArray, List.set_cons_zero, List.set_cons_succ]
    refine wpAnyH_take (i := 9) (oi := { dst := some 28, op := Op.load 26 (Operand.tmp 5), type := 26, pos := "law.go:95", after := #[{ on := 7, ground := Ground.guard }], guard := some (7, true) }) (v := ?vq9) rfl (by kernel_rfl) (by kernel_rfl) (by kernel_rfl) (fun _ _ _ h => h) (Or.inl ⟨by rfl, ?hyq9⟩) (by assumption) ?restq9
    case hyq9 =>
      intro w hSw
      try dsimp only at hSw
      try obtain ⟨hSw, hSw2⟩ := hSw
      try go_split_ands
      go_simp
      try with_reducible rfl
    try simp only [Act.put, List.setIfInBounds_toArray, List.set_cons_zero, List.set_cons_succ]
    refine wpAnyH_take (i := 11) (oi := { dst := some 30, op := Op.load 26 (Operand.tmp 5), type := 26, pos := "law.go:95", after := #[{ on := 7, ground := Ground.guard }], guard := some (7, true) }) (v := ?vq11) rfl (by kernel_rfl) (by kernel_rfl) (by kernel_rfl) (fun _ _ _ h => h) (Or.inl ⟨by rfl, ?hyq11⟩) (by assumption) ?restq11
    case hyq11 =>
      intro w hSw
      try dsimp only at hSw
      try obtain ⟨hSw, hSw2⟩ := hSw
      try go_split_ands
      go_simp
      try with_reducible rfl
    try simp only [Act.put, List.setIfInBounds_toArray, List.set_cons_zero, List.set_cons_succ]
    refine wpAnyH_take (i := 12) (oi := { dst := some 31, op := Op.load 26 (Operand.tmp 6), type := 26, pos := "law.go:95", after := #[{ on := 7, ground := Ground.guard }], guard := some (7, true) }) (v := ?vq12) rfl (by kernel_rfl) (by kernel_rfl) (by kernel_rfl) (fun _ _ _ h => h) (Or.inl ⟨by rfl, ?hyq12⟩) (by assumption) ?restq12
    case hyq12 =>
      intro w hSw
      try dsimp only at hSw
      try obtain ⟨hSw, hSw2⟩ := hSw
      try go_split_ands
      go_simp
      try with_reducible rfl
    try simp only [Act.put, List.setIfInBounds_toArray, List.set_cons_zero, List.set_cons_succ]
    refine wpAnyH_ready (rs := [10]) (by kernel_rfl) (by simp) ?_
    refine AllReadyH.cons (o := { dst := some 29, op := Op.call { callee := Callee.value (Operand.func 15), args := #[Operand.tmp 27, Operand.tmp 28], argTypes := #[26, 26] }, type := 4, pos := "law.go:95", after := #[{ on := 8, ground := Ground.data }, { on := 9, ground := Ground.data }, { on := 7, ground := Ground.chain }, { on := 7, ground := Ground.guard }], guard := some (7, true) }) rfl (fun K' hK => ?_) AllReadyH.nil
    go_simp
    refine (HS2.out _ hq2.out).mono ?_
    rintro e wq3 ⟨rfl, hbz⟩
    have hq3 := belP hq2 hbz
    clear hHeld
    refine hK.out _ _ (SOK4.out _ hq3.out) (fun hHeld => ?_)
    clear hK K' hbz hq2
    try simp only [Act.put, List.setIfInBounds_toArray, List.set_cons_zero, List.set_cons_succ]
    refine wpAnyH_ready (rs := [13]) (by kernel_rfl) (by simp) ?_
    refine AllReadyH.cons (o := { dst := some 32, op := Op.call { callee := Callee.value (Operand.func 15), args := #[Operand.tmp 30, Operand.tmp 31], argTypes := #[26, 26] }, type := 4, pos := "law.go:95", after := #[{ on := 11, ground := Ground.data }, { on := 12, ground := Ground.data }, { on := 10, ground := Ground.chain }, { on := 7, ground := Ground.guard }], guard := some (7, true) }) rfl (fun K' hK => ?_) AllReadyH.nil
    go_simp
    refine (HS1.out _ hq3.out).mono ?_
    rintro e wq4 ⟨rfl, hbz⟩
    have hq4 := belP hq3 hbz
    clear hHeld
    refine hK.out _ _ (SOK4.out _ hq4.out) (fun hHeld => ?_)
    clear hK K' hbz hq3
    try simp only [Act.put, List.setIfInBounds_toArray, List.set_cons_zero, List.set_cons_succ]
    refine wpAnyH_take (i := 14) (oi := { dst := some 33, op := Op.binOp BinOp.eql 4 (Operand.tmp 29) (Operand.tmp 32) 4, type := 4, pos := "law.go:95", after := #[{ on := 10, ground := Ground.data }, { on := 13, ground := Ground.data }, { on := 7, ground := Ground.guard }], guard := some (7, true) }) (v := (.bool true)) rfl (by kernel_rfl) (by kernel_rfl) (by kernel_rfl) (fun _ _ _ h => h) (Or.inl ⟨by rfl, ?hyq14⟩) (by assumption) ?restq14
    case hyq14 =>
      intro w hSw
      try dsimp only at hSw
      try obtain ⟨hSw, hSw2⟩ := hSw
      try go_split_ands
      go_simp
      try with_reducible rfl
      try omega
    try simp only [Act.put, List.setIfInBounds_toArray, List.set_cons_zero, List.set_cons_succ]
    refine wpAnyH_take (i := 15) (oi := { dst := some 34, op := Op.pick (Operand.tmp 26) (Operand.tmp 33) (Operand.const (Value.bool false)), type := 4, pos := "law.go:95", after := #[{ on := 7, ground := Ground.data }, { on := 14, ground := Ground.data }], guard := none }) (v := ?vq15) rfl (by kernel_rfl) (by kernel_rfl) (by kernel_rfl) (fun _ _ _ h => h) (Or.inl ⟨by rfl, ?hyq15⟩) (by assumption) ?restq15
    case hyq15 =>
      intro w hSw
      try dsimp only at hSw
      try obtain ⟨hSw, hSw2⟩ := hSw
      try go_split_ands
      go_simp
      try with_reducible rfl
    try simp only [Act.put, List.setIfInBounds_toArray, List.set_cons_zero, List.set_cons_succ]
    refine wpAnyH_take (i := 16) (oi := { dst := some 35, op := Op.move (Operand.tmp 34), type := 4, pos := "law.go:95", after := #[{ on := 15, ground := Ground.data }, { on := 13, ground := Ground.chain }], guard := none }) (v := ?vq16) rfl (by kernel_rfl) (by kernel_rfl) (by kernel_rfl) (fun _ _ _ h => h) (Or.inl ⟨by rfl, ?hyq16⟩) (by assumption) ?restq16
    case hyq16 =>
      intro w hSw
      try dsimp only at hSw
      try obtain ⟨hSw, hSw2⟩ := hSw
      try go_split_ands
      go_simp
      try with_reducible rfl
    try simp only [Act.put, List.setIfInBounds_toArray, List.set_cons_zero, List.set_cons_succ]
    refine wpAnyH_take (i := 17) (oi := { dst := some 36, op := Op.load 26 (Operand.tmp 5), type := 26, pos := "law.go:95", after := #[{ on := 16, ground := Ground.guard }], guard := some (16, true) }) (v := ?vq17) rfl (by kernel_rfl) (by kernel_rfl) (by kernel_rfl) (fun _ _ _ h => h) (Or.inl ⟨by rfl, ?hyq17⟩) (by assumption) ?restq17
    case hyq17 =>
      intro w hSw
      try dsimp only at hSw
      try obtain ⟨hSw, hSw2⟩ := hSw
      try go_split_ands
      go_simp
      try with_reducible rfl
    try simp only [Act.put, List.setIfInBounds_toArray, List.set_cons_zero, List.set_cons_succ]
    refine wpAnyH_take (i := 18) (oi := { dst := some 37, op := Op.load 33 (Operand.tmp 2), type := 33, pos := "law.go:95", after := #[{ on := 16, ground := Ground.guard }], guard := some (16, true) }) (v := ?vq18) rfl (by kernel_rfl) (by kernel_rfl) (by kernel_rfl) (fun _ _ _ h => h) (Or.inl ⟨by rfl, ?hyq18⟩) (by assumption) ?restq18
    case hyq18 =>
      intro w hSw
      try dsimp only at hSw
      try obtain ⟨hSw, hSw2⟩ := hSw
      try go_split_ands
      go_simp
      try with_reducible rfl
    try simp only [Act.put, List.setIfInBounds_toArray, List.set_cons_zero, List.set_cons_succ]
    refine wpAnyH_ready (rs := [19]) (by kernel_rfl) (by simp) ?_
    refine AllReadyH.cons (o := { dst := some 38, op := Op.call { callee := Callee.value (Operand.func 14), args := #[Operand.tmp 37], argTypes := #[33] }, type := 26, pos := "law.go:95", after := #[{ on := 18, ground := Ground.data }, { on := 16, ground := Ground.chain }, { on := 16, ground := Ground.guard }], guard := some (16, true) }) rfl (fun K' hK => ?_) AllReadyH.nil
    go_simp
    refine (HOF.out _ hq4.out).mono ?_
    rintro e wq5 ⟨oa3, oc3, rfl, hrr, hbz⟩
    have hq5 := belP hq4 hbz
    have HR3 := Lib.hid hrr
    clear hrr
    clear hHeld
    refine hK.out _ _ (SOK4.out _ hq5.out) (fun hHeld => ?_)
    clear hK K' hbz hq4
    try simp only [Act.put, List.setIfInBounds_toArray, List.set_cons_zero, List.set_cons_succ]
    refine wpAnyH_ready (rs := [20]) (by kernel_rfl) (by simp) ?_
    refine AllReadyH.cons (o := { dst := some 39, op := Op.call { callee := Callee.value (Operand.func 15), args := #[Operand.tmp 36, Operand.tmp 38], argTypes := #[26, 26] }, type := 4, pos := "law.go:95", after := #[{ on := 17, ground := Ground.data }, { on := 19, ground := Ground.data }, { on := 19, ground := Ground.chain }, { on := 16, ground := Ground.guard }], guard := some (16, true) }) rfl (fun K' hK => ?_) AllReadyH.nil
    go_simp
    refine (HS3.out _ _ _ hq5.out HR3.out).mono ?_
    rintro e wq6 ⟨rfl, hbz⟩
    have hq6 := belP hq5 hbz
    clear hHeld
    refine hK.out _ _ (SOK4.out _ hq6.out) (fun hHeld => ?_)
    clear hK K' hbz hq5
    try simp only [Act.put, List.setIfInBounds_toArray, List.set_cons_zero, List.set_cons_succ]
    refine wpAnyH_take (i := 21) (oi := { dst := some 40, op := Op.pick (Operand.tmp 35) (Operand.tmp 39) (Operand.const (Value.bool false)), type := 4, pos := "law.go:95", after := #[{ on := 16, ground := Ground.data }, { on := 20, ground := Ground.data }], guard := none }) (v := ?vq21) rfl (by kernel_rfl) (by kernel_rfl) (by kernel_rfl) (fun _ _ _ h => h) (Or.inl ⟨by rfl, ?hyq21⟩) (by assumption) ?restq21
    case hyq21 =>
      intro w hSw
      try dsimp only at hSw
      try obtain ⟨hSw, hSw2⟩ := hSw
      try go_split_ands
      go_simp
      try with_reducible rfl
    try simp only [Act.put, List.setIfInBounds_toArray, List.set_cons_zero, List.set_cons_succ]
    refine wpAnyH_take (i := 22) (oi := { dst := some 41, op := Op.move (Operand.tmp 40), type := 4, pos := "law.go:95", after := #[{ on := 21, ground := Ground.data }, { on := 20, ground := Ground.chain }], guard := none }) (v := ?vq22) rfl (by kernel_rfl) (by kernel_rfl) (by kernel_rfl) (fun _ _ _ h => h) (Or.inl ⟨by rfl, ?hyq22⟩) (by assumption) ?restq22
    case hyq22 =>
      intro w hSw
      try dsimp only at hSw
      try obtain ⟨hSw, hSw2⟩ := hSw
      try go_split_ands
      go_simp
      try with_reducible rfl
    try simp only [Act.put, List.setIfInBounds_toArray, List.set_cons_zero, List.set_cons_succ]
    refine wpAnyH_ready (rs := [23]) (by kernel_rfl) (by simp) ?_
    refine AllReadyH.cons (o := { dst := some 42, op := Op.call { callee := Callee.value (Operand.func 12), args := #[], argTypes := #[] }, type := 4, pos := "law.go:95", after := #[{ on := 22, ground := Ground.chain }, { on := 22, ground := Ground.guard }], guard := some (22, true) }) rfl (fun K' hK => ?_) AllReadyH.nil
    go_simp
    refine (HAW.out _ (HE.out.below (HBc.out.trans (hq6.out.mono HBc.out.size)))).mono ?_
    rintro e wq7 ⟨rfl, hbz⟩
    have hq7 := belP hq6 hbz
    clear hHeld
    refine hK.out _ _ (SOK4.out _ hq7.out) (fun hHeld => ?_)
    clear hK K' hbz hq6
    try simp only [Act.put, List.setIfInBounds_toArray, List.set_cons_zero, List.set_cons_succ]
    refine wpAnyH_take (i := 24) (oi := { dst := some 43, op := Op.pick (Operand.tmp 41) (Operand.tmp 42) (Operand.const (Value.bool false)), type := 4, pos := "law.go:95", after := #[{ on := 22, ground := Ground.data }, { on := 23, ground := Ground.data }], guard := none }) (v := ?vq24) rfl (by kernel_rfl) (by kernel_rfl) (by kernel_rfl) (fun _ _ _ h => h) (Or.inl ⟨by rfl, ?hyq24⟩) (by assumption) ?restq24
    case hyq24 =>
      intro w hSw
      try dsimp only at hSw
      try obtain ⟨hSw, hSw2⟩ := hSw
      try go_split_ands
      go_simp
      try with_reducible rfl
    try simp only [Act.put, List.setIfInBounds_toArray, List.set_cons_zero, List.set_cons_succ]
    refine wpAnyH_take (i := 25) (oi := { dst := some 4, op := Op.assign (Operand.tmp 43), type := 4, pos := "law.go:95", after := #[{ on := 24, ground := Ground.data }, { on := 23, ground := Ground.chain }, { on := 0, ground := Ground.phase }, { on := 1, ground := Ground.phase }, { on := 2, ground := Ground.phase }, { on := 3, ground := Ground.phase }, { on := 4, ground := Ground.phase }, { on := 5, ground := Ground.phase }, { on := 6, ground := Ground.phase }, { on := 7, ground := Ground.phase }, { on := 8, ground := Ground.phase }, { on := 9, ground := Ground.phase }, { on := 10, ground := Ground.phase }, { on := 11, ground := Ground.phase }, { on := 12, ground := Ground.phase }, { on := 13, ground := Ground.phase }, { on := 14, ground := Ground.phase }, { on := 15, ground := Ground.phase }, { on := 16, ground := Ground.phase }, { on := 17, ground := Ground.phase }, { on := 18, ground := Ground.phase }, { on := 19, ground := Ground.phase }, { on := 20, ground := Ground.phase }, { on := 21, ground := Ground.phase }, { on := 22, ground := Ground.phase }, { on := 23, ground := Ground.phase }, { on := 24, ground := Ground.phase }], guard := none }) (v := ?vq25) rfl (by kernel_rfl) (by kernel_rfl) (by kernel_rfl) (fun _ _ _ h => h) (Or.inl ⟨by rfl, ?hyq25⟩) (by assumption) ?restq25
    case hyq25 =>
      intro w hSw
      try dsimp only at hSw
      try obtain ⟨hSw, hSw2⟩ := hSw
      try go_split_ands
      go_simp
      try with_reducible rfl
    try simp only [Act.put, List.setIfInBounds_toArray, List.set_cons_zero, List.set_cons_succ]
    refine wpAnyH_done (by kernel_rfl) ?_ _
    refine NoPanic.normal ?_
    go_wp2
    go_ret
    exact ⟨rfl, HBc.out.trans (hq7.out.mono HBc.out.size)⟩

theorem polsame_law {p s : PSt} {v1 v2 : Value} (w : World) (hE : CondP.ErrV w) (h1 : RulesI w.heap.size w v1 p.rules) (h2 : RulesI w.heap.size w v2 s.rules) :
    Calls Tryz.prog 4 #[PolV p.k p.n p.x v1, PolV s.k s.n s.x v2] w fun e w' => e = .returned (.bool true) ∧ Below w.heap.size w w' := by
  obtain ⟨a1, c1, rfl, _⟩ := id h1
  obtain ⟨a2, c2, rfl, _⟩ := id h2
  by_cases hd : LightP p.rules ∧ LightP s.rules
  · exact polsame_light w hE h1 h2 hd.1 hd.2
  · exact polsame_dark w hE h1 h2 hd
end Go.Proofs.YtmjipkdejggbfaaGreatDoor
