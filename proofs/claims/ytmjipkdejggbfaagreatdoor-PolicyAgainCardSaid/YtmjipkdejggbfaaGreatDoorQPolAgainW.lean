/- strainerlaw14.PolicyAgain: the walk. -/
import Derived.Test.YtmjipkdejggbfaaGreatDoorQPolAgainP
import Derived.Test.YtmjipkdejggbfaaGreatDoorQPolBackW
namespace Go.Proofs.YtmjipkdejggbfaaGreatDoor
open Go Go.Proofs Go.RowKit

set_option maxRecDepth 100000 in
set_option maxHeartbeats 8000000 in
theorem polagain_law (t : ByteArray) (w : World) (hE : CondP.ErrV w) (hp : ActP.Pow10 w) :
    Calls Tryz.prog 8 #[.string t] w fun e w' => e = .returned (.bool true) ∧ Below w.heap.size w w' := by
  by_cases ht : 3000 < t.size
  · have hz : (3000 : Int) < (t.size : Int) := by omega
    go_enter Tryz.func8, Tryz.ntmps8
    go_wp2
    go_ret
    exact ⟨rfl, Below.refl _ _⟩
  have hz : ¬ (3000 : Int) < (t.size : Int) := by omega
  have hpp := fun W hW => parse_any t W hW
  obtain ⟨⟨p, m, er⟩, hans⟩ : ∃ a, polAns t = a := ⟨_, rfl⟩
  have hgood := polAns_good (by omega : t.size ≤ 3000) hans
  rw [hans] at hpp
  obtain ⟨L, hL⟩ : ∃ L, p.rules.length = L := ⟨_, rfl⟩
  have HPP : Hid (∀ W, CondP.ErrV W → Calls Tryz.prog 9 #[.string t] W fun e w' => ∃ a c, e = .returned (.tuple #[.agg #[.int .i64 p.k, .int .i64 p.n, .bool p.x, .slice a L c], .int .i64 m, .int .i64 er]) ∧ RulesR TRl TCd W.heap.size w' (.slice a L c) p.rules ∧ Below W.heap.size W w') := fun W hW => by
    refine (hpp W hW).mono ?_
    rintro e w' ⟨v, rfl, h, hb⟩
    obtain ⟨a, c, rfl⟩ := h.slice
    rw [← hL]
    exact ⟨a, c, rfl, h, hb⟩
  have HAW := Lib.hid (fun W hW => awake14_any W hW)
  have HE := Lib.hid hE
  have HP := Lib.hid hp
  by_cases he : er = 0
  case neg =>
    have heb : (er != 0) = true := by simpa using he
    generalize p.k = k at *
    generalize p.n = n at *
    generalize p.x = x at *
    clear hgood hans hpp hE hp
    go_enter Tryz.func8, Tryz.ntmps8
    go_wp2_with fail
    refine (HPP.out _ HE.out).mono ?_
    rintro e w1 ⟨a1, c1, rfl, hr1, hb1⟩
    have HB1 := Lib.hid (hb1.alloc hb1.size (.cells #[.int .i64 k, .int .i64 n, .bool x, .slice a1 L c1] TPl))
    clear hr1 hb1 HPP
    go_wp2_with fail
    refine (HAW.out _ (HE.out.below HB1.out)).mono ?_
    rintro e w2 ⟨rfl, hb2⟩
    have HB2 := belP HB1 hb2
    clear hb2 HB1 HAW
    go_wp2
    go_ret
    exact ⟨rfl, HB2.out⟩
  subst he
  obtain ⟨rfl, hok, hn, hfit⟩ := hgood rfl
  obtain ⟨hk1, hk2, hk3⟩ := polOk_parts hok
  have hsm : Small p := ⟨by omega, fun r hr => by
    obtain ⟨h1, _, h3, _⟩ := ruleOk_parts (hk3 r hr)
    have := (nameB_parts h1).1
    exact ⟨by omega, by omega⟩⟩
  have hfew : ∀ r ∈ p.rules, r.conds.length ≤ 1000000 := fun r hr => (hsm.2 r hr).2
  have hans2 := polAns_text hok hn hfit (toL (polTx p))
  have hpp2 := fun W hW => parse_any (⟨(polTx p).toArray⟩ : ByteArray) W hW
  rw [hans2] at hpp2
  have HPQ : Hid (∀ W, CondP.ErrV W → Calls Tryz.prog 9 #[.string ⟨(polTx p).toArray⟩] W fun e w' => ∃ a c, e = .returned (.tuple #[.agg #[.int .i64 p.k, .int .i64 p.n, .bool p.x, .slice a L c], .int .i64 0, .int .i64 0]) ∧ RulesR TRl TCd W.heap.size w' (.slice a L c) p.rules ∧ Below W.heap.size W w') := fun W hW => by
    refine (hpp2 W hW).mono ?_
    rintro e w' ⟨v, rfl, h, hb⟩
    obtain ⟨a, c, rfl⟩ := h.slice
    rw [← hL]
    exact ⟨a, c, rfl, h, hb⟩
  have hpv := printV_ok hok (by omega : ¬ 65536 < (polTx p).length)
  have HPR : Hid (∀ (W : World) (a : Option Addr) (c lo : Nat), ActP.Pow10 W → RulesR TRl TCd lo W (.slice a L c) p.rules → Calls Tryz.prog 16 #[.agg #[.int .i64 p.k, .int .i64 p.n, .bool p.x, .slice a L c]] W fun e w' => e = .returned (.tuple #[.string ⟨(polTx p).toArray⟩, .int .i64 0]) ∧ Below W.heap.size W w') := fun W a c lo hW hR => by
    rw [← hpv]
    exact print_any hsm hn W hW hR
  have HSM : Hid (∀ (W : World) (a a' : Option Addr) (c c' lo lo' : Nat), RulesR TRl TCd lo W (.slice a L c) p.rules → RulesR TRl TCd lo' W (.slice a' L c') p.rules → Calls Tryz.prog 15 #[.agg #[.int .i64 p.k, .int .i64 p.n, .bool p.x, .slice a L c], .agg #[.int .i64 p.k, .int .i64 p.n, .bool p.x, .slice a' L c']] W fun e w' => e = .returned (.bool true) ∧ Below W.heap.size W w') := fun W a a' c c' lo lo' h1 h2 =>
    (same_any (p := p) (s := p) hsm.1 hfew W h1 h2).mono (fun e w' ⟨b, h, hb, hbe⟩ => ⟨by rw [h, hb.2 rfl], hbe⟩)
  have HRT : Hid (∀ (W : World) (a : Option Addr) (c lo : Nat), RulesR TRl TCd lo W (.slice a L c) p.rules → Calls Tryz.prog 17 #[.agg #[.int .i64 p.k, .int .i64 p.n, .bool p.x, .slice a L c]] W fun e w' => e = .returned (.bool true) ∧ Below W.heap.size W w') := fun W a c lo h1 => by
    have := pright_any hsm W h1
    rw [hok] at this
    exact this
  generalize (⟨(polTx p).toArray⟩ : ByteArray) = T at *
  generalize p.k = k at *
  generalize p.n = n at *
  generalize p.x = x at *
  clear hgood hans hpp hE hp hok hn hfit hk1 hk2 hk3 hsm hfew hans2 hpp2 hpv hL
  go_enter Tryz.func8, Tryz.ntmps8
  go_wp2_with fail
  refine (HPP.out _ HE.out).mono ?_
  rintro e w1 ⟨a1, c1, rfl, hr1, hb1⟩
  have HB1 := Lib.hid (hb1.alloc hb1.size (.cells #[.int .i64 k, .int .i64 n, .bool x, .slice a1 L c1] TPl))
  have HR1 := Lib.hid (hr1.up (.cells #[.int .i64 k, .int .i64 n, .bool x, .slice a1 L c1] TPl))
  have HX1 := Lib.hid (Blk.new w1 TPl #[.int .i64 k, .int .i64 n, .bool x, .slice a1 L c1])
  clear hr1 hb1 HPP
  go_upto_region 6 with fail
  generalize w1.alloc (.cells #[.int .i64 k, .int .i64 n, .bool x, .slice a1 L c1] TPl) = w2 at *
  generalize w1.heap.size = XB at *
  have x0 := HX1.out.cell 0
  have x1 := HX1.out.cell 1
  have x2 := HX1.out.cell 2
  have x3 := HX1.out.cell 3
  simp only [List.getElem?_toArray, List.getElem?_cons_zero, List.getElem?_cons_succ] at x0 x1 x2 x3
  go_wp2_with fail
  refine (HPR.out _ _ _ _ (HP.out.below HB1.out) HR1.out).mono ?_
  rintro e w3 ⟨rfl, hc3⟩
  have HB3 := belP HB1 hc3
  have HX3 := blkHP HX1 hc3
  have HR3 := Lib.hid (HR1.out.below hc3)
  clear hc3 HB1 HX1 HR1 HPR x0 x1 x2 x3
  go_wp2_with fail
  refine (HPQ.out _ (HE.out.below HB3.out)).mono ?_
  rintro e w4 ⟨a4, c4, rfl, hr4, hc4⟩
  have HB4 := Lib.hid ((belP HB3 hc4).out.alloc (belP HB3 hc4).out.size (.cells #[.int .i64 k, .int .i64 n, .bool x, .slice a4 L c4] TPl))
  have HX4 := Lib.hid ((blkHP HX3 hc4).out.alloc (.cells #[.int .i64 k, .int .i64 n, .bool x, .slice a4 L c4] TPl))
  have HY4 := Lib.hid (Blk.new w4 TPl #[.int .i64 k, .int .i64 n, .bool x, .slice a4 L c4])
  have HR4 := Lib.hid (hr4.up (.cells #[.int .i64 k, .int .i64 n, .bool x, .slice a4 L c4] TPl))
  have HQ4 := Lib.hid ((HR3.out.below hc4).up (.cells #[.int .i64 k, .int .i64 n, .bool x, .slice a4 L c4] TPl))
  clear hr4 hc4 HB3 HX3 HR3 HPQ
  go_upto_region 8 with fail
  generalize w4.alloc (.cells #[.int .i64 k, .int .i64 n, .bool x, .slice a4 L c4] TPl) = w5 at *
  generalize w4.heap.size = YB at *
  have x0 := HX4.out.cell 0
  have x1 := HX4.out.cell 1
  have x2 := HX4.out.cell 2
  have x3 := HX4.out.cell 3
  have y0 := HY4.out.cell 0
  have y1 := HY4.out.cell 1
  have y2 := HY4.out.cell 2
  have y3 := HY4.out.cell 3
  simp only [List.getElem?_toArray, List.getElem?_cons_zero, List.getElem?_cons_succ] at x0 x1 x2 x3 y0 y1 y2 y3
  go_wp2_with fail
  refine (HSM.out _ _ _ _ _ _ _ HQ4.out HR4.out).mono ?_
  rintro e w6 ⟨rfl, hc6⟩
  have HB6 := belP HB4 hc6
  have HX6 := blkHP HX4 hc6
  have HQ6 := Lib.hid (HQ4.out.below hc6)
  clear hc6 HB4 HX4 HY4 HR4 HQ4 HSM x0 x1 x2 x3 y0 y1 y2 y3
  have x0 := HX6.out.cell 0
  have x1 := HX6.out.cell 1
  have x2 := HX6.out.cell 2
  have x3 := HX6.out.cell 3
  simp only [List.getElem?_toArray, List.getElem?_cons_zero, List.getElem?_cons_succ] at x0 x1 x2 x3
  go_wp2_with fail
  refine (HRT.out _ _ _ _ HQ6.out).mono ?_
  rintro e w7 ⟨rfl, hc7⟩
  have HB7 := belP HB6 hc7
  clear hc7 HB6 HX6 HQ6 HRT x0 x1 x2 x3
  go_wp2_with fail
  refine (HAW.out _ (HE.out.below HB7.out)).mono ?_
  rintro e w8 ⟨rfl, hc8⟩
  have HB8 := belP HB7 hc8
  clear hc8 HB7 HAW
  go_wp2
  go_ret
  exact ⟨rfl, HB8.out⟩
end Go.Proofs.YtmjipkdejggbfaaGreatDoor
