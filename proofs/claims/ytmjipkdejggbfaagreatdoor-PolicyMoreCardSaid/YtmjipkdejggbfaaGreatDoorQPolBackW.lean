/- strainerlaw14.PolicyBack: the walk. -/
import Derived.Test.YtmjipkdejggbfaaGreatDoorQPolPrint
import Derived.Test.YtmjipkdejggbfaaGreatDoorQPolAwake
import Derived.Test.YtmjipkdejggbfaaGreatDoorQPolOpen
namespace Go.Proofs.YtmjipkdejggbfaaGreatDoor
open Go Go.Proofs Go.RowKit

theorem LightP.tiny {p : PSt} (h : LightP p.rules) : Small p := ⟨by have := h.1; omega, fun r hr => ⟨by have := (h.2 r hr).1; omega, by have := (h.2 r hr).2; omega⟩⟩
theorem LightP.few {rs : List PRule} (h : LightP rs) : rs.length ≤ 500 ∧ ∀ r ∈ rs, r.conds.length ≤ 1000000 := ⟨by have := h.1; omega, fun r hr => by have := (h.2 r hr).2; omega⟩
/-- A light policy's text is not too long. -/
theorem light_fits {p : PSt} (h : LightP p.rules) (hok : polOk p = true) (hn : PolN p) : (polTx p).length ≤ 20000 := by
  have h1 := polTx_len hok hn
  have h2 := h.1
  omega
/-- Print of what `of` made. -/
theorem printI_any {p : PSt} {a : Option Addr} {c : Nat} {lo : Nat} (hl : LightP p.rules) (hn : PolN p) (w : World) (hp : ActP.Pow10 w) (h : RulesR TRl TCd lo w (.slice a p.rules.length c) p.rules) :
    Calls Tryz.prog 16 #[.agg #[.int .i64 p.k, .int .i64 p.n, .bool p.x, .slice a p.rules.length c]] w fun e w' => e = .returned (printV p) ∧ Below w.heap.size w w' := print_any hl.tiny hn w hp h
theorem toldSelf_any {p : PSt} {a1 a2 : Option Addr} {c1 c2 lo N0 : Nat} (hl : LightP p.rules) (w : World) (hN0 : N0 ≤ w.heap.size) (h1 : RulesR TRl TCd lo w (.slice a1 p.rules.length c1) p.rules) (h2 : RulesI N0 w (.slice a2 p.rules.length c2) p.rules) :
    Calls Tryz.prog 11 #[.agg #[.int .i64 p.k, .int .i64 p.n, .bool p.x, .slice a1 p.rules.length c1], .agg #[.int .i64 p.k, .int .i64 p.n, .bool p.x, .slice a2 p.rules.length c2]] w fun e w' => e = .returned (.bool true) ∧ Below w.heap.size w w' := by
  refine (told14_whole (p := p) (s := p) hl.few.1 hl.few.2 w hN0 h1 h2).mono ?_
  rintro e w' ⟨b, rfl, hb, hbe⟩
  rw [hb.2 rfl]
  exact ⟨rfl, hbe⟩
set_option maxRecDepth 100000 in
set_option maxHeartbeats 8000000 in
theorem polback_law {p : PSt} {v : Value} (w : World) (hE : CondP.ErrV w) (hp : ActP.Pow10 w) (h : RulesI w.heap.size w v p.rules) (hn : PolN p) :
    Calls Tryz.prog 5 #[PolV p.k p.n p.x v] w fun e w' => e = .returned (.bool true) ∧ Below w.heap.size w w' := by
  obtain ⟨va, vc, rfl, _⟩ := id h
  have hX := Blk.new w TPr #[.int .i64 p.k, .int .i64 p.n, .bool p.x, .slice va p.rules.length vc]
  have HB := Lib.hid ((Below.refl w.heap.size w).alloc (Nat.le_refl _) (.cells #[.int .i64 p.k, .int .i64 p.n, .bool p.x, .slice va p.rules.length vc] TPr))
  have HX := Lib.hid hX
  have HLT := Lib.hid (fun W (hb : Below w.heap.size w W) => light_any (k := p.k) (n := p.n) (x := p.x) W hb.size (h.below hb (Nat.le_refl _)))
  by_cases hl : LightP p.rules
  case neg =>
    have HNL := Lib.hid hl
    unfold PolV at *
    generalize p.k = k at *
    generalize p.n = n at *
    generalize p.x = x at *
    generalize p.rules.length = L at *
    clear h hn hl hX
    go_enter Tryz.func5, Tryz.ntmps5
    go_wp2_with fail
    refine (HLT.out _ HB.out).mono ?_
    rintro e w1 ⟨b1, rfl, hb1, hc1⟩
    obtain rfl : b1 = false := by cases b1 with | false => rfl | true => exact absurd (hb1.1 rfl) HNL.out
    have HB1 := belP HB hc1
    clear hb1 hc1 HB
    go_wp2
    go_ret
    exact ⟨rfl, HB1.out⟩
  have HL := Lib.hid hl
  have HOF : Hid (∀ W, Below w.heap.size w W → Calls Tryz.prog 14 #[.agg #[.int .i64 p.k, .int .i64 p.n, .bool p.x, .slice va p.rules.length vc]] W fun e w' => ∃ a c, e = .returned (.agg #[.int .i64 p.k, .int .i64 p.n, .bool p.x, .slice a p.rules.length c]) ∧ RulesR TRl TCd W.heap.size w' (.slice a p.rules.length c) p.rules ∧ Below W.heap.size W w') := fun W hb => by
    refine (ofI_any (k := p.k) (n := p.n) (x := p.x) hl.few.1 hl.few.2 W hb.size (h.below hb (Nat.le_refl _))).mono ?_
    rintro e w' ⟨vo, rfl, hr, hb'⟩
    obtain ⟨a, c, rfl⟩ := hr.slice
    exact ⟨a, c, rfl, hr, hb'⟩
  have HPR := Lib.hid (fun (W : World) (a : Option Addr) (c lo : Nat) hW hR => printI_any (a := a) (c := c) (lo := lo) hl hn W hW hR)
  have HTD := Lib.hid (fun (W : World) (a1 : Option Addr) (c1 lo : Nat) (hb : Below w.heap.size w W) h1 => toldSelf_any (a1 := a1) (a2 := va) (c1 := c1) (c2 := vc) (lo := lo) (N0 := w.heap.size) hl W hb.size h1 (h.below hb (Nat.le_refl _)))
  have HAW := Lib.hid (fun W hW => awake14_any W hW)
  have HE := Lib.hid hE
  have HP := Lib.hid hp
  cases hok : polOk p with
  | false =>
    rw [printV_bad hok] at HPR
    unfold PolV at *
    generalize p.k = k at *
    generalize p.n = n at *
    generalize p.x = x at *
    generalize p.rules.length = L at *
    clear h hn hl hok hE hp hX
    go_enter Tryz.func5, Tryz.ntmps5
    go_wp2_with fail
    refine (HLT.out _ HB.out).mono ?_
    rintro e w1 ⟨b1, rfl, hb1, hc1⟩
    obtain rfl : b1 = true := hb1.2 HL.out
    have HB1 := belP HB hc1
    have HX1 := blkHP HX hc1
    have x0 := HX1.out.cell 0
    have x1 := HX1.out.cell 1
    have x2 := HX1.out.cell 2
    have x3 := HX1.out.cell 3
    simp only [List.getElem?_toArray, List.getElem?_cons_zero, List.getElem?_cons_succ] at x0 x1 x2 x3
    clear hb1 hc1 HB HX HLT
    go_wp2_with fail
    refine (HOF.out _ HB1.out).mono ?_
    rintro e w2 ⟨a2, c2, rfl, hr2, hc2⟩
    have HB2 := belP HB1 hc2
    have HR2 := Lib.hid hr2
    clear hr2 hc2 HB1 HX1 x0 x1 x2 x3 HOF
    go_wp2_with fail
    refine (HPR.out _ _ _ _ (HP.out.below HB2.out) HR2.out).mono ?_
    rintro e w3 ⟨rfl, hc3⟩
    have HB3 := belP HB2 hc3
    clear hc3 HB2 HPR
    go_wp2_with fail
    refine (HAW.out _ (HE.out.below HB3.out)).mono ?_
    rintro e w4 ⟨rfl, hc4⟩
    have HB4 := belP HB3 hc4
    clear hc4 HB3 HAW
    go_wp2
    go_ret
    exact ⟨rfl, HB4.out⟩
  | true =>
    have hfit := light_fits hl hok hn
    rw [printV_ok hok (by omega)] at HPR
    have hans := polAns_text hok hn (by omega : (polTx p).length ≤ 65536) (toL (polTx p))
    have hpp := fun W hW => parse_any (⟨(polTx p).toArray⟩ : ByteArray) W hW
    rw [hans] at hpp
    have HPP : Hid (∀ W, CondP.ErrV W → Calls Tryz.prog 9 #[.string ⟨(polTx p).toArray⟩] W fun e w' => ∃ a c, e = .returned (.tuple #[.agg #[.int .i64 p.k, .int .i64 p.n, .bool p.x, .slice a p.rules.length c], .int .i64 0, .int .i64 0]) ∧ RulesR TRl TCd W.heap.size w' (.slice a p.rules.length c) p.rules ∧ Below W.heap.size W w') := fun W hW => by
      refine (hpp W hW).mono ?_
      rintro e w' ⟨v, rfl, h, hb⟩
      obtain ⟨a, c, rfl⟩ := h.slice
      exact ⟨a, c, rfl, h, hb⟩
    unfold PolV at *
    generalize (⟨(polTx p).toArray⟩ : ByteArray) = T at *
    generalize p.k = k at *
    generalize p.n = n at *
    generalize p.x = x at *
    generalize p.rules.length = L at *
    clear h hn hl hok hE hp hX hpp hans hfit
    go_enter Tryz.func5, Tryz.ntmps5
    go_wp2_with fail
    refine (HLT.out _ HB.out).mono ?_
    rintro e w1 ⟨b1, rfl, hb1, hc1⟩
    obtain rfl : b1 = true := hb1.2 HL.out
    have HB1 := belP HB hc1
    have HX1 := blkHP HX hc1
    have x0 := HX1.out.cell 0
    have x1 := HX1.out.cell 1
    have x2 := HX1.out.cell 2
    have x3 := HX1.out.cell 3
    simp only [List.getElem?_toArray, List.getElem?_cons_zero, List.getElem?_cons_succ] at x0 x1 x2 x3
    clear hb1 hc1 HB HX HLT
    go_wp2_with fail
    refine (HOF.out _ HB1.out).mono ?_
    rintro e w2 ⟨a2, c2, rfl, hr2, hc2⟩
    have HB2 := belP HB1 hc2
    have HX2 := blkHP HX1 hc2
    have HR2 := Lib.hid hr2
    clear hr2 hc2 HB1 HX1 x0 x1 x2 x3 HOF
    go_wp2_with fail
    refine (HPR.out _ _ _ _ (HP.out.below HB2.out) HR2.out).mono ?_
    rintro e w3 ⟨rfl, hc3⟩
    have HB3 := belP HB2 hc3
    have HX3 := blkHP HX2 hc3
    clear hc3 HB2 HX2 HR2 HPR
    go_wp2_with fail
    refine (HPP.out _ (HE.out.below HB3.out)).mono ?_
    rintro e w4 ⟨a4, c4, rfl, hr4, hc4⟩
    have HB4 := Lib.hid ((belP HB3 hc4).out.alloc (belP HB3 hc4).out.size (.cells #[.int .i64 k, .int .i64 n, .bool x, .slice a4 L c4] TPl))
    have HX4 := Lib.hid ((blkHP HX3 hc4).out.alloc (.cells #[.int .i64 k, .int .i64 n, .bool x, .slice a4 L c4] TPl))
    have HY4 := Lib.hid (Blk.new w4 TPl #[.int .i64 k, .int .i64 n, .bool x, .slice a4 L c4])
    have HR4 := Lib.hid (hr4.up (.cells #[.int .i64 k, .int .i64 n, .bool x, .slice a4 L c4] TPl))
    clear hr4 hc4 HB3 HX3 HPP
    go_upto_region 7 with fail
    generalize w4.alloc (.cells #[.int .i64 k, .int .i64 n, .bool x, .slice a4 L c4] TPl) = w5 at *
    generalize w4.heap.size = YB at *
    have x0 := HX4.out.cell 0
    have x1 := HX4.out.cell 1
    have x2 := HX4.out.cell 2
    have x3 := HX4.out.cell 3
    have y0 := HY4.out.cell 0
    have y1 := HY4.out.cell 1
    have y2 := HY4.out.cell 2
    have y3 := HY4.out.cell 3
    simp only [List.getElem?_toArray, List.getElem?_cons_zero, List.getElem?_cons_succ] at x0 x1 x2 x3 y0 y1 y2 y3
    go_wp2_with fail
    refine (HTD.out _ _ _ _ HB4.out HR4.out).mono ?_
    rintro e w6 ⟨rfl, hc6⟩
    have HB6 := belP HB4 hc6
    clear hc6 HB4 HX4 HY4 HR4 HTD x0 x1 x2 x3 y0 y1 y2 y3
    go_wp2_with fail
    refine (HAW.out _ (HE.out.below HB6.out)).mono ?_
    rintro e w7 ⟨rfl, hc7⟩
    have HB7 := belP HB6 hc7
    clear hc7 HB6 HAW
    go_wp2
    go_ret
    exact ⟨rfl, HB7.out⟩
end Go.Proofs.YtmjipkdejggbfaaGreatDoor
