/- policy.Print: what it answers. -/
import Derived.Shelf.Strings.OnBuilder
import Derived.Test.YtmjipkdejggbfaaGreatDoorQPolRight
import Derived.Test.YtmjipkdejggbfaaGreatDoorQPolTextW
namespace Go.Proofs.YtmjipkdejggbfaaGreatDoor
open Go Go.Proofs Go.RowKit Go.Shelf

theorem extraB : Builder.Extra Tryz.prog Tryz.lays156_ren where
  sizeBuilder := by kernel_rfl
  liesBuilder := by kernel_rfl
  t5 := Tryz.underlying5
  a5 := Tryz.isAgg5
  z5 := Tryz.sizeOf5
  v5 := Tryz.zeroValue5
  infoByte := by kernel_rfl
  cellsByte := by kernel_rfl
  sizeByte := by kernel_rfl
  neB5 := by decide
abbrev IsB (B b : Nat) (l : List UInt8) (W : World) : Prop := Lib.IsBuilder 82 5 B b (Lib.byteCells l) W
theorem bwrite_any (B b : Nat) (l m : List UInt8) (s : ByteArray) (w : World) (h : IsB B b l w) (hm : l ++ s.data.toList = m) (hlen : m.length ≤ 140737488355328) (hBw : B ≤ w.heap.size) :
    Calls Tryz.prog 27 #[.pointer (some ⟨b, 0, none⟩), .string s] w fun e w' => e = .returned (.tuple #[.int .i64 s.size, .nilIface]) ∧ IsB B b m w' ∧ Below B w w' := by
  subst hm
  have hl : (Lib.byteCells l).length + s.size ≤ 140737488355328 := by
    rw [Lib.byteCells_length, ← size_list s, ← List.length_append]
    exact hlen
  refine (Any.Builder_WriteString { Tryz.lays156 with } extraB B b _ s w h hl hBw).mono ?_
  rintro e w' ⟨rfl, h2, h3⟩
  rw [Lib.strCells_eq, ← Lib.byteCells_append] at h2
  exact ⟨rfl, .inr h2, h3⟩
theorem bstring_any (B b : Nat) (l : List UInt8) (w : World) (h : IsB B b l w) (hBw : B ≤ w.heap.size) :
    Calls Tryz.prog 31 #[.pointer (some ⟨b, 0, none⟩)] w fun e w' => e = .returned (.string ⟨l.toArray⟩) ∧ Below B w w' :=
  Any.Builder_String_any { Tryz.lays156 with } extraB B b l w h hBw
theorem isB_below {B b : Nat} {l : List UInt8} {w W : World} (h : IsB B b l w) (hb : Below w.heap.size w W) : IsB B b l W := by
  have one : ∀ p, Lib.BuilderAt 82 5 B b p (Lib.byteCells l) w → Lib.BuilderAt 82 5 B b p (Lib.byteCells l) W := by
    rintro p ⟨h1, v, h2, h3, h4⟩
    exact ⟨h1, v, (hb.block b (Array.getElem?_eq_some_iff.1 h2).1).trans h2, ownP_below h3 hb, h4⟩
  exact h.imp (one _) (one _)
set_option maxRecDepth 100000 in
set_option maxHeartbeats 1000000 in
theorem blen_any (B b : Nat) (l : List UInt8) (w : World) (h : IsB B b l w) :
    Calls Tryz.prog 30 #[.pointer (some ⟨b, 0, none⟩)] w fun e w' => e = .returned (.int .i64 l.length) ∧ w = w' := by
  obtain ⟨p, v, hb, ho⟩ : ∃ p v, Blk w b 82 #[p, v] ∧ w.ownsRow B 5 1 v (Lib.byteCells l).length (Lib.byteCells l) := by
    rcases h with ⟨_, v, h1, h2, _⟩ | ⟨_, v, h1, h2, _⟩
    · exact ⟨_, v, h1, h2⟩
    · exact ⟨_, v, h1, h2⟩
  rw [Lib.byteCells_length] at ho
  obtain ⟨a, c, rfl⟩ : ∃ a c, v = .slice a l.length c := by
    rcases ho.2 with ⟨h, h0⟩ | ⟨g, c, _, h, _⟩
    · exact ⟨_, _, by rw [h, h0]⟩
    · exact ⟨_, _, h⟩
  have c1 := hb.cell 1
  simp only [List.getElem?_toArray, List.getElem?_cons_zero, List.getElem?_cons_succ] at c1
  clear h ho
  go_enter Tryz.func30, Tryz.ntmps30
  go_wp2
  go_ret
  exact ⟨rfl, rfl⟩
/-- What Print answers. -/
def printV (p : PSt) : Value := if polOk p = false then .tuple #[.string ⟨#[]⟩, .int .i64 13] else if 65536 < (polTx p).length then .tuple #[.string ⟨#[]⟩, .int .i64 3] else .tuple #[.string ⟨(polTx p).toArray⟩, .int .i64 0]
theorem printV_bad {p : PSt} (h : polOk p = false) : printV p = .tuple #[.string ⟨#[]⟩, .int .i64 13] := by unfold printV; rw [if_pos h]
theorem printV_long {p : PSt} (h : polOk p = true) (hl : 65536 < (polTx p).length) : printV p = .tuple #[.string ⟨#[]⟩, .int .i64 3] := by unfold printV; rw [if_neg (by rw [h]; decide), if_pos hl]
theorem printV_ok {p : PSt} (h : polOk p = true) (hl : ¬ 65536 < (polTx p).length) : printV p = .tuple #[.string ⟨(polTx p).toArray⟩, .int .i64 0] := by unfold printV; rw [if_neg (by rw [h]; decide), if_neg hl]
theorem toL (l : List UInt8) : (⟨l.toArray⟩ : ByteArray).data.toList = l := rfl
theorem toS (l : List UInt8) : (⟨l.toArray⟩ : ByteArray).size = l.length := by show l.toArray.size = _; rw [List.size_toArray]

set_option maxRecDepth 100000 in
set_option maxHeartbeats 16000000 in
theorem print_any {p : PSt} {v : Value} {lo : Nat} (hs : Small p) (hn : PolN p) (w : World) (hp : ActP.Pow10 w) (h : RulesR TRl TCd lo w v p.rules) :
    Calls Tryz.prog 16 #[PolV p.k p.n p.x v] w fun e w' => e = .returned (printV p) ∧ Below w.heap.size w w' := by
  have hright := fun W (hb : Below w.heap.size w W) => pright_any hs W (h.below hb)
  obtain ⟨a, c, rfl⟩ := h.slice
  unfold PolV at *
  cases hok : polOk p with
  | false =>
    rw [hok] at hright
    rw [printV_bad hok]
    have HR := Lib.hid hright
    have HB := Lib.hid ((Below.refl w.heap.size w).alloc (Nat.le_refl _) (.cells #[.int .i64 p.k, .int .i64 p.n, .bool p.x, .slice a p.rules.length c] TPl))
    generalize p.rules.length = L at *
    generalize p.k = k at *
    generalize p.n = n at *
    generalize p.x = x at *
    clear hright h hs hn
    go_enter Tryz.func16, Tryz.ntmps16
    go_wp2_with fail
    refine (HR.out _ HB.out).mono ?_
    rintro e w1 ⟨rfl, hb1⟩
    have HB1 := belP HB hb1
    clear hb1 HB HR
    go_wp2
    go_ret2
    exact ⟨rfl, HB1.out⟩
  | true =>
    rw [hok] at hright
    obtain ⟨hk1, hk2, hk3⟩ := polOk_parts hok
    have hlen := polTx_len hok hn
    have hPA : ∀ Z, (65536 < (polTx p).length → Z = .tuple #[.string ⟨#[]⟩, .int .i64 3]) → (¬ 65536 < (polTx p).length → Z = .tuple #[.string ⟨(polTx p).toArray⟩, .int .i64 0]) → printV p = Z := by
      intro Z z1 z2
      by_cases hl : 65536 < (polTx p).length
      · rw [printV_long hok hl, z1 hl]
      · rw [printV_ok hok hl, z2 hl]
    have htx := polTx_eq p
    obtain ⟨PV, hPV⟩ : ∃ PV, printV p = PV := ⟨_, rfl⟩
    rw [hPV] at hPA ⊢
    clear hPV
    have HAC := Lib.hid (fun W hW => actText_any hk1 W hW)
    have hab := actB_size hk1
    have hhead : headTx p.k p.n p.x = [100, 101, 102, 97, 117, 108, 116, 32] ++ (actB p.k p.n).data.toList ++ [10] ++ xTx p.x := rfl
    have hhl := headTx_len hk1 p.x
    rw [hhead] at htx hhl
    have HTL := Lib.hid (fun q => rulesTx_take_le hk3 hn q)
    have HRT := Lib.hid (fun (r : PRule) (hr : r ∈ p.rules) (N : Nat) (ua : Option Addr) (uc : Nat) (W : World) hW hN hC => ruleText_any (N := N) (ua := ua) (uc := uc) (hk3 r hr) (hn r hr) W hW hN hC)
    have HRL := Lib.hid (fun (r : PRule) (hr : r ∈ p.rules) => ruleTx_len (hk3 r hr) (hn r hr))
    have HRC := Lib.hid (fun (r : PRule) (hr : r ∈ p.rules) => (ruleOk_parts (hk3 r hr)).2.2.1)
    have HR := Lib.hid hright
    have HRR := Lib.hid h
    clear hright h hs hn hok hhead hk3
    obtain ⟨k, n, x, rs⟩ := p
    dsimp only at *
    generalize hTX : polTx ⟨k, n, x, rs⟩ = TX at *
    have HTX := Lib.hid htx
    have HPA := Lib.hid hPA
    generalize actB k n = AB at *
    obtain ⟨L, hL⟩ : ∃ L, rs.length = L := ⟨_, rfl⟩
    rw [hL] at HTL hk2 hlen HR HRR ⊢
    have HL := Lib.hid hL
    have HP := Lib.hid hp
    have HX := Lib.hid (Blk.new w TPl #[.int .i64 k, .int .i64 n, .bool x, .slice a L c])
    have HB := Lib.hid ((Below.refl w.heap.size w).alloc (Nat.le_refl _) (.cells #[.int .i64 k, .int .i64 n, .bool x, .slice a L c] TPl))
    have s8 : (⟨#[100, 101, 102, 97, 117, 108, 116, 32]⟩ : ByteArray).size = 8 := rfl
    have s1 : (⟨#[10]⟩ : ByteArray).size = 1 := rfl
    have d1 : (⟨#[100, 101, 102, 97, 117, 108, 116, 32]⟩ : ByteArray).size + AB.size ≤ 1000000 := by omega
    have d2 : ((⟨#[100, 101, 102, 97, 117, 108, 116, 32]⟩ : ByteArray) ++ AB).size + (⟨#[10]⟩ : ByteArray).size ≤ 1000000 := by rw [ByteArray.size_append]; omega
    have d3 : ¬ 9223372036854775807 < 8 + AB.size := by omega
    have d4 : ¬ 9223372036854775807 < 8 + AB.size + 1 := by omega
    have HDL : Hid (([100, 101, 102, 97, 117, 108, 116, 32] ++ AB.data.toList ++ [10] : List UInt8).length ≤ 41) := by
      show _ ≤ _
      have := size_list AB
      simp only [List.length_append, List.length_cons, List.length_nil]
      omega
    have HDS : Hid (([] : List UInt8) ++ ((⟨#[100, 101, 102, 97, 117, 108, 116, 32]⟩ : ByteArray) ++ AB ++ ⟨#[10]⟩ : ByteArray).data.toList = [100, 101, 102, 97, 117, 108, 116, 32] ++ AB.data.toList ++ [10]) := by
      show _ = _
      rw [list_append, list_append]
      simp
    generalize hD : ([100, 101, 102, 97, 117, 108, 116, 32] ++ AB.data.toList ++ [10] : List UInt8) = D at *
    clear hL hp htx hPA hTX hab s8 s1 hD hhl
    go_enter Tryz.func16, Tryz.ntmps16
    go_wp2_with fail
    refine (HR.out _ HB.out).mono ?_
    rintro e w1 ⟨rfl, hb1⟩
    have HB1 := belP HB hb1
    have HX1 := blkHP HX hb1
    have HP1 := Lib.hid (HP.out.below HB1.out)
    have HBI : Hid (IsB w1.heap.size w1.heap.size [] (w1.alloc (.cells #[.pointer none, .slice none 0 0] 82))) := Lib.fresh_isBuilder _ _ w1
    have HBD := Lib.hid ((Below.refl w1.heap.size w1).alloc (Nat.le_refl _) (.cells #[.pointer none, .slice none 0 0] 82))
    have HXL := Lib.hid HX1.out.lt
    have HRR1 := Lib.hid (HRR.out.below HB1.out)
    clear hb1 HB HX HP HRR HR
    go_upto_region 4 with fail
    generalize w1.alloc (.cells #[.pointer none, .slice none 0 0] 82) = w2 at *
    have HX2 := Lib.hid (HX1.out.below HBD.out HXL.out)
    have HP2 := Lib.hid (HP1.out.below HBD.out)
    have a0 := HX2.out.cell 0
    have a1 := HX2.out.cell 1
    simp only [List.getElem?_toArray, List.getElem?_cons_zero, List.getElem?_cons_succ] at a0 a1
    go_wp2_with fail
    refine (HAC.out _ HP2.out).mono ?_
    rintro e w3 ⟨rfl, hb3⟩
    have HBD3 := belP HBD hb3
    have HBI3 := Lib.hid (isB_below HBI.out hb3)
    clear hb3 HBD HBI HX2 HP2 a0 a1 HAC
    go_wp2_with fail
    refine (bwrite_any w1.heap.size w1.heap.size _ _ _ w3 HBI3.out HDS.out (Nat.le_trans HDL.out (by decide)) HBD3.out.size).mono ?_
    rintro e w4 ⟨rfl, hi4, hb4⟩
    have HBD4 := Lib.hid (HBD3.out.trans hb4)
    have HBI4 := Lib.hid hi4
    clear hb4 hi4 HBD3 HBI3 d1 d2 d3 d4
    have HX4 := Lib.hid (HX1.out.below HBD4.out HXL.out)
    have a2 := HX4.out.cell 2
    have a3 := HX4.out.cell 3
    simp only [List.getElem?_toArray, List.getElem?_cons_zero, List.getElem?_cons_succ] at a2 a3
    obtain ⟨HD2, hHD2⟩ : ∃ HD2, D ++ xTx x = HD2 := ⟨_, rfl⟩
    have HDX := Lib.hid hHD2
    have HD2L : Hid (HD2.length ≤ 48) := by
      show _ ≤ _
      have h1 := HDL.out
      have h2 : (xTx x).length ≤ 7 := by cases x <;> simp [xTx]
      rw [← hHD2, List.length_append]
      omega
    rw [hHD2] at HTX
    clear hHD2
    go_upto_if 17 with fail
    go_cut [18] (fun _ wx => Hid (IsB w1.heap.size w1.heap.size HD2 wx) ∧ Hid (Below w1.heap.size w1 wx))
    case first =>
      cases x with
      | true =>
        go_wp2_with fail
        refine (bwrite_any w1.heap.size w1.heap.size _ _ _ w4 HBI4.out HDX.out (Nat.le_trans HD2L.out (by decide)) HBD4.out.size).mono ?_
        rintro e w5 ⟨rfl, hi5, hb5⟩
        go_wp2
        go_meet
        exact ⟨hi5, HBD4.out.trans hb5⟩
      | false =>
        have hd : D = HD2 := by
          have h := HDX.out
          simpa [xTx] using h
        subst hd
        go_wp2
        go_meet
        exact ⟨HBI4, HBD4⟩
    case rest =>
      obtain ⟨HBI5, HBD5⟩ := hcut
      have HX5 := Lib.hid (HX1.out.below HBD5.out HXL.out)
      have a3 := HX5.out.cell 3
      simp only [List.getElem?_toArray, List.getElem?_cons_zero, List.getElem?_cons_succ] at a3
      clear HBI4 HBD4 HX4 HDX HDL HDS a2
      go_upto_region 8 with fail
      go_loopw [6, 22] (fun _ s22 wr => ∃ q : Nat, q ≤ L ∧ s22 = .int .i64 (q : Int) ∧ Hid (IsB w1.heap.size w1.heap.size (HD2 ++ rulesTx (rs.take q)) wr) ∧ Hid (Below w1.heap.size w1 wr)) (fun _ s22 _ => L - (intOf s22).toNat)
      case atStart => exact ⟨0, Nat.zero_le _, rfl, by show IsB _ _ (HD2 ++ []) _; rw [List.append_nil]; exact HBI5.out, HBD5⟩
      case round =>
        obtain ⟨q, hqL, rfl, HBIr, HBDr⟩ := hrel
        have q0 : (0 : Int) ≤ (q : Int) := by omega
        clear HBI5 HBD5 HX5 a3
        by_cases hq : q < L
        · have hqz : (q : Int) < (L : Int) := by omega
          obtain ⟨r, hr⟩ : ∃ r, rs[q]? = some r := ⟨_, List.getElem?_eq_getElem (by rw [HL.out]; exact hq)⟩
          obtain ⟨g, ua, uc, rfl, hg, y0, y1, y2, y3, hC⟩ := rules_at HRR1.out hr
          have ce : ∀ j v, w1.cell? ⟨g, j, none⟩ = some v → wr.cell? ⟨g, j, none⟩ = some v := fun j v hv => (HBDr.out.cell (p := ⟨g, j, none⟩) hg).trans hv
          have y0 := ce _ _ y0
          have y1 := ce _ _ y1
          have y2 := ce _ _ y2
          have y3 := ce _ _ y3
          have hrm := List.mem_of_getElem? hr
          have hA := (Below.refl wr.heap.size wr).alloc (Nat.le_refl _) (.cells #[.string r.name, .int .i64 r.k, .int .i64 r.n, .slice ua r.conds.length uc] TRl)
          have HBD6 := Lib.hid (HBDr.out.trans (hA.mono HBDr.out.size))
          have HBI6 := Lib.hid (isB_below HBIr.out hA)
          have HX6 := Lib.hid (Blk.new wr TRl #[.string r.name, .int .i64 r.k, .int .i64 r.n, .slice ua r.conds.length uc])
          have HCA := Lib.hid (HRT.out r hrm w1.heap.size ua uc _ (HP1.out.below HBD6.out) HBD6.out.size (hC.below HBD6.out (Nat.le_refl _)))
          have hrl := HRL.out r hrm
          have hrc := HRC.out r hrm
          have htl := HTL.out (q + 1)
          have HTK := Lib.hid (rulesTx_take hr)
          have HST : Hid ((HD2 ++ rulesTx (rs.take q)) ++ (⟨(ruleTx r).toArray⟩ : ByteArray).data.toList = HD2 ++ rulesTx (rs.take (q + 1))) := by
            show _ = _
            rw [toL, HTK.out, List.append_assoc]
          have HSL : Hid ((HD2 ++ rulesTx (rs.take (q + 1))).length ≤ 140737488355328) := by
            show _ ≤ _
            have := HD2L.out
            rw [List.length_append]
            omega
          clear hC hr hrm ce hA hrl hrc htl HTK
          go_upto_region 10 with fail
          generalize wr.alloc (.cells #[.string r.name, .int .i64 r.k, .int .i64 r.n, .slice ua r.conds.length uc] TRl) = w6 at *
          generalize wr.heap.size = B6 at *
          clear y0 y1 y2 y3
          have r0 := HX6.out.cell 0
          have r1 := HX6.out.cell 1
          have r2 := HX6.out.cell 2
          have r3 := HX6.out.cell 3
          simp only [List.getElem?_toArray, List.getElem?_cons_zero, List.getElem?_cons_succ] at r0 r1 r2 r3
          go_wp2_with fail
          refine HCA.out.mono ?_
          rintro e w7 ⟨rfl, hb7⟩
          have HBD7 := belP HBD6 hb7
          have HBI7 := Lib.hid (isB_below HBI6.out hb7)
          clear hb7 HBD6 HBI6 HX6 r0 r1 r2 r3 HCA
          go_wp2_with fail
          refine (bwrite_any w1.heap.size w1.heap.size _ _ _ w7 HBI7.out HST.out HSL.out HBD7.out.size).mono ?_
          rintro e w8 ⟨rfl, hi8, hb8⟩
          have HBI8 := Lib.hid hi8
          have HBD8 := Lib.hid (HBD7.out.trans hb8)
          clear hi8 hb8 HBI7 HBD7 HST HSL
          go_wp2
          go_roundw
          case rel => exact ⟨q + 1, by omega, by go_num, HBI8, HBD8⟩
          case measure => simp [intOf]; omega
        · obtain rfl : L = q := by omega
          have hqz : ¬ (L : Int) < (L : Int) := by omega
          have hall : rs.take L = rs := List.take_of_length_le (by rw [HL.out]; exact Nat.le_refl _)
          have hTX : HD2 ++ rulesTx rs = TX := HTX.out.symm
          rw [hall, hTX] at HBIr
          clear hall hTX
          go_wp2_with fail
          refine (blen_any w1.heap.size w1.heap.size _ wr HBIr.out).mono ?_
          rintro e _ ⟨rfl, rfl⟩
          by_cases hl : 65536 < TX.length
          · have hlz : (65536 : Int) < (TX.length : Int) := by omega
            have HZ := Lib.hid (HPA.out _ (fun _ => rfl) (fun e => absurd hl e))
            go_wp2
            go_ret2
            exact ⟨by rw [HZ.out]; rfl, HB1.out.trans (HBDr.out.mono HB1.out.size)⟩
          · have hlz : ¬ (65536 : Int) < (TX.length : Int) := by omega
            have HZ := Lib.hid (HPA.out _ (fun e => absurd e hl) (fun _ => rfl))
            go_wp2_with fail
            refine (bstring_any w1.heap.size w1.heap.size _ _ HBIr.out HBDr.out.size).mono ?_
            rintro e w9 ⟨rfl, hb9⟩
            go_wp2
            go_ret2
            exact ⟨by rw [HZ.out]; rfl, HB1.out.trans ((HBDr.out.trans hb9).mono HB1.out.size)⟩
end Go.Proofs.YtmjipkdejggbfaaGreatDoor
