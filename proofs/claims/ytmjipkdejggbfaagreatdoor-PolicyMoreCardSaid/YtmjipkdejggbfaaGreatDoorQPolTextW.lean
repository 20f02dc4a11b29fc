/- The text of a rule. -/
import Derived.Test.YtmjipkdejggbfaaGreatDoorQPolTextQ
import Derived.Test.YtmjipkdejggbfaaGreatDoorQPolOf
import Derived.Test.YtmjipkdejggbfaaGreatDoorQCond
import Derived.Test.YtmjipkdejggbfaaGreatDoorQAct
namespace Go.Proofs.YtmjipkdejggbfaaGreatDoor
open Go Go.Proofs Go.RowKit

theorem pow10C {W : World} (h : ActP.Pow10 W) : CondP.Pow10 W := h
theorem actText_any {k n : Int} (h : ActP.actRight k n = true) (w : World) (hp : ActP.Pow10 w) : Calls Tryz.prog 28 #[.agg #[.int .i64 k, .int .i64 n]] w fun e w' => e = .returned (.string (actB k n)) ∧ Below w.heap.size w w' := by
  obtain ⟨_, _, h0, _⟩ := actRight_bounds h
  obtain ⟨n, rfl⟩ : ∃ m : Nat, n = (m : Int) := ⟨n.toNat, by omega⟩
  have := ActP.text_right k n h w hp
  unfold actB
  rw [Int.toNat_natCast]
  exact this
theorem condText_any {c : PCond} (h : condOk c = true) (hn : CondN c) (w : World) (hp : ActP.Pow10 w) : Calls Tryz.prog 55 #[.agg #[.int .i64 c.a, .int .i64 c.o, .int .u64 c.m, .int .u64 c.v]] w fun e w' => e = .returned (.string (condB c)) ∧ Below w.heap.size w w' := by
  obtain ⟨a, o, m, v⟩ := c
  obtain ⟨a0, a5, o1, o7, hom⟩ := condOk_parts h
  obtain ⟨⟨m0, m1⟩, v0, v1⟩ := hn
  dsimp only at *
  obtain ⟨a, rfl⟩ : ∃ a' : Nat, a = (a' : Int) := ⟨a.toNat, by omega⟩
  obtain ⟨m, rfl⟩ : ∃ m' : Nat, m = (m' : Int) := ⟨m.toNat, by omega⟩
  obtain ⟨v, rfl⟩ : ∃ v' : Nat, v = (v' : Int) := ⟨v.toNat, by omega⟩
  obtain ⟨k, rfl⟩ : ∃ k' : Nat, o = (k' : Int) + 1 := ⟨(o - 1).toNat, by omega⟩
  have := CondP.text10_right a k m v (by omega) (by omega) (by omega) (by omega) (by omega) w hp
  unfold condB
  dsimp only
  rw [Int.toNat_natCast, Int.toNat_natCast, Int.toNat_natCast]
  exact this
/-- A rule's text so far. -/
def ruleB (nm : ByteArray) (k n : Int) (cs : List PCond) : ByteArray := ⟨(nm.data.toList ++ 32 :: ((actB k n).data.toList ++ condsTx true cs)).toArray⟩
theorem ruleB_len {nm : ByteArray} {k n : Int} {cs : List PCond} (h1 : nm.size ≤ 30) (h2 : ActP.actRight k n = true) (h3 : ∀ c ∈ cs, condOk c = true) (h4 : ∀ c ∈ cs, CondN c) : (ruleB nm k n cs).size ≤ 63 + 65 * cs.length := by
  have a := condsTx_len true cs h3 h4
  have b := actB_size h2
  have sa := size_list nm
  have sb := size_list (actB k n)
  show (nm.data.toList ++ 32 :: ((actB k n).data.toList ++ condsTx true cs)).toArray.size ≤ _
  rw [List.size_toArray]
  simp only [List.length_append, List.length_cons]
  omega
theorem bytes_list {a b : ByteArray} (h : a.data.toList = b.data.toList) : a = b := by
  obtain ⟨⟨a⟩⟩ := a
  obtain ⟨⟨b⟩⟩ := b
  cases h
  rfl
theorem ruleB_nil (nm : ByteArray) (k n : Int) : nm ++ ⟨#[32]⟩ ++ actB k n = ruleB nm k n [] := by
  apply bytes_list
  rw [list_append, list_append]
  simp [ruleB, condsTx]
theorem ruleB_snoc (nm : ByteArray) (k n : Int) {cs : List PCond} {q : Nat} {c : PCond} (h : cs[q]? = some c) (wd : ByteArray) (hw : wd.data.toList = if q = 0 then [32, 105, 102, 32] else [32, 97, 110, 100, 32]) : ruleB nm k n (cs.take q) ++ (wd ++ condB c) = ruleB nm k n (cs.take (q + 1)) := by
  apply bytes_list
  rw [list_append, list_append, hw]
  unfold ruleB
  rw [condsTx_take h]
  simp
theorem ruleB_end (r : PRule) : ruleB r.name r.k r.n r.conds ++ ⟨#[10]⟩ = ⟨(ruleTx r).toArray⟩ := by
  apply bytes_list
  rw [list_append]
  simp [ruleB, ruleTx]
set_option maxRecDepth 100000 in
set_option maxHeartbeats 8000000 in
theorem ruleText_any {N : Nat} {r : PRule} {ua : Option Addr} {uc : Nat} (hok : ruleOk r = true) (hn : ∀ c ∈ r.conds, CondN c) (w : World) (hp : ActP.Pow10 w) (hN : N ≤ w.heap.size) (h : CondsAt N w ua r.conds) :
    Calls Tryz.prog 29 #[.agg #[.string r.name, .int .i64 r.k, .int .i64 r.n, .slice ua r.conds.length uc]] w fun e w' => e = .returned (.string ⟨(ruleTx r).toArray⟩) ∧ Below w.heap.size w w' := by
  rw [← ruleB_end r]
  obtain ⟨h1, h2, h3, h4⟩ := ruleOk_parts hok
  obtain ⟨nm, k, n, cs⟩ := r
  dsimp only at h1 h2 h3 h4 hn h ⊢
  have hnm := (nameB_parts h1).1
  have hab := actB_size h2
  have HRL := Lib.hid (fun q => ruleB_len (cs := cs.take q) hnm h2 (fun c hc => h4 c (List.mem_of_mem_take hc)) (fun c hc => hn c (List.mem_of_mem_take hc)))
  have HAT := Lib.hid (fun W hW => actText_any h2 W hW)
  have HCT := Lib.hid (fun c (hc : c ∈ cs) W hW => condText_any (h4 c hc) (hn c hc) W hW)
  have HCS := Lib.hid (fun c (hc : c ∈ cs) => condB_size (h4 c hc) (hn c hc))
  have HNIL := Lib.hid (ruleB_nil nm k n)
  have HSN := Lib.hid (fun q c (hc : cs[q]? = some c) wd hw => ruleB_snoc nm k n hc wd hw)
  obtain ⟨RB, hRB⟩ : ∃ RB, (fun l => ruleB nm k n l) = RB := ⟨_, rfl⟩
  have hRB' : ∀ l, ruleB nm k n l = RB l := fun l => by rw [← hRB]
  simp only [hRB'] at HRL HNIL HSN ⊢
  obtain ⟨AB, hAB⟩ : ∃ AB, actB k n = AB := ⟨_, rfl⟩
  rw [hAB] at hab HAT HNIL
  obtain ⟨L, hL⟩ : ∃ L, cs.length = L := ⟨_, rfl⟩
  rw [hL] at h3 ⊢
  have HL := Lib.hid hL
  have HC := Lib.hid h
  have HN := Lib.hid hN
  have HP := Lib.hid hp
  have hX := Blk.new w TRl #[.string nm, .int .i64 k, .int .i64 n, .slice ua L uc]
  have HX := Lib.hid hX
  have HB := Lib.hid ((Below.refl w.heap.size w).alloc (Nat.le_refl _) (.cells #[.string nm, .int .i64 k, .int .i64 n, .slice ua L uc] TRl))
  have b0 := hX.cell 0
  have b1 := hX.cell 1
  have b2 := hX.cell 2
  simp only [List.getElem?_toArray, List.getElem?_cons_zero, List.getElem?_cons_succ] at b0 b1 b2
  have hs1 : nm.size + (⟨#[32]⟩ : ByteArray).size ≤ 1000000 := by rw [show (⟨#[32]⟩ : ByteArray).size = 1 from rfl]; omega
  have hs2 : (nm ++ ⟨#[32]⟩).size + AB.size ≤ 1000000 := by rw [ByteArray.size_append, show (⟨#[32]⟩ : ByteArray).size = 1 from rfl]; omega
  have hs3 : ¬ 9223372036854775807 < nm.size + 1 := by omega
  have hs4 : ¬ 9223372036854775807 < nm.size + 1 + AB.size := by omega
  clear h hN hX h1 h2 h4 hn hRB hRB' hAB hL hok hp hnm
  go_enter Tryz.func29, Tryz.ntmps29
  go_upto_region 1 with fail
  generalize w.alloc (.cells #[.string nm, .int .i64 k, .int .i64 n, .slice ua L uc] TRl) = W1 at *
  have HP1 := Lib.hid (HP.out.below HB.out)
  go_region_held3 (fun w' => w'.cell? ⟨w.heap.size, 0, none⟩ = some (.string nm) ∧ w'.cell? ⟨w.heap.size, 1, none⟩ = some (.int .i64 k) ∧ w'.cell? ⟨w.heap.size, 2, none⟩ = some (.int .i64 n)) (first | exact ⟨b0, b1, b2⟩ | exact ⟨(hb3.cell (World.block_lt_of_cell? _ _ b0)).trans b0, (hb3.cell (World.block_lt_of_cell? _ _ b1)).trans b1, (hb3.cell (World.block_lt_of_cell? _ _ b2)).trans b2⟩ | go_keep) (first | (go_at_call 28; refine (HAT.out _ (HP1.out.below ((Below.refl _ _).drew))).mono ?_; rintro e w3 ⟨rfl, hb3⟩))
  rw [HNIL.out]
  have hb3' := (Below.refl W1.heap.size W1).drew.trans hb3
  have HX3 := blkHP HX hb3'
  have HB3 := belP HB hb3'
  have HP3 := Lib.hid (HP.out.below HB3.out)
  have HRL0 := Lib.hid (HRL.out 0)
  have a3 := HX3.out.cell 3
  simp only [List.getElem?_toArray, List.getElem?_cons_zero, List.getElem?_cons_succ] at a3
  clear hb3 hb3' HX HB HP HP1 HAT b0 b1 b2 hs1 hs2 hs3 hs4 hab HNIL
  go_upto_region 3 with fail
  go_loopw [3, 4, 5, 6, 17] (fun s3 _ _ _ s17 wr => ∃ q : Nat, q ≤ L ∧ s17 = .int .i64 (q : Int) ∧ s3 = .string (RB (cs.take q)) ∧ Hid (Below w.heap.size w wr) ∧ Hid (ActP.Pow10 wr)) (fun _ _ _ _ s17 _ => L - (intOf s17).toNat)
  case atStart => exact ⟨0, Nat.zero_le _, rfl, rfl, HB3, HP3⟩
  case round =>
    obtain ⟨q, hqL, rfl, rfl, HBr, HPr⟩ := hrel
    have q0 : (0 : Int) ≤ (q : Int) := by omega
    have hrl := HRL.out q
    have hLL := HL.out
    rw [List.length_take] at hrl
    by_cases hq : q < L
    · have hqz : (q : Int) < (L : Int) := by omega
      obtain ⟨c, hc⟩ : ∃ c, cs[q]? = some c := ⟨_, List.getElem?_eq_getElem (by rw [HL.out]; exact hq)⟩
      obtain ⟨gu, rfl, hgu, y0, y1, y2, y3⟩ := HC.out q c hc
      have hgu' : gu < w.heap.size := Nat.lt_of_lt_of_le hgu HN.out
      have ce : ∀ j v, w.cell? ⟨gu, j, none⟩ = some v → wr.cell? ⟨gu, j, none⟩ = some v := fun j v hv => (HBr.out.cell (p := ⟨gu, j, none⟩) hgu').trans hv
      have y0 := ce _ _ y0
      have y1 := ce _ _ y1
      have y2 := ce _ _ y2
      have y3 := ce _ _ y3
      have hcm := List.mem_of_getElem? hc
      have HB4 := Lib.hid (HBr.out.alloc HBr.out.size (.cells #[.int .i64 c.a, .int .i64 c.o, .int .u64 c.m, .int .u64 c.v] TCd))
      have HP4 := Lib.hid (HPr.out.below ((Below.refl _ wr).alloc (Nat.le_refl _) (.cells #[.int .i64 c.a, .int .i64 c.o, .int .u64 c.m, .int .u64 c.v] TCd)))
      have HX4 := Lib.hid (Blk.new wr TCd #[.int .i64 c.a, .int .i64 c.o, .int .u64 c.m, .int .u64 c.v])
      have HCT1 := Lib.hid (HCT.out c hcm _ HP4.out)
      have hcs := HCS.out c hcm
      have HSN1 := Lib.hid (HSN.out q c hc)
      have hsz : (RB (cs.take q)).size ≤ 1000000 := by omega
      clear ce hc hcm hrl
      generalize condB c = CB at *
      obtain ⟨T1, hT1⟩ : ∃ T1, cs.take (q + 1) = T1 := ⟨_, rfl⟩
      rw [hT1] at HSN1
      have HT1 := Lib.hid hT1
      clear hT1
      obtain ⟨T0, hT0⟩ : ∃ T0, RB (cs.take q) = T0 := ⟨_, rfl⟩
      rw [hT0] at hsz HSN1 ⊢
      clear hT0
      have h4a : (⟨#[32, 105, 102, 32]⟩ : ByteArray).size = 4 := rfl
      have h5a : (⟨#[32, 97, 110, 100, 32]⟩ : ByteArray).size = 5 := rfl
      have g1 : (⟨#[32, 105, 102, 32]⟩ : ByteArray).size + CB.size ≤ 1000000 := by omega
      have g2 : T0.size + ((⟨#[32, 105, 102, 32]⟩ : ByteArray) ++ CB).size ≤ 10000000 := by rw [ByteArray.size_append]; omega
      have g3 : (⟨#[32, 97, 110, 100, 32]⟩ : ByteArray).size + CB.size ≤ 1000000 := by omega
      have g4 : T0.size + ((⟨#[32, 97, 110, 100, 32]⟩ : ByteArray) ++ CB).size ≤ 10000000 := by rw [ByteArray.size_append]; omega
      have g5 : ¬ 9223372036854775807 < 4 + CB.size := by omega
      have g6 : ¬ 9223372036854775807 < T0.size + (4 + CB.size) := by omega
      have g7 : ¬ 9223372036854775807 < 5 + CB.size := by omega
      have g8 : ¬ 9223372036854775807 < T0.size + (5 + CB.size) := by omega
      clear h4a h5a hcs hsz
      by_cases hz : q = 0
      · subst hz
        have HSN2 := Lib.hid (HSN1.out ⟨#[32, 105, 102, 32]⟩ rfl)
        clear HSN1
        go_wp2_with fail
        refine HCT1.out.mono ?_
        rintro e w5 ⟨rfl, hb5⟩
        have HB5 := belP HB4 hb5
        have HP5 := Lib.hid (HP4.out.below hb5)
        clear hb5 y0 y1 y2 y3
        go_wp2
        rw [HSN2.out]
        go_roundw
        case rel => exact ⟨1, by omega, by go_num, (congrArg (fun l => Value.string (RB l)) HT1.out).symm, HB5, HP5⟩
        case measure => simp [intOf]; omega
      · have hz1 : ¬ (q : Int) = 0 := by omega
        have hz2 : ((q : Int) == 0) = false := by simpa using hz1
        have HSN2 := Lib.hid (HSN1.out ⟨#[32, 97, 110, 100, 32]⟩ (by rw [if_neg hz]))
        clear HSN1
        go_wp2_with fail
        refine HCT1.out.mono ?_
        rintro e w5 ⟨rfl, hb5⟩
        have HB5 := belP HB4 hb5
        have HP5 := Lib.hid (HP4.out.below hb5)
        clear hb5 y0 y1 y2 y3
        go_wp2
        rw [HSN2.out]
        go_roundw
        case rel => exact ⟨q + 1, by omega, by go_num, (congrArg (fun l => Value.string (RB l)) HT1.out).symm, HB5, HP5⟩
        case measure => simp [intOf]; omega
    · obtain rfl : L = q := by omega
      have hqz : ¬ (L : Int) < (L : Int) := by omega
      have hall : cs.take L = cs := List.take_of_length_le (by rw [HL.out]; exact Nat.le_refl _)
      rw [hall] at hrl ⊢
      have hsz : (RB cs).size ≤ 1000000 := by omega
      have g1 : (RB cs).size + (⟨#[10]⟩ : ByteArray).size ≤ 1000000000 := by rw [show (⟨#[10]⟩ : ByteArray).size = 1 from rfl]; omega
      have g2 : ¬ 9223372036854775807 < (RB cs).size + 1 := by omega
      clear hall hrl
      go_wp2
      go_ret
      exact ⟨rfl, HBr.out⟩
end Go.Proofs.YtmjipkdejggbfaaGreatDoor
