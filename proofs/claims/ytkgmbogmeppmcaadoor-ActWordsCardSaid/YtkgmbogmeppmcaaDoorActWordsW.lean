/- strainerlaw09.ActWords: the walk (under way). -/
import Derived.Test.YtkgmbogmeppmcaaDoorActWordsQ
import Derived.Test.YtkgmbogmeppmcaaDoorActReadsW
import Derived.ArgAppend
import Derived.Maps.AppendAt
namespace Go.Proofs.YtkgmbogmeppmcaaDoor
open Go Go.Proofs Go.RowKit

set_option maxRecDepth 100000 in
set_option maxHeartbeats 1000000 in
/-- The words behind the first kk bytes. -/
def wordsAt (k : Int) (m kk : Nat) : List ByteArray := if (k = 4 ∨ k = 6) ∧ (actWord k).size < kk then [actWord k, decS m] else [actText k m]
theorem infoStr : (Tryd.prog.info? 9).map (fun i => (i.zero, i.size, i.bytes)) = some (some (.string ⟨#[]⟩), 1, 16) := by kernel_rfl
theorem words_small (k : Int) (m : Nat) (t : ByteArray) (hm : m ≤ 1000000) (ht : t.size ≤ 1000000) : ∀ x ∈ wordsOf k m ++ [t], x.size ≤ 1000000 := by
  have h1 := word_size k
  have h2 := decS_size m (by omega)
  intro x hx
  unfold wordsOf at hx
  split at hx <;> simp at hx
  · rcases hx with rfl | rfl | rfl <;> omega
  · rcases hx with rfl | rfl <;> omega
theorem words_end (k : Int) (m : Nat) : wordsAt k m (actText k m).size = wordsOf k m := by
  unfold wordsAt wordsOf actText
  by_cases hk : k = 4 ∨ k = 6
  · have h3 : (⟨#[32]⟩ : ByteArray).size = 1 := rfl
    rw [if_pos hk, if_pos hk, if_pos ⟨hk, by rw [ByteArray.size_append, ByteArray.size_append, h3]; omega⟩]
  · rw [if_neg hk, if_neg hk, if_neg (fun h => hk h.1)]
set_option maxRecDepth 100000 in
set_option maxHeartbeats 1000000 in
theorem words_any (k n : Int) (t : ByteArray) (ht : t.size ≤ 9223372036854775807) (w : World) (hp : Pow10 w) :
    Calls Tryd.prog 11 #[.agg #[.int .i64 k, .int .i64 n], .string t] w fun e w' => e = .returned (.bool true) ∧ Below w.heap.size w w' := by
  have hA := Blk.new w 23 #[.int .i64 k, .int .i64 n]
  have hb := (Below.refl w.heap.size w).alloc (Nat.le_refl _) (.cells #[.int .i64 k, .int .i64 n] 23)
  have a0 := hA.cell 0
  have a1 := hA.cell 1
  simp only [List.getElem?_toArray, List.getElem?_cons_zero, List.getElem?_cons_succ] at a0 a1
  have HA := Lib.hid hA
  have HB := Lib.hid hb
  have HP := Lib.hid hp
  clear hA hb hp
  by_cases h30 : 30 < t.size
  · have h30z : (30 : Int) < (t.size : Int) := by omega
    clear a0 a1
    go_enter Tryd.func11, Tryd.ntmps11
    go_wp2
    go_ret
    exact ⟨rfl, HB.out⟩
  have h30z : ¬ (30 : Int) < (t.size : Int) := by omega
  have Hrr := Lib.hid (fun W => refRight_any k n W)
  cases hr : actRight k n with
  | false =>
    rw [hr] at Hrr
    clear hr
    go_enter Tryd.func11, Tryd.ntmps11
    go_wp2_with fail
    refine (Hrr.out _).mono ?_
    rintro e w1 ⟨rfl, hb1⟩
    have HB1 := belB HB hb1
    clear hb1 a0 a1 HB
    go_wp2_with (go_at_call 19; refine (awake09_any _).mono ?_; rintro e wa ⟨rfl, hba⟩)
    go_ret
    exact ⟨rfl, HB1.out.trans (hba.mono HB1.out.size)⟩
  | true =>
    rw [hr] at Hrr
    obtain ⟨_, _, n0, n1, k1, k8, _, _⟩ := code_bounds k n hr
    obtain ⟨m, rfl⟩ : ∃ m : Nat, n = (m : Int) := ⟨n.toNat, by omega⟩
    have Htx := Lib.hid (fun W hW => text_right k m hr W hW)
    have Hrw := Lib.hid (read_words k m hr)
    clear hr
    go_enter Tryd.func11, Tryd.ntmps11
    go_wp2_with fail
    refine (Hrr.out _).mono ?_
    rintro e w1 ⟨rfl, hb1⟩
    have HA1 := blkB HA hb1
    have HB1 := belB HB hb1
    have HP1 := Lib.hid (HP.out.below HB1.out)
    have c0 := HA1.out.cell 0
    have c1 := HA1.out.cell 1
    simp only [List.getElem?_toArray, List.getElem?_cons_zero, List.getElem?_cons_succ] at c0 c1
    clear hb1 a0 a1 HB HA HP
    go_wp2_with fail
    refine (of09_any _ _ _).mono ?_
    rintro e w2 ⟨rfl, hb2⟩
    have HA2 := blkB HA1 hb2
    have HB2 := belB HB1 hb2
    have HP2 := Lib.hid (HP1.out.below hb2)
    clear hb2 c0 c1 HB1 HA1 HP1
    go_wp2_with fail
    refine (Htx.out _ HP2.out).mono ?_
    rintro e w3 ⟨rfl, hb3⟩
    have HA3 := blkB HA2 hb3
    have HB3 := belB HB2 hb3
    clear hb3 HB2 HA2 HP2 Htx
    go_upto_region 6 with fail
    have HA4 := Lib.hid (HA3.out.alloc (.cells #[.string (actText k m)] 9))
    have H64 : Hid (Blk (w3.alloc (.cells #[.string (actText k m)] 9)) w3.heap.size 9 ((wordsAt k m 0).map Value.string).toArray) := by
      have e : wordsAt k m 0 = [actText k m] := by unfold wordsAt; rw [if_neg (by omega)]
      rw [e]
      exact Blk.new w3 9 #[.string (actText k m)]
    have HB4 := Lib.hid (HB3.out.alloc HB3.out.size (.cells #[.string (actText k m)] 9))
    clear HA3 HB3
    generalize w3.alloc (.cells #[.string (actText k m)] 9) = W4 at *
    generalize w3.heap.size = B60 at *
    have hTs : (actText k m).size ≤ 100 := by
      have h1 := word_size k
      have h2 := decS_size m (by omega)
      unfold actText
      split
      · have h3 : (⟨#[32]⟩ : ByteArray).size = 1 := rfl
        rw [ByteArray.size_append, ByteArray.size_append, h3]
        omega
      · omega
    go_loopg [6, 7] (actText k m).size (fun gg s6 s7 wr => ∃ kk B6 q : Nat, kk ≤ (actText k m).size ∧ (actText k m).size - kk ≤ gg ∧ s7 = .int .i64 kk ∧ s6 = .slice (some ⟨B6, 0, none⟩) q q ∧ Hid (q = (wordsAt k m kk).length) ∧ Hid (Below w.heap.size w wr) ∧ Hid (Blk wr B6 9 ((wordsAt k m kk).map Value.string).toArray) ∧ Hid (Blk wr w.heap.size 23 #[.int .i64 k, .int .i64 (m : Int)]))
    case atStart => exact ⟨0, B60, 1, Nat.zero_le _, by omega, rfl, rfl, (by show 1 = (wordsAt k m 0).length; unfold wordsAt; rw [if_neg (by omega)]; rfl), HB4, H64, HA4⟩
    case round =>
      obtain ⟨kk, B6, q, hkk, hg, rfl, rfl, HQ, BW, H6, HA⟩ := hrel
      clear HB4 H64 HA4
      by_cases hlt : kk < (actText k m).size
      · have hltz : (kk : Int) < ((actText k m).size : Int) := by omega
        have hltz0 : (0 : Int) ≤ (kk : Int) := by omega
        have hbl := text_blank (byte_get (actText k m) kk hlt)
        by_cases hp : (k = 4 ∨ k = 6) ∧ kk = (actWord k).size
        · have h32 : (((((actText k m)[kk]'hlt).toNat : Nat) : Int) == 32) = true := by rw [hbl.2 hp]; rfl
          have h32n : ((((actText k m)[kk]'hlt).toNat : Nat) : Int) = 32 := by rw [hbl.2 hp]; rfl
          obtain ⟨hk, hkk2⟩ := hp
          obtain ⟨hx1, hx2⟩ := text_cut m hk
          have w1 : IntKind.i64.wrap ((kk : Int) + 1) = (kk : Int) + 1 := IntWalk.i64_in _ (by omega)
          have b1 : (kk : Int) ≤ ((actText k m).size : Int) := by omega
          have b2 : (kk : Int) + 1 ≤ ((actText k m).size : Int) := by omega
          have b3 : (0 : Int) ≤ (kk : Int) + 1 := by omega
          have b4 : ((kk : Int) + 1).toNat = kk + 1 := by omega
          rw [← hkk2] at hx1 hx2
          have he : Hid (wordsAt k m (kk + 1) = [actWord k, decS m]) := by show wordsAt k m (kk + 1) = _; unfold wordsAt; rw [if_pos ⟨hk, by omega⟩]
          clear hbl hkk2 HQ H6 hk
          go_upto_region 9 with fail
          go_region_held3 (fun _ => True) (trivial) (fail)
          have hB2 : Hid (Below w.heap.size w (wr.alloc (.cells #[.string (actWord k), .string (decS m)] 9)).drew) := (BW.out.alloc BW.out.size (.cells #[.string (actWord k), .string (decS m)] 9)).drew
          have h62 : Hid (Blk (wr.alloc (.cells #[.string (actWord k), .string (decS m)] 9)).drew wr.heap.size 9 ((wordsAt k m (kk + 1)).map Value.string).toArray) := by
            rw [he.out]
            exact Blk.new wr 9 #[.string (actWord k), .string (decS m)]
          have hA2 : Hid (Blk (wr.alloc (.cells #[.string (actWord k), .string (decS m)] 9)).drew w.heap.size 23 #[.int .i64 k, .int .i64 (m : Int)]) := HA.out.alloc _
          clear hx1 hx2 HA BW
          go_wp2
          go_roundg ((actText k m).size - (kk + 1))
          case measure => omega
          case rel => exact ⟨kk + 1, wr.heap.size, 2, by omega, by omega, by go_num, rfl, (by show 2 = _; rw [he.out]; rfl), hB2, h62, hA2⟩
        · have h32n : ¬ ((((actText k m)[kk]'hlt).toNat : Nat) : Int) = 32 := fun e => hp (hbl.1 (UInt8.toNat_inj.1 (by simpa using Int.ofNat.inj e)))
          have h32 : (((((actText k m)[kk]'hlt).toNat : Nat) : Int) == 32) = false := by simpa using h32n
          have he : Hid (wordsAt k m (kk + 1) = wordsAt k m kk) := by
            show wordsAt k m (kk + 1) = wordsAt k m kk
            unfold wordsAt
            by_cases hk : k = 4 ∨ k = 6
            · have hne : ¬ kk = (actWord k).size := fun e => hp ⟨hk, e⟩
              by_cases hl : (actWord k).size < kk
              · rw [if_pos ⟨hk, by omega⟩, if_pos ⟨hk, hl⟩]
              · rw [if_neg (fun h => hl (by omega)), if_neg (fun h => hl h.2)]
            · rw [if_neg (fun h => hk h.1), if_neg (fun h => hk h.1)]
          clear hbl hp
          go_wp2
          go_roundg ((actText k m).size - (kk + 1))
          case measure => omega
          case rel => exact ⟨kk + 1, B6, q, by omega, by omega, by go_num, rfl, (by show q = _; rw [he.out]; exact HQ.out), BW, (by show Blk _ _ _ _; rw [he.out]; exact H6.out), HA⟩
      · obtain rfl : kk = (actText k m).size := by omega
        have hltz : ¬ (((actText k m).size : Nat) : Int) < ((actText k m).size : Int) := by omega
        have hwo : Hid (wordsAt k m (actText k m).size = wordsOf k m) := by show _ = _; exact words_end k m
        have HQ2 : Hid (q = (wordsOf k m).length) := by show q = _; rw [← hwo.out]; exact HQ.out
        have H62 : Hid (Blk wr B6 9 ((wordsOf k m).map Value.string).toArray) := by show Blk _ _ _ _; rw [← hwo.out]; exact H6.out
        have hq3 : q ≤ 3 := by have := HQ2.out; unfold wordsOf at this; split at this <;> (simp at this; omega)
        clear HQ H6 hwo
        obtain ⟨i0, hi, hz0, hz1, hz2⟩ := info_parts infoStr
        have hold : ∀ b, some (⟨B6, 0, none⟩ : Addr) = some b → ∀ j u, ((wordsOf k m).map Value.string)[j]? = some u → (wr.alloc (.cells #[.string t] 9)).cell? (b.add j) = some u := by
          intro b hb j u hu
          obtain rfl := Option.some.inj hb
          have := (H62.out.alloc (.cells #[.string t] 9)).cell j
          rw [List.getElem?_toArray, hu] at this
          rw [Addr.add_lit, Nat.zero_add]
          exact this
        have hnew := cell_one_new wr (.string t) 9
        have hl1 : ((wordsOf k m).map Value.string).length = q * 1 := by rw [List.length_map, Nat.mul_one]; exact HQ2.out.symm
        have Hold := Lib.hid hold
        have Hnew := Lib.hid hnew
        have Hl1 := Lib.hid hl1
        have HBa := Lib.hid (BW.out.alloc BW.out.size (.cells #[.string t] 9))
        have HAa := Lib.hid (HA.out.alloc (.cells #[.string t] 9))
        clear hold hnew hl1 BW HA
        go_wp2_with (at_builtin; refine wpList_append_grows (wr.alloc (.cells #[.string t] 9)) rfl _ _ 52 rfl 9 i0 (.string ⟨#[]⟩) 1 16 Tryd.underlying52 hi hz0 hz1 hz2 rfl (by decide) (some ⟨B6, 0, none⟩) q q _ rfl (fun h => by cases h) Hl1.out Hold.out ⟨wr.heap.size, 0, none⟩ 1 1 [.string t] rfl rfl Hnew.out (by simp [Value.oneCell']) (by omega) (by unfold maxLen; omega) (by omega) ?_; intro v' w6 hown' hgrow)
        obtain ⟨g', cap', rfl⟩ := ownsRow_succ hown'
        have hlen : (wordsOf k m ++ [t]).length = q + 1 := by rw [List.length_append, ← HQ2.out]; rfl
        have hW6 : WordsV w6 (.slice (some ⟨g', 0, none⟩) (q + 1) cap') (wordsOf k m ++ [t]) := by
          refine ⟨_, cap', by rw [hlen], .inr ⟨g', 0, rfl, ?_, fun j x hj => ?_⟩⟩
          · rcases hown'.2 with ⟨h, _⟩ | ⟨_, _, _, h, _, hg, _⟩
            · cases h
            · cases h
              exact (Array.getElem?_eq_some_iff.1 hg).1
          · have hjl := (List.getElem?_eq_some_iff.1 hj).1
            have := hown'.cellAt j (by omega)
            rw [Nat.zero_add, this, show List.map Value.string (wordsOf k m) ++ [Value.string t] = List.map Value.string (wordsOf k m ++ [t]) by simp, List.getElem?_map, hj]
            rfl
        have hrd := read_any (.slice (some ⟨g', 0, none⟩) (q + 1) cap') (wordsOf k m ++ [t]) (by rw [hlen]; omega) (fun x hx => words_small k m t (by omega) (by omega) x hx) w6 hW6
        rw [Hrw.out t] at hrd
        have hrd2 : readV (k, (m : Int), ((wordsOf k m).length : Int), 0) = .tuple #[.agg #[.int .i64 k, .int .i64 (m : Int)], .int .i64 (q : Int), .int .i64 0] := by rw [← HQ2.out]; rfl
        rw [hrd2] at hrd
        have Hrd := Lib.hid hrd
        have HB6 := Lib.hid (HBa.out.grown hgrow (HBa.out.size) (fun j e => by cases e))
        have HA6 := Lib.hid (HAa.out.kept hgrow (by simp))
        clear hrd hrd2 hW6 hlen hown' hgrow HBa HAa Hold Hnew Hl1 H62 Hrw
        go_wp2_with fail
        refine Hrd.out.mono ?_
        rintro e w7 ⟨rfl, hb7⟩
        have HB8 := Lib.hid ((belB HB6 hb7).out.alloc (belB HB6 hb7).out.size (.cells #[.int .i64 k, .int .i64 (m : Int)] 25))
        have HX8 := Lib.hid (Blk.new w7 25 #[.int .i64 k, .int .i64 (m : Int)])
        have HA8 := Lib.hid ((blkB HA6 hb7).out.alloc (.cells #[.int .i64 k, .int .i64 (m : Int)] 25))
        clear hb7 HB6 HA6 Hrd HQ2
        go_upto_region 11 with fail
        generalize w7.alloc (.cells #[.int .i64 k, .int .i64 (m : Int)] 25) = W5 at *
        generalize w7.heap.size = B8 at *
        generalize hwh : w.heap.size = WH at *
        have x0 := HX8.out.cell 0
        have x1 := HX8.out.cell 1
        have y0 := HA8.out.cell 0
        have y1 := HA8.out.cell 1
        simp only [List.getElem?_toArray, List.getElem?_cons_zero, List.getElem?_cons_succ] at x0 x1 y0 y1
        have HWH := Lib.hid hwh
        clear hwh
        go_region_held3 (fun w' => w'.cell? ⟨B8, 0, none⟩ = some (.int .i64 k) ∧ w'.cell? ⟨B8, 1, none⟩ = some (.int .i64 (m : Int)) ∧ w'.cell? ⟨WH, 0, none⟩ = some (.int .i64 k) ∧ w'.cell? ⟨WH, 1, none⟩ = some (.int .i64 (m : Int)) ∧ Below W5.heap.size W5 w') (first | exact ⟨x0, x1, y0, y1, (Below.refl _ W5).drew⟩ | exact keep4 (by assumption) hbx | go_keep) (first | (go_at_call 12; refine (of09_any _ _ _).mono ?_; rintro e wx ⟨rfl, hbx⟩) | (go_at_call 19; refine (awake09_any _).mono ?_; rintro e wx ⟨rfl, hbx⟩))
        have hfin : Below W5.heap.size W5 wx := (show wx.cell? ⟨B8, 0, none⟩ = some (.int .i64 k) ∧ wx.cell? ⟨B8, 1, none⟩ = some (.int .i64 (m : Int)) ∧ wx.cell? ⟨WH, 0, none⟩ = some (.int .i64 k) ∧ wx.cell? ⟨WH, 1, none⟩ = some (.int .i64 (m : Int)) ∧ Below W5.heap.size W5 wx by assumption).2.2.2.2
        go_wp2
        go_ret
        exact ⟨rfl, by rw [HWH.out]; exact HB8.out.trans (hfin.mono (by have := HB8.out.size; rw [HWH.out] at this; exact this))⟩
end Go.Proofs.YtkgmbogmeppmcaaDoor
