/- mux.Ways; strainerlaw12.MuxWays: it answers true. -/
import Derived.Test.YtakmbmlpgmppiaaMux2
import Derived.Test.YtakmbmlpgmppiaaSysFinds
namespace Go.Proofs.Ytakmbmlpgmppiaa
open Go Go.Proofs Go.RowKit

set_option maxRecDepth 100000 in
set_option maxHeartbeats 1000000 in
theorem ways_any (nm : ByteArray) (y : SRow) (kk : Int) (b : Bool) (sv : Value) (l : List SRow) (w : World) (hbig : l.length ≤ 1000000) (hR : RowsV w sv l) (hT : TableOk l)
    (hf : findAns nm l = .tuple #[.agg #[.string y.name, .int .i64 y.n0, .int .i64 y.n1, .int .i64 y.n2, .int .i64 y.n3, .int .i64 y.n4, .int .i64 y.mux, .int .i64 y.sub], .int .i64 kk, .bool b]) :
    Calls Try.prog 26 #[sv, .string nm] w fun e w' => e = .returned (.tuple #[.bool (b && decide (0 ≤ y.n2)), .bool (decide (0 < y.mux))]) ∧ Below w.heap.size w w' := by
  have hfind := find_ok nm sv l w hbig hR hT
  rw [hf] at hfind
  clear hf hR
  have Hf := Lib.hid hfind
  clear hfind
  go_enter Try.func26, Try.ntmps26
  go_wp2_with fail
  refine Hf.out.mono ?_
  rintro e w1 ⟨rfl, hb1⟩
  have bY := Blk.new w1 33 #[.string y.name, .int .i64 y.n0, .int .i64 y.n1, .int .i64 y.n2, .int .i64 y.n3, .int .i64 y.n4, .int .i64 y.mux, .int .i64 y.sub]
  have c3 := bY.cell 3
  have c6 := bY.cell 6
  simp only [List.getElem?_toArray, List.getElem?_cons_zero, List.getElem?_cons_succ] at c3 c6
  have HB := Lib.hid (hb1.alloc hb1.size (.cells #[.string y.name, .int .i64 y.n0, .int .i64 y.n1, .int .i64 y.n2, .int .i64 y.n3, .int .i64 y.n4, .int .i64 y.mux, .int .i64 y.sub] 33))
  clear hb1 bY
  cases b with
  | false =>
    go_wp2_with fail
    go_quiet (fail)
    go_wp2
    go_ret2
    exact ⟨by simp, bdn HB.out _⟩
  | true =>
    go_wp2_with fail
    go_quiet (fail)
    go_wp2
    go_ret2
    exact ⟨by simp, bdn HB.out _⟩

set_option maxRecDepth 100000 in
set_option maxHeartbeats 3000000 in
theorem muxWays_any (nm : ByteArray) (num : Int) (h0 : 0 ≤ num) (h1 : num < 4294967296) (sv : Value) (l : List SRow) (w : World) (hR : RowsV w sv l) :
    Calls Try.prog 7 #[sv, .string nm, .int .u32 num] w fun e w' => e = .returned (.bool true) ∧ Below w.heap.size w w' := by
  have hlight := light12_any sv l w hR
  have HR := Lib.hid hR
  have HLt := Lib.hid hlight
  clear hR hlight
  go_enter Try.func7, Try.ntmps7
  go_wp2_with fail
  refine HLt.out.mono ?_
  rintro e w1 ⟨b, rfl, hT, hb1⟩
  clear HLt
  cases b with
  | false =>
    go_wp2
    go_ret
    exact ⟨rfl, hb1⟩
  | true =>
    have HT := Lib.hid (hT rfl).1
    have HL := Lib.hid (hT rfl).2
    clear hT
    by_cases hn : 60 < nm.size
    · go_wp2
      go_ret
      exact ⟨rfl, hb1⟩
    · have HB1 := Lib.hid hb1
      clear hb1
      have hof := of12_any sv l w1 (by have := HL.out; omega) (HR.out.below HB1.out)
      go_wp2_with fail
      refine hof.mono ?_
      rintro e w3 ⟨xv, rfl, hown, hb3⟩
      clear hof
      have HX := Lib.hid (rowsV_owned hown).1
      have HB3 := Lib.hid (HB1.out.trans (hb3.mono HB1.out.size))
      clear hown hb3 HB1
      obtain ⟨y, kk, b, hfi, hfe⟩ := findIs nm l
      have hways := ways_any nm y kk b xv l w3 (by have := HL.out; omega) HX.out HT.out hfe
      generalize hk : firstIdx (eqP nm) l = k at hfi
      clear hfe
      have HFI := Lib.hid hfi
      have HK := Lib.hid hk
      have HW := Lib.hid hways
      clear hfi hk hways
      go_wp2_with fail
      refine HW.out.mono ?_
      rintro e w4 ⟨rfl, hb4⟩
      clear HW
      have HB4 := Lib.hid (HB3.out.trans (hb4.mono HB3.out.size))
      clear hb4 HB3 HX
      have hrf := refFind_any nm sv l w4 (by have := HL.out; omega) (HR.out.below HB4.out)
      rw [HK.out] at hrf
      go_wp2_with fail
      refine hrf.mono ?_
      rintro e w5 ⟨rfl, m5, rfl⟩
      clear hrf
      have HB5 := Lib.hid (bdn HB4.out m5)
      clear HB4
      generalize w4.drewN m5 = W5 at *
      have hkn : kindN 102 = 1 := rfl
      have hkn2 : kindN 117 = 2 := rfl
      by_cases n1 : num = 102
      · subst n1
        have hkind : ∀ W, Calls Try.prog 27 #[.int .u32 102] W fun e w' => e = .returned (.int .i64 (kindN 102)) ∧ W = w' := kind_any 102
        rw [hkn] at hkind
        clear hkn hkn2
        have HKI := Lib.hid hkind
        clear hkind
        rcases HFI.out with ⟨hk0, hy, rfl, rfl⟩ | ⟨hk0, hk1, hy, rfl, rfl⟩
        · have g1 : decide (0 ≤ k) = false := decide_eq_false (by omega)
          have g2 : decide (0 < y.mux) = false := by rw [hy]; rfl
          clear hy
          go_wp2_with (first | (go_at_call 27; refine (HKI.out _).mono ?_; rintro e w' ⟨rfl, rfl⟩) | (go_at_call 25; refine (awake12_any _).mono ?_; rintro e wa ⟨rfl, hba⟩))
          go_ret
          exact ⟨rfl, HB5.out.trans (hba.mono HB5.out.size)⟩
        · obtain ⟨i, rfl⟩ := Int.eq_ofNat_of_zero_le hk0
          have g1 : decide (0 ≤ (i : Int)) = true := decide_eq_true hk0
          obtain ⟨ad, cp, hxv, hx⟩ := HR.out.below HB5.out
          have hjl : i < l.length := by omega
          rw [Int.toNat_natCast] at hy
          obtain ⟨b, off, rfl, hlt, hr⟩ : ∃ b off, ad = some ⟨b, off, none⟩ ∧ b < W5.heap.size ∧ RowsAt W5 b off l := by
            rcases hx with h | h
            · rw [h] at hjl; simp at hjl
            · exact h
          have hrow := hr i hjl
          rw [← hy] at hrow
          have d3 : W5.cell? ⟨b, off + i * 8 + 1 + 2, none⟩ = some (.int .i64 y.n2) := hrow 3 _ rfl
          have d6 := hrow 6 _ rfl
          clear hrow hr hx hy
          subst hxv
          generalize l.length = len at *
          go_wp2_with (first | (go_at_call 27; refine (HKI.out _).mono ?_; rintro e w' ⟨rfl, rfl⟩) | (go_at_call 25; refine (awake12_any _).mono ?_; rintro e wa ⟨rfl, hba⟩))
          go_ret
          exact ⟨rfl, HB5.out.trans (hba.mono HB5.out.size)⟩
      · by_cases n2 : num = 117
        · subst n2
          have hkind : ∀ W, Calls Try.prog 27 #[.int .u32 117] W fun e w' => e = .returned (.int .i64 (kindN 117)) ∧ W = w' := kind_any 117
          rw [hkn2] at hkind
          clear hkn hkn2
          have HKI := Lib.hid hkind
          clear hkind
          rcases HFI.out with ⟨hk0, hy, rfl, rfl⟩ | ⟨hk0, hk1, hy, rfl, rfl⟩
          · have g1 : decide (0 ≤ k) = false := decide_eq_false (by omega)
            have g2 : decide (0 < y.mux) = false := by rw [hy]; rfl
            clear hy
            go_wp2_with (first | (go_at_call 27; refine (HKI.out _).mono ?_; rintro e w' ⟨rfl, rfl⟩) | (go_at_call 25; refine (awake12_any _).mono ?_; rintro e wa ⟨rfl, hba⟩))
            go_ret
            exact ⟨rfl, HB5.out.trans (hba.mono HB5.out.size)⟩
          · obtain ⟨i, rfl⟩ := Int.eq_ofNat_of_zero_le hk0
            have g1 : decide (0 ≤ (i : Int)) = true := decide_eq_true hk0
            obtain ⟨ad, cp, hxv, hx⟩ := HR.out.below HB5.out
            have hjl : i < l.length := by omega
            rw [Int.toNat_natCast] at hy
            obtain ⟨b, off, rfl, hlt, hr⟩ : ∃ b off, ad = some ⟨b, off, none⟩ ∧ b < W5.heap.size ∧ RowsAt W5 b off l := by
              rcases hx with h | h
              · rw [h] at hjl; simp at hjl
              · exact h
            have hrow := hr i hjl
            rw [← hy] at hrow
            have d3 : W5.cell? ⟨b, off + i * 8 + 1 + 2, none⟩ = some (.int .i64 y.n2) := hrow 3 _ rfl
            have d6 := hrow 6 _ rfl
            clear hrow hr hx hy
            subst hxv
            generalize l.length = len at *
            go_wp2_with (first | (go_at_call 27; refine (HKI.out _).mono ?_; rintro e w' ⟨rfl, rfl⟩) | (go_at_call 25; refine (awake12_any _).mono ?_; rintro e wa ⟨rfl, hba⟩))
            go_ret
            exact ⟨rfl, HB5.out.trans (hba.mono HB5.out.size)⟩
        · have hk0 : kindN num = 0 := by unfold kindN; rw [if_neg n1, if_neg n2]
          have n1' : (num == 102) = false := by simpa using n1
          have n2' : (num == 117) = false := by simpa using n2
          clear n1 n2
          have hkind : ∀ W, Calls Try.prog 27 #[.int .u32 num] W fun e w' => e = .returned (.int .i64 (kindN num)) ∧ W = w' := kind_any num
          rw [hk0] at hkind
          clear hkn hkn2 hk0
          have HKI := Lib.hid hkind
          clear hkind
          rcases HFI.out with ⟨hk0, hy, rfl, rfl⟩ | ⟨hk0, hk1, hy, rfl, rfl⟩
          · have g1 : decide (0 ≤ k) = false := decide_eq_false (by omega)
            have g2 : decide (0 < y.mux) = false := by rw [hy]; rfl
            clear hy
            go_wp2_with (first | (go_at_call 27; refine (HKI.out _).mono ?_; rintro e w' ⟨rfl, rfl⟩) | (go_at_call 25; refine (awake12_any _).mono ?_; rintro e wa ⟨rfl, hba⟩))
            go_ret
            exact ⟨rfl, HB5.out.trans (hba.mono HB5.out.size)⟩
          · obtain ⟨i, rfl⟩ := Int.eq_ofNat_of_zero_le hk0
            have g1 : decide (0 ≤ (i : Int)) = true := decide_eq_true hk0
            obtain ⟨ad, cp, hxv, hx⟩ := HR.out.below HB5.out
            have hjl : i < l.length := by omega
            rw [Int.toNat_natCast] at hy
            obtain ⟨b, off, rfl, hlt, hr⟩ : ∃ b off, ad = some ⟨b, off, none⟩ ∧ b < W5.heap.size ∧ RowsAt W5 b off l := by
              rcases hx with h | h
              · rw [h] at hjl; simp at hjl
              · exact h
            have hrow := hr i hjl
            rw [← hy] at hrow
            have d3 : W5.cell? ⟨b, off + i * 8 + 1 + 2, none⟩ = some (.int .i64 y.n2) := hrow 3 _ rfl
            have d6 := hrow 6 _ rfl
            clear hrow hr hx hy
            subst hxv
            generalize l.length = len at *
            go_wp2_with (first | (go_at_call 27; refine (HKI.out _).mono ?_; rintro e w' ⟨rfl, rfl⟩) | (go_at_call 25; refine (awake12_any _).mono ?_; rintro e wa ⟨rfl, hba⟩))
            go_ret
            exact ⟨rfl, HB5.out.trans (hba.mono HB5.out.size)⟩
end Go.Proofs.Ytakmbmlpgmppiaa
