/- strainerlaw11.SystabFinds: it answers true. -/
import Derived.Test.YtakmbmlpgmppiaaSysAwake
import Derived.Deep.DeepCutAuto
import Derived.Lib.MinMax
namespace Go.Proofs.Ytakmbmlpgmppiaa
open Go Go.Proofs Go.RowKit

theorem bdn {B : Nat} {a w : World} (h : Below B a w) (q : Nat) : Below B a (w.drewN q) := ⟨h.os, h.tape, h.output, h.size, h.block⟩
/-- Find's answer, taken apart. -/
def FindIs (l : List SRow) (k : Int) (y : SRow) (kk : Int) (b : Bool) : Prop :=
  (k < 0 ∧ y = SRow.zero ∧ kk = 0 ∧ b = false) ∨ (0 ≤ k ∧ k < l.length ∧ y = l[k.toNat]! ∧ kk = k ∧ b = true)
theorem findIs (t : ByteArray) (l : List SRow) : ∃ y kk b, FindIs l (firstIdx (eqP t) l) y kk b ∧ findAns t l = .tuple #[.agg #[.string y.name, .int .i64 y.n0, .int .i64 y.n1, .int .i64 y.n2, .int .i64 y.n3, .int .i64 y.n4, .int .i64 y.mux, .int .i64 y.sub], .int .i64 kk, .bool b] := by
  have hr := firstIdx_range (eqP t) l
  unfold findAns
  generalize firstIdx (eqP t) l = k at hr
  by_cases h : k < 0
  · rw [if_pos h]; exact ⟨_, _, _, .inl ⟨h, rfl, rfl, rfl⟩, rfl⟩
  · rw [if_neg h]; exact ⟨_, _, _, .inr ⟨by omega, by omega, rfl, rfl, rfl⟩, rfl⟩
/-- Sub's answer, taken apart. -/
def SubIs (l : List SRow) (j : Int) (s : ByteArray) (b : Bool) : Prop :=
  (j < 0 ∧ s = ⟨#[]⟩ ∧ b = false) ∨ (0 ≤ j ∧ j < l.length ∧ s = (l[j.toNat]!).name ∧ b = true)
theorem subIs (mux sub : Int) (l : List SRow) : ∃ s b, SubIs l (firstIdx (rsubP mux sub) l) s b ∧ rsubAns mux sub l = .tuple #[.string s, .bool b] := by
  have hr := firstIdx_range (rsubP mux sub) l
  unfold rsubAns
  generalize firstIdx (rsubP mux sub) l = k at hr
  by_cases h : k < 0
  · rw [if_pos h]; exact ⟨_, _, .inl ⟨h, rfl, rfl⟩, rfl⟩
  · rw [if_neg h]; exact ⟨_, _, .inr ⟨by omega, by omega, rfl, rfl⟩, rfl⟩
def NumIs (l : List SRow) (a : Nat) (k n e : Int) : Prop := (k < 0 ∧ n = 0 ∧ e = 14) ∨ (0 ≤ k ∧ k < l.length ∧ n = rnum l a k.toNat ∧ e = 0)
theorem numIs (t : ByteArray) (l : List SRow) (a : Nat) : ∃ n e, NumIs l a (firstIdx (eqP t) l) n e ∧ numAns t l a = .tuple #[.int .i64 n, .int .i64 e] := by
  have hr := firstIdx_range (eqP t) l
  unfold numAns
  generalize firstIdx (eqP t) l = k at hr
  by_cases h : k < 0
  · rw [if_pos h]; exact ⟨_, _, .inl ⟨h, rfl, rfl⟩, rfl⟩
  · rw [if_neg h]; exact ⟨_, _, .inr ⟨by omega, by omega, rfl, rfl⟩, rfl⟩
def AtIs (l : List SRow) (m : Int) (s : ByteArray) (e : Int) : Prop := (m < 0 ∧ s = ⟨#[]⟩ ∧ e = 14) ∨ (0 ≤ m ∧ m < l.length ∧ s = (l[m.toNat]!).name ∧ e = 0)
theorem firstN_range (q : Nat → Bool) (n : Nat) : firstN q 0 n = -1 ∨ (0 ≤ firstN q 0 n ∧ firstN q 0 n < n) := by
  rcases least q n with hm | ⟨k, hk, h1, h2⟩
  · exact .inl (firstN_miss q n 0 (fun j _ hj => hm j (by omega)))
  · rw [firstN_hit q n 0 k (Nat.zero_le _) (by omega) (fun j _ hj => h2 j hj) h1]
    right; omega
theorem atIs (l : List SRow) (a : Nat) (v : Int) : ∃ s e, AtIs l (atI l a v) s e ∧ atAns l a v = .tuple #[.string s, .int .i64 e] := by
  have hr : atI l a v = -1 ∨ _ := firstN_range (fun i => rnum l a i == v) l.length
  unfold atAns
  change atI l a v = -1 ∨ (0 ≤ atI l a v ∧ atI l a v < l.length) at hr
  generalize atI l a v = k at hr
  by_cases h : k < 0
  · rw [if_pos h]; exact ⟨_, _, .inl ⟨h, rfl, rfl⟩, rfl⟩
  · rw [if_neg h]; exact ⟨_, _, .inr ⟨by omega, by omega, rfl, rfl⟩, rfl⟩

theorem eqArr (a0 a1 a2 a3 a4 : Int) (d : Nat) (w : World) : (Op.equalIn (d + 2) 31 (.agg #[.int .i64 a0, .int .i64 a1, .int .i64 a2, .int .i64 a3, .int .i64 a4]) (.agg #[.int .i64 a0, .int .i64 a1, .int .i64 a2, .int .i64 a3, .int .i64 a4])).run Try.prog w = .ok true w := by
  have hs : ∀ w, (sizeOf 3).run Try.prog w = .ok 1 w := fun w => by kernel_rfl
  have p0 : ∀ w, (part 3 #[.int .i64 a0, .int .i64 a1, .int .i64 a2, .int .i64 a3, .int .i64 a4] 0).run Try.prog w = .ok (.int .i64 a0) w := fun w => by kernel_rfl
  have p1 : ∀ w, (part 3 #[.int .i64 a0, .int .i64 a1, .int .i64 a2, .int .i64 a3, .int .i64 a4] 1).run Try.prog w = .ok (.int .i64 a1) w := fun w => by kernel_rfl
  have p2 : ∀ w, (part 3 #[.int .i64 a0, .int .i64 a1, .int .i64 a2, .int .i64 a3, .int .i64 a4] 2).run Try.prog w = .ok (.int .i64 a2) w := fun w => by kernel_rfl
  have p3 : ∀ w, (part 3 #[.int .i64 a0, .int .i64 a1, .int .i64 a2, .int .i64 a3, .int .i64 a4] 3).run Try.prog w = .ok (.int .i64 a3) w := fun w => by kernel_rfl
  have p4 : ∀ w, (part 3 #[.int .i64 a0, .int .i64 a1, .int .i64 a2, .int .i64 a3, .int .i64 a4] 4).run Try.prog w = .ok (.int .i64 a4) w := fun w => by kernel_rfl
  have he : ∀ (a : Int) (w : World), (Op.equalIn (d + 1) 3 (.int .i64 a) (.int .i64 a)).run Try.prog w = .ok true w := fun a w => by
    rw [run_equalIn_int w d _ .i64 .i64 a a Try.underlying3]; simp
  unfold Op.equalIn
  simp [run_underlying Try.underlying31, hs, p0, p1, p2, p3, p4, he, List.range', -List.forIn_pure_yield_eq_foldl]
theorem fields33 : (Try.prog.fieldsOf 33).toList.map (fun f => (f.name, f.type, f.offset)) = [("Name", 9, 0), ("Numbers", 31, 1), ("Mux", 3, 6), ("Sub", 3, 7)] := by kernel_rfl
theorem eqFields_same (d : Nat) (xs : Array Value) (v : Nat → TypeId → Value) (w : World) : ∀ (fs : List Field),
    (∀ f ∈ fs, (part f.type xs f.offset).run Try.prog w = .ok (v f.offset f.type) w ∧ (Op.equalIn d f.type (v f.offset f.type) (v f.offset f.type)).run Try.prog w = .ok true w) → (Op.eqFields d xs xs fs).run Try.prog w = .ok true w
  | [], _ => rfl
  | f :: fs, h => by
    obtain ⟨h1, h2⟩ := h f (by simp)
    have ih := eqFields_same d xs v w fs (fun g hg => h g (by simp [hg]))
    unfold Op.eqFields
    split
    · simp only [Sem.run_bind, h1, h2, Result.andThen_ok, Bool.not_true, Bool.false_eq_true, if_false]
      exact ih
    · exact ih
theorem neqRow (r : SRow) (w : World) : (Go.binOp .neq 33 (.agg #[.string r.name, .int .i64 r.n0, .int .i64 r.n1, .int .i64 r.n2, .int .i64 r.n3, .int .i64 r.n4, .int .i64 r.mux, .int .i64 r.sub]) (.agg #[.string r.name, .int .i64 r.n0, .int .i64 r.n1, .int .i64 r.n2, .int .i64 r.n3, .int .i64 r.n4, .int .i64 r.mux, .int .i64 r.sub])).run Try.prog w = .ok (.bool false) w := by
  rw [run_neq_struct, run_equalIn_struct w 9999 _ _ _ (by kernel_rfl) (by kernel_rfl)]
  rw [eqFields_same 9999 _ (fun o _ => match o with | 0 => .string r.name | 1 => .agg #[.int .i64 r.n0, .int .i64 r.n1, .int .i64 r.n2, .int .i64 r.n3, .int .i64 r.n4] | 6 => .int .i64 r.mux | _ => .int .i64 r.sub) w]
  · rfl
  · intro f hf
    have h := List.mem_map_of_mem (f := fun f : Field => (f.name, f.type, f.offset)) hf
    rw [fields33] at h
    simp only [List.mem_cons, Prod.mk.injEq, List.not_mem_nil, or_false] at h
    rcases h with ⟨_, h1, h2⟩ | ⟨_, h1, h2⟩ | ⟨_, h1, h2⟩ | ⟨_, h1, h2⟩
    · rw [h1, h2]
      exact ⟨by kernel_rfl, (run_equalIn_string w 9998 9 r.name r.name Try.underlying9).trans (by simp)⟩
    · rw [h1, h2]
      exact ⟨by kernel_rfl, eqArr _ _ _ _ _ _ w⟩
    · rw [h1, h2]
      exact ⟨by kernel_rfl, (run_equalIn_int w 9998 3 .i64 .i64 r.mux r.mux Try.underlying3).trans (by simp)⟩
    · rw [h1, h2]
      exact ⟨by kernel_rfl, (run_equalIn_int w 9998 3 .i64 .i64 r.sub r.sub Try.underlying3).trans (by simp)⟩

set_option maxRecDepth 100000 in
set_option maxHeartbeats 3000000 in
theorem finds_any (nm : ByteArray) (a n m s : Int) (sv : Value) (l : List SRow) (w : World) (hR : RowsV w sv l) :
    Calls Try.prog 3 #[sv, .string nm, .agg #[.int .i64 a, .int .i64 n, .int .i64 m, .int .i64 s]] w fun e w' => e = .returned (.bool true) ∧ Below w.heap.size w w' := by
  have B0 := (Below.refl w.heap.size w).alloc (Nat.le_refl _) (.cells #[.int .i64 a, .int .i64 n, .int .i64 m, .int .i64 s] 24)
  have Q0 := Blk.new w 24 #[.int .i64 a, .int .i64 n, .int .i64 m, .int .i64 s]
  have hR0 := hR.below B0
  have hlight := light_any sv l _ hR0
  have HR := Lib.hid hR
  have HB := Lib.hid B0
  have HQ := Lib.hid Q0
  clear hR hR0 B0 Q0
  go_enter Try.func3, Try.ntmps3
  go_wp2_with fail
  refine hlight.mono ?_
  rintro e w1 ⟨rfl, m1, rfl⟩
  clear hlight
  cases hl : lightB l with
  | false =>
    clear hl
    go_wp2
    go_ret
    exact ⟨rfl, bdn HB.out _⟩
  | true =>
    have hlen : l.length ≤ 40 := by
      unfold lightB at hl
      simp only [Bool.and_eq_true, decide_eq_true_eq] at hl
      exact hl.1
    clear hl
    have HL := Lib.hid hlen
    clear hlen
    by_cases hn : 60 < nm.size
    · go_wp2
      go_ret
      exact ⟨rfl, bdn HB.out _⟩
    · have HB1 := Lib.hid (bdn HB.out m1)
      have HQ1 : Hid (Blk ((w.alloc (.cells #[.int .i64 a, .int .i64 n, .int .i64 m, .int .i64 s] 24)).drewN m1) w.heap.size 24 #[.int .i64 a, .int .i64 n, .int .i64 m, .int .i64 s]) := HQ.out
      clear HB HQ
      generalize (w.alloc (.cells #[.int .i64 a, .int .i64 n, .int .i64 m, .int .i64 s] 24)).drewN m1 = W1 at *
      have hright := refRight_any sv l W1 (by have := HL.out; omega) (HR.out.below HB1.out)
      go_wp2_with fail
      refine hright.mono ?_
      rintro e w2 ⟨x, v, rfl, hsaid, hb2⟩
      clear hright
      have HB2 := Lib.hid (HB1.out.trans (hb2.mono HB1.out.size))
      have HQ2 := Lib.hid (HQ1.out.below hb2 HQ1.out.lt)
      have HS := Lib.hid hsaid
      clear hsaid hb2 HB1 HQ1
      by_cases hv : v = 0
      · subst hv
        have HT : Hid (TableOk l) := by
          rcases HS.out with h | ⟨_, ⟨i, _, _, h, _⟩ | ⟨_, _, h⟩⟩
          · omega
          · exact absurd rfl h
          · exact h
        have hof := of_any sv l w2 (by have := HL.out; omega) (HR.out.below HB2.out)
        go_wp2_with fail
        refine hof.mono ?_
        rintro e w3 ⟨xv, rfl, hown, hb3⟩
        clear hof
        have HX := Lib.hid (rowsV_owned hown).1
        have HB3 := Lib.hid (HB2.out.trans (hb3.mono HB2.out.size))
        have HQ3 := Lib.hid (HQ2.out.below hb3 HQ2.out.lt)
        clear hown hb3 HB2 HQ2
        have hfind := find_ok nm xv l w3 (by have := HL.out; omega) HX.out HT.out
        obtain ⟨y, kk, b, hfi, hfe⟩ := findIs nm l
        rw [hfe] at hfind
        generalize hk : firstIdx (eqP nm) l = k at hfi
        clear hfe
        have HFI := Lib.hid hfi
        have HK := Lib.hid hk
        clear hfi hk
        go_wp2_with fail
        refine hfind.mono ?_
        rintro e w4 ⟨rfl, hb4⟩
        clear hfind
        have hbY := (HB3.out.trans (hb4.mono HB3.out.size)).alloc (Nat.le_trans HB3.out.size hb4.size) (.cells #[.string y.name, .int .i64 y.n0, .int .i64 y.n1, .int .i64 y.n2, .int .i64 y.n3, .int .i64 y.n4, .int .i64 y.mux, .int .i64 y.sub] 33)
        have hqY := (HQ3.out.below hb4 HQ3.out.lt).alloc (.cells #[.string y.name, .int .i64 y.n0, .int .i64 y.n1, .int .i64 y.n2, .int .i64 y.n3, .int .i64 y.n4, .int .i64 y.mux, .int .i64 y.sub] 33)
        have hxY := HX.out.below (hb4.alloc hb4.size (.cells #[.string y.name, .int .i64 y.n0, .int .i64 y.n1, .int .i64 y.n2, .int .i64 y.n3, .int .i64 y.n4, .int .i64 y.mux, .int .i64 y.sub] 33))
        have hyY := Blk.new w4 33 #[.string y.name, .int .i64 y.n0, .int .i64 y.n1, .int .i64 y.n2, .int .i64 y.n3, .int .i64 y.n4, .int .i64 y.mux, .int .i64 y.sub]
        have hrf := refFind_any nm sv l (w4.alloc (.cells #[.string y.name, .int .i64 y.n0, .int .i64 y.n1, .int .i64 y.n2, .int .i64 y.n3, .int .i64 y.n4, .int .i64 y.mux, .int .i64 y.sub] 33)) (by have := HL.out; omega) (HR.out.below hbY)
        rw [HK.out] at hrf
        have HBY := Lib.hid hbY
        have HQY := Lib.hid hqY
        have HXY := Lib.hid hxY
        have HYY := Lib.hid hyY
        clear hbY hqY hxY hyY
        go_wp2_with fail
        refine hrf.mono ?_
        rintro e w5 ⟨rfl, m5, rfl⟩
        clear hrf
        go_upto_region 9 with fail
        have HB5 := Lib.hid (bdn HBY.out m5)
        have HQ5 : Hid (Blk ((w4.alloc (.cells #[.string y.name, .int .i64 y.n0, .int .i64 y.n1, .int .i64 y.n2, .int .i64 y.n3, .int .i64 y.n4, .int .i64 y.mux, .int .i64 y.sub] 33)).drewN m5) w.heap.size 24 #[.int .i64 a, .int .i64 n, .int .i64 m, .int .i64 s]) := HQY.out
        have HX5 : Hid (RowsV ((w4.alloc (.cells #[.string y.name, .int .i64 y.n0, .int .i64 y.n1, .int .i64 y.n2, .int .i64 y.n3, .int .i64 y.n4, .int .i64 y.mux, .int .i64 y.sub] 33)).drewN m5) xv l) := HXY.out
        have HY5 : Hid (Blk ((w4.alloc (.cells #[.string y.name, .int .i64 y.n0, .int .i64 y.n1, .int .i64 y.n2, .int .i64 y.n3, .int .i64 y.n4, .int .i64 y.mux, .int .i64 y.sub] 33)).drewN m5) w4.heap.size 33 #[.string y.name, .int .i64 y.n0, .int .i64 y.n1, .int .i64 y.n2, .int .i64 y.n3, .int .i64 y.n4, .int .i64 y.mux, .int .i64 y.sub]) := HYY.out
        clear HBY HQY HXY HYY
        generalize (w4.alloc (.cells #[.string y.name, .int .i64 y.n0, .int .i64 y.n1, .int .i64 y.n2, .int .i64 y.n3, .int .i64 y.n4, .int .i64 y.mux, .int .i64 y.sub] 33)).drewN m5 = W5 at *
        generalize w4.heap.size = Y5 at *
        go_cut [80] (fun s80 wx => s80 = .bool false ∧ Hid (∃ q, wx = W5.drewN q))
        case first =>
          rcases HFI.out with ⟨hk0, hy, rfl, rfl⟩ | ⟨hk0, hk1, hy, rfl, rfl⟩
          · have g1 : decide (0 ≤ k) = false := decide_eq_false (by omega)
            have g2 : decide (k < 0) = true := decide_eq_true hk0
            have g3 : max k 0 = 0 := by omega
            have c0 := HY5.out.cell 0
            have c1 := HY5.out.cell 1
            have c2 := HY5.out.cell 2
            have c3 := HY5.out.cell 3
            have c4 := HY5.out.cell 4
            have c5 := HY5.out.cell 5
            have c6 := HY5.out.cell 6
            have c7 := HY5.out.cell 7
            simp only [List.getElem?_toArray, List.getElem?_cons_zero, List.getElem?_cons_succ] at c0 c1 c2 c3 c4 c5 c6 c7
            have e0 : y.name = ⟨#[]⟩ := by rw [hy]; rfl
            have e1 : y.n0 = 0 := by rw [hy]; rfl
            have e2 : y.n1 = 0 := by rw [hy]; rfl
            have e3 : y.n2 = 0 := by rw [hy]; rfl
            have e4 : y.n3 = 0 := by rw [hy]; rfl
            have e5 : y.n4 = 0 := by rw [hy]; rfl
            have e6 : y.mux = 0 := by rw [hy]; rfl
            have e7 : y.sub = 0 := by rw [hy]; rfl
            clear hy
            have hN := neqRow SRow.zero
            simp only [SRow.zero] at hN
            go_quiet (fail)
            go_wp2_with fail
            go_meet
            exact ⟨rfl, ⟨nq, rfl⟩⟩
          · obtain ⟨j, rfl⟩ := Int.eq_ofNat_of_zero_le hk0
            have g1 : decide (0 ≤ (j : Int)) = true := decide_eq_true hk0
            have g2 : decide ((j : Int) < 0) = false := decide_eq_false (by omega)
            have g3 : max (j : Int) 0 = (j : Int) := by omega
            have c0 := HY5.out.cell 0
            have c1 := HY5.out.cell 1
            have c2 := HY5.out.cell 2
            have c3 := HY5.out.cell 3
            have c4 := HY5.out.cell 4
            have c5 := HY5.out.cell 5
            have c6 := HY5.out.cell 6
            have c7 := HY5.out.cell 7
            simp only [List.getElem?_toArray, List.getElem?_cons_zero, List.getElem?_cons_succ] at c0 c1 c2 c3 c4 c5 c6 c7
            obtain ⟨ad, cp, hxv, hx⟩ := HX5.out
            have hjl : j < l.length := by omega
            rw [Int.toNat_natCast] at hy
            obtain ⟨b, off, rfl, hlt, hr⟩ : ∃ b off, ad = some ⟨b, off, none⟩ ∧ b < W5.heap.size ∧ RowsAt W5 b off l := by
              rcases hx with h | h
              · rw [h] at hjl; simp at hjl
              · exact h
            have hrow := hr j hjl
            rw [← hy] at hrow
            have d0 := hrow 0 _ rfl
            have d1 := hrow 1 _ rfl
            have d2 := hrow 2 _ rfl
            have d3 := hrow 3 _ rfl
            have d4 := hrow 4 _ rfl
            have d5 := hrow 5 _ rfl
            have d6 := hrow 6 _ rfl
            have d7 := hrow 7 _ rfl
            simp only [Nat.add_zero] at d0
            clear hrow hr hx hy HX5
            have hN := neqRow y
            subst hxv
            generalize l.length = len at *
            go_quiet (fail)
            go_wp2_with fail
            go_meet
            exact ⟨rfl, ⟨nq, rfl⟩⟩
        case rest =>
          obtain ⟨rfl, hw⟩ := hcut
          obtain ⟨q, rfl⟩ := hw.out
          have HB6 := Lib.hid (bdn HB5.out q)
          have HQ6 : Hid (Blk (W5.drewN q) w.heap.size 24 #[.int .i64 a, .int .i64 n, .int .i64 m, .int .i64 s]) := HQ5.out
          have HX6 : Hid (RowsV (W5.drewN q) xv l) := HX5.out
          clear hw HB5 HQ5 HX5 HY5
          generalize W5.drewN q = W6 at *
          have q0 := HQ6.out.cell 0
          have q1 := HQ6.out.cell 1
          have q2 := HQ6.out.cell 2
          have q3 := HQ6.out.cell 3
          simp only [List.getElem?_toArray, List.getElem?_cons_zero, List.getElem?_cons_succ] at q0 q1 q2 q3
          have hsub := sub_ok m s xv l W6 (by have := HL.out; omega) HX6.out HT.out
          obtain ⟨ss, sb, hsi, hse⟩ := subIs m s l
          rw [hse] at hsub
          generalize hj : firstIdx (rsubP m s) l = j at hsi
          clear hse
          have HSI := Lib.hid hsi
          have HJ := Lib.hid hj
          clear hsi hj
          go_wp2_with fail
          refine hsub.mono ?_
          rintro e w7 ⟨rfl, hb7⟩
          clear hsub q0 q1 q2 q3
          have HB7 := Lib.hid (HB6.out.trans (hb7.mono HB6.out.size))
          have HQ7 := Lib.hid (HQ6.out.below hb7 HQ6.out.lt)
          have HX7 := Lib.hid (HX6.out.below hb7)
          clear hb7 HB6 HQ6 HX6
          have hrs := refSub_any m s sv l w7 (by have := HL.out; omega) (HR.out.below HB7.out)
          rw [HJ.out] at hrs
          have q0 := HQ7.out.cell 0
          have q1 := HQ7.out.cell 1
          have q2 := HQ7.out.cell 2
          have q3 := HQ7.out.cell 3
          simp only [List.getElem?_toArray, List.getElem?_cons_zero, List.getElem?_cons_succ] at q0 q1 q2 q3
          go_wp2_with fail
          refine hrs.mono ?_
          rintro e w8 ⟨rfl, m8, rfl⟩
          clear hrs q0 q1 q2 q3
          have HB8 := Lib.hid (bdn HB7.out m8)
          have HQ8 : Hid (Blk (w7.drewN m8) w.heap.size 24 #[.int .i64 a, .int .i64 n, .int .i64 m, .int .i64 s]) := HQ7.out
          have HX8 : Hid (RowsV (w7.drewN m8) xv l) := HX7.out
          clear HB7 HQ7 HX7
          generalize w7.drewN m8 = W8 at *
          go_upto_region 13 with fail
          go_cut [120] (fun s120 wx => s120 = .bool false ∧ Hid (∃ q, wx = W8.drewN q))
          case first =>
            rcases HSI.out with ⟨hk0, hs0, hb0⟩ | ⟨hk0, hk1, hs0, hb0⟩
            · subst hs0
              subst hb0
              have g1 : decide (0 ≤ j) = false := decide_eq_false (by omega)
              have g2 : decide (j < 0) = true := decide_eq_true hk0
              go_wp2_with fail
              go_meet
              exact ⟨rfl, ⟨0, rfl⟩⟩
            · subst hb0
              obtain ⟨i, rfl⟩ := Int.eq_ofNat_of_zero_le hk0
              have g1 : decide (0 ≤ (i : Int)) = true := decide_eq_true hk0
              have g2 : decide ((i : Int) < 0) = false := decide_eq_false (by omega)
              obtain ⟨ad, cp, hxv, hx⟩ := HR.out.below HB8.out
              have hjl : i < l.length := by omega
              rw [Int.toNat_natCast] at hs0
              obtain ⟨b, off, rfl, hlt, hr⟩ : ∃ b off, ad = some ⟨b, off, none⟩ ∧ b < W8.heap.size ∧ RowsAt W8 b off l := by
                rcases hx with h | h
                · rw [h] at hjl; simp at hjl
                · exact h
              have d0 := hr.nameCell hjl
              rw [← hs0] at d0
              clear hr hx hs0
              subst hxv
              generalize l.length = len at *
              go_wp2_with fail
              go_meet
              exact ⟨rfl, ⟨0, rfl⟩⟩
          case rest =>
            obtain ⟨rfl, hw⟩ := hcut
            obtain ⟨q, rfl⟩ := hw.out
            have HB9 := Lib.hid (bdn HB8.out q)
            have HQ9 : Hid (Blk (W8.drewN q) w.heap.size 24 #[.int .i64 a, .int .i64 n, .int .i64 m, .int .i64 s]) := HQ8.out
            have HX9 : Hid (RowsV (W8.drewN q) xv l) := HX8.out
            clear hw HB8 HQ8 HX8
            generalize W8.drewN q = W9 at *
            have q0 := HQ9.out.cell 0
            have q1 := HQ9.out.cell 1
            have q2 := HQ9.out.cell 2
            have q3 := HQ9.out.cell 3
            simp only [List.getElem?_toArray, List.getElem?_cons_zero, List.getElem?_cons_succ] at q0 q1 q2 q3
            by_cases ha0 : a < 0
            · have g1 : decide (a < 0) = true := decide_eq_true ha0
              go_wp2_with fail
              refine (number_out nm xv a (.inl ha0) W9).mono ?_
              rintro e w9 ⟨rfl, rfl⟩
              go_wp2_with fail
              refine (name_out xv a n (.inl ha0) W9).mono ?_
              rintro e w10 ⟨rfl, hb10⟩
              clear q0 q1 q2 q3
              have HB10 := Lib.hid (HB9.out.trans (hb10.mono HB9.out.size))
              have HQ10 := Lib.hid (HQ9.out.below hb10 HQ9.out.lt)
              clear hb10 HB9 HQ9
              have q0 := HQ10.out.cell 0
              have q1 := HQ10.out.cell 1
              have q2 := HQ10.out.cell 2
              have q3 := HQ10.out.cell 3
              simp only [List.getElem?_toArray, List.getElem?_cons_zero, List.getElem?_cons_succ] at q0 q1 q2 q3
              go_wp2_with (go_at_call 10; refine (awake_any _).mono ?_; rintro e wa ⟨rfl, hba⟩)
              go_ret
              exact ⟨rfl, HB10.out.trans (hba.mono HB10.out.size)⟩
            · by_cases ha5 : 5 ≤ a
              · have g1 : decide (a < 0) = false := decide_eq_false ha0
                have g2 : decide (4 < a) = true := decide_eq_true (by omega)
                go_wp2_with fail
                refine (number_out nm xv a (.inr ha5) W9).mono ?_
                rintro e w9 ⟨rfl, rfl⟩
                go_wp2_with fail
                refine (name_out xv a n (.inr ha5) W9).mono ?_
                rintro e w10 ⟨rfl, hb10⟩
                clear q0 q1 q2 q3
                have HB10 := Lib.hid (HB9.out.trans (hb10.mono HB9.out.size))
                have HQ10 := Lib.hid (HQ9.out.below hb10 HQ9.out.lt)
                clear hb10 HB9 HQ9
                have q0 := HQ10.out.cell 0
                have q1 := HQ10.out.cell 1
                have q2 := HQ10.out.cell 2
                have q3 := HQ10.out.cell 3
                simp only [List.getElem?_toArray, List.getElem?_cons_zero, List.getElem?_cons_succ] at q0 q1 q2 q3
                go_wp2_with (go_at_call 10; refine (awake_any _).mono ?_; rintro e wa ⟨rfl, hba⟩)
                go_ret
                exact ⟨rfl, HB10.out.trans (hba.mono HB10.out.size)⟩
              · obtain ⟨A, rfl⟩ := Int.eq_ofNat_of_zero_le (show 0 ≤ a by omega)
                have hA : A < 5 := by omega
                have g1 : decide ((A : Int) < 0) = false := decide_eq_false ha0
                have g2 : decide (4 < (A : Int)) = false := decide_eq_false (by omega)
                have hnum := number_ok nm xv l A hA W9 (by have := HL.out; omega) HX9.out HT.out
                obtain ⟨n1, e1, hni, hne⟩ := numIs nm l A
                rw [hne] at hnum
                rw [HK.out] at hni
                clear hne
                have HNI := Lib.hid hni
                clear hni
                go_wp2_with fail
                refine hnum.mono ?_
                rintro e w10 ⟨rfl, hb10⟩
                clear hnum q0 q1 q2 q3
                have HB10 := Lib.hid (HB9.out.trans (hb10.mono HB9.out.size))
                have HQ10 := Lib.hid (HQ9.out.below hb10 HQ9.out.lt)
                have HX10 := Lib.hid (HX9.out.below hb10)
                clear hb10 HB9 HQ9 HX9
                have q0 := HQ10.out.cell 0
                have q1 := HQ10.out.cell 1
                have q2 := HQ10.out.cell 2
                have q3 := HQ10.out.cell 3
                simp only [List.getElem?_toArray, List.getElem?_cons_zero, List.getElem?_cons_succ] at q0 q1 q2 q3
                have hname := name_ok xv l A hA n w10 (by have := HL.out; omega) HX10.out HT.out
                obtain ⟨t1, f1, hai, hae⟩ := atIs l A n
                rw [hae] at hname
                generalize hm1 : atI l A n = mm at hai
                clear hae
                have HAI := Lib.hid hai
                have HM := Lib.hid hm1
                clear hai hm1
                go_wp2_with fail
                refine hname.mono ?_
                rintro e w11 ⟨rfl, hb11⟩
                clear hname q0 q1 q2 q3
                have HB11 := Lib.hid (HB10.out.trans (hb11.mono HB10.out.size))
                have HQ11 := Lib.hid (HQ10.out.below hb11 HQ10.out.lt)
                clear hb11 HB10 HQ10 HX10
                have q0 := HQ11.out.cell 0
                have q1 := HQ11.out.cell 1
                have q2 := HQ11.out.cell 2
                have q3 := HQ11.out.cell 3
                simp only [List.getElem?_toArray, List.getElem?_cons_zero, List.getElem?_cons_succ] at q0 q1 q2 q3
                go_upto_region 19 with fail
                go_cut [189] (fun s189 wx => s189 = .bool false ∧ Hid (∃ q, wx = w11.drewN q))
                case first =>
                  rcases HNI.out with ⟨hk0, rfl, rfl⟩ | ⟨hk0, hk1, hn1, rfl⟩
                  · have g3 : decide (0 ≤ k) = false := decide_eq_false (by omega)
                    have g4 : decide (k < 0) = true := decide_eq_true hk0
                    go_wp2_with fail
                    go_meet
                    exact ⟨rfl, ⟨0, rfl⟩⟩
                  · obtain ⟨i, rfl⟩ := Int.eq_ofNat_of_zero_le hk0
                    have g3 : decide (0 ≤ (i : Int)) = true := decide_eq_true hk0
                    have g4 : decide ((i : Int) < 0) = false := decide_eq_false (by omega)
                    obtain ⟨ad, cp, hxv, hx⟩ := HR.out.below HB11.out
                    have hjl : i < l.length := by omega
                    rw [Int.toNat_natCast] at hn1
                    obtain ⟨b, off, rfl, hlt, hr⟩ : ∃ b off, ad = some ⟨b, off, none⟩ ∧ b < w11.heap.size ∧ RowsAt w11 b off l := by
                      rcases hx with h | h
                      · rw [h] at hjl; simp at hjl
                      · exact h
                    have hcall := refNumber_at b off cp i A hA l w11 (by have := HL.out; omega) hjl hr
                    rw [← hn1] at hcall
                    clear hr hx hn1
                    subst hxv
                    generalize l.length = len at *
                    have Hc := Lib.hid hcall
                    clear hcall
                    go_wp2_with (go_at_call 18; refine Hc.out.mono ?_; rintro e w12 ⟨rfl, m12, rfl⟩)
                    go_meet
                    exact ⟨rfl, ⟨m12, rfl⟩⟩
                case rest =>
                  obtain ⟨rfl, hw⟩ := hcut
                  obtain ⟨q, rfl⟩ := hw.out
                  have HB12 := Lib.hid (bdn HB11.out q)
                  have HQ12 : Hid (Blk (w11.drewN q) w.heap.size 24 #[.int .i64 A, .int .i64 n, .int .i64 m, .int .i64 s]) := HQ11.out
                  clear hw HB11 HQ11 q0 q1 q2 q3
                  generalize w11.drewN q = W12 at *
                  have q0 := HQ12.out.cell 0
                  have q1 := HQ12.out.cell 1
                  have q2 := HQ12.out.cell 2
                  have q3 := HQ12.out.cell 3
                  simp only [List.getElem?_toArray, List.getElem?_cons_zero, List.getElem?_cons_succ] at q0 q1 q2 q3
                  have hat := refAt_any A hA n sv l W12 (by have := HL.out; omega) (HR.out.below HB12.out)
                  change Calls _ _ _ _ (fun e w' => e = .returned (.int .i64 (atI l A n)) ∧ ∃ m, w' = W12.drewN m) at hat
                  rw [HM.out] at hat
                  go_wp2_with fail
                  refine hat.mono ?_
                  rintro e w13 ⟨rfl, m13, rfl⟩
                  clear hat q0 q1 q2 q3
                  have HB13 := Lib.hid (bdn HB12.out m13)
                  clear HB12 HQ12
                  generalize W12.drewN m13 = W13 at *
                  rcases HAI.out with ⟨hk0, rfl, rfl⟩ | ⟨hk0, hk1, ht1, rfl⟩
                  · have g3 : decide (mm < 0) = true := decide_eq_true hk0
                    go_wp2_with (go_at_call 10; refine (awake_any _).mono ?_; rintro e wa ⟨rfl, hba⟩)
                    go_ret
                    exact ⟨rfl, HB13.out.trans (hba.mono HB13.out.size)⟩
                  · obtain ⟨i, rfl⟩ := Int.eq_ofNat_of_zero_le hk0
                    have g3 : decide ((i : Int) < 0) = false := decide_eq_false (by omega)
                    obtain ⟨ad, cp, hxv, hx⟩ := HR.out.below HB13.out
                    have hjl : i < l.length := by omega
                    rw [Int.toNat_natCast] at ht1
                    obtain ⟨b, off, rfl, hlt, hr⟩ : ∃ b off, ad = some ⟨b, off, none⟩ ∧ b < W13.heap.size ∧ RowsAt W13 b off l := by
                      rcases hx with h | h
                      · rw [h] at hjl; simp at hjl
                      · exact h
                    have d0 := hr.nameCell hjl
                    rw [← ht1] at d0
                    clear hr hx ht1
                    subst hxv
                    generalize l.length = len at *
                    go_wp2_with (go_at_call 10; refine (awake_any _).mono ?_; rintro e wa ⟨rfl, hba⟩)
                    go_ret
                    exact ⟨rfl, HB13.out.trans (hba.mono HB13.out.size)⟩
      · have hv' : (v != 0) = true := by simpa using hv
        clear hv
        go_wp2_with (go_at_call 10; refine (awake_any _).mono ?_; rintro e w3 ⟨rfl, hb3⟩)
        go_ret
        exact ⟨rfl, HB2.out.trans (hb3.mono HB2.out.size)⟩
end Go.Proofs.Ytakmbmlpgmppiaa
