/- The law AbiApart is true of every two ABIs and numbers: no two have a token and a number in common. No condition. -/
import Derived.Test.YtddlapcgfhbjdaaAbiOf
import Derived.Test.YtddlapcgfhbjdaaAbiFn
import Derived.Test.YtddlapcgfhbjdaaLift
import Derived.BigQuiet
import Derived.Deep.QuietTactic
import Derived.Lib.SmallJoins
import Derived.Deep.RegionWith
namespace Go.Proofs.Ytddlapcgfhbjdaa.lawAbiApart
open Go Go.Proofs Go.RowKit Go.ChangeShapes Go.WideShapes Go.ChangeAt

def tokN (n : Int) : Int := if n = 0 then 3221225534 else if n = 1 then 3221225534 else if n = 2 then 1073741827 else if n = 3 then 3221225655 else 3221225715
def nmN (n : Int) : ByteArray := if n = 0 then r0.name else if n = 1 then r1.name else if n = 2 then r2.name else if n = 3 then r3.name else r4.name
def bitN (n : Int) : Bool := if n = 1 then true else false
def bitsN (n : Int) : Int := if n = 2 then 32 else 64

theorem of_call (n : Int) (h0 : 0 ≤ n) (h4 : n ≤ 4) (w : World) : Calls Try.prog 16 #[.int .i64 n] w fun e w' => e = .returned (.tuple #[.agg #[.string (nmN n), .int .u32 (tokN n), .bool (bitN n), .int .i64 (bitsN n)], .int .i64 0]) ∧ Below w.heap.size w w' := by
  have h := of_any n w
  have e : ofAns n = .tuple #[.agg #[.string (nmN n), .int .u32 (tokN n), .bool (bitN n), .int .i64 (bitsN n)], .int .i64 0] := by
    rcases (by omega : n = 0 ∨ n = 1 ∨ n = 2 ∨ n = 3 ∨ n = 4) with rfl | rfl | rfl | rfl | rfl <;> rfl
  rw [e] at h
  exact h
theorem sel_none (w : World) : Calls Try.prog 9 #[.int .u32 3221225534, .int .u32 4294967295] w fun e w' => e = .returned (.tuple #[.int .i64 0, .bool true]) ∧ Below w.heap.size w w' := by
  have h := select_any 3221225534 4294967295 (by omega) (by omega) w
  simp only [show max (refSel 3221225534 4294967295) 0 = 0 from by decide, show decide (0 ≤ refSel 3221225534 4294967295) = true from by decide] at h
  exact h

set_option maxRecDepth 100000 in
set_option maxHeartbeats 400000 in
theorem same (a b x y n : Int) (ha0 : 0 ≤ a) (ha1 : a ≤ 255) (hb0 : 0 ≤ b) (hb1' : b ≤ 255) (hx0 : 0 ≤ x) (hx1 : x < 4294967296) (hy0 : 0 ≤ y) (hy1 : y < 4294967296) (hn : a % 5 = n) (hm : b % 5 = n) (n0 : 0 ≤ n) (n4 : n ≤ 4) (w : World) :
    Calls Try.prog 6 #[.agg #[.int .u8 a, .int .u8 b, .int .u32 x, .int .u32 y]] w fun e w' => e = .returned (.bool true) ∧ Below w.heap.size w w' := by
  skip
  go_enter Try.func6, Try.ntmps6
  go_wp2_with fail
  go_quiet (fail)
  go_wp2_with fail
  refine (of_call n (by omega) (by omega) _).mono ?_
  rintro e w1 ⟨rfl, hb1⟩
  go_wp2_with fail
  refine (of_call n (by omega) (by omega) _).mono ?_
  rintro e w2 ⟨rfl, hb2⟩
  have k1 := (((Blk.new w1 36 #[.string (nmN n), .int .u32 (tokN n), .bool (bitN n), .int .i64 (bitsN n)]).below hb2 (by simp)).alloc (.cells #[.string (nmN n), .int .u32 (tokN n), .bool (bitN n), .int .i64 (bitsN n)] 36)).cell 1
  simp only [List.getElem?_toArray, List.getElem?_cons_zero, List.getElem?_cons_succ] at k1
  have s1 := hb1.size
  have s2 := hb2.size
  simp at s1 s2
  skip
  go_wp2_with (first | (go_at_call 9; refine (sel_none _).mono ?_; rintro e w3 ⟨rfl, hb3⟩) | (go_at_call 13; refine (awake08_any _).mono ?_; rintro e w5 ⟨rfl, hb5⟩))
  go_ret
  have s3 := hb3.size
  simp at s3
  have hB1 : Below w.heap.size w w1 := (below_drewN ((Below.refl _ w).alloc (Nat.le_refl _) _) _).trans (hb1.mono (by simp))
  have hB2 : Below w.heap.size w w2 := (hB1.alloc (by omega) _).trans (hb2.mono (by simp; omega))
  have hB3 : Below w.heap.size w w3 := (hB2.alloc (by omega) _).trans (hb3.mono (by simp; omega))
  exact ⟨rfl, hB3.trans (hb5.mono (by omega))⟩

set_option maxRecDepth 100000 in
set_option maxHeartbeats 400000 in
theorem tok (a b x y n m : Int) (ha0 : 0 ≤ a) (ha1 : a ≤ 255) (hb0 : 0 ≤ b) (hb1' : b ≤ 255) (hx0 : 0 ≤ x) (hx1 : x < 4294967296) (hy0 : 0 ≤ y) (hy1 : y < 4294967296) (hn : a % 5 = n) (hm : b % 5 = m) (n0 : 0 ≤ n) (n4 : n ≤ 4) (m0 : 0 ≤ m) (m4 : m ≤ 4) (hne : n ≠ m) (ht : tokN n ≠ tokN m) (w : World) :
    Calls Try.prog 6 #[.agg #[.int .u8 a, .int .u8 b, .int .u32 x, .int .u32 y]] w fun e w' => e = .returned (.bool true) ∧ Below w.heap.size w w' := by
  have ht' : (tokN n == tokN m) = false := by simpa using ht
  go_enter Try.func6, Try.ntmps6
  go_wp2_with fail
  go_quiet (fail)
  go_wp2_with fail
  refine (of_call n (by omega) (by omega) _).mono ?_
  rintro e w1 ⟨rfl, hb1⟩
  go_wp2_with fail
  refine (of_call m (by omega) (by omega) _).mono ?_
  rintro e w2 ⟨rfl, hb2⟩
  have k1 := (((Blk.new w1 36 #[.string (nmN n), .int .u32 (tokN n), .bool (bitN n), .int .i64 (bitsN n)]).below hb2 (by simp)).alloc (.cells #[.string (nmN m), .int .u32 (tokN m), .bool (bitN m), .int .i64 (bitsN m)] 36)).cell 1
  simp only [List.getElem?_toArray, List.getElem?_cons_zero, List.getElem?_cons_succ] at k1
  have s1 := hb1.size
  have s2 := hb2.size
  simp at s1 s2
  skip
  go_wp2_with (first | (go_at_call 9; refine (sel_none _).mono ?_; rintro e w3 ⟨rfl, hb3⟩) | (go_at_call 13; refine (awake08_any _).mono ?_; rintro e w5 ⟨rfl, hb5⟩))
  go_ret
  have s3 := hb3.size
  simp at s3
  have hB1 : Below w.heap.size w w1 := (below_drewN ((Below.refl _ w).alloc (Nat.le_refl _) _) _).trans (hb1.mono (by simp))
  have hB2 : Below w.heap.size w w2 := (hB1.alloc (by omega) _).trans (hb2.mono (by simp; omega))
  have hB3 : Below w.heap.size w w3 := (hB2.alloc (by omega) _).trans (hb3.mono (by simp; omega))
  exact ⟨rfl, hB3.trans (hb5.mono (by omega))⟩

set_option maxRecDepth 100000 in
set_option maxHeartbeats 400000 in
theorem t01 (a b x y p q : Int) (ha0 : 0 ≤ a) (ha1 : a ≤ 255) (hb0 : 0 ≤ b) (hb1' : b ≤ 255) (hx0 : 0 ≤ x) (hx1 : x < 4294967296) (hy0 : 0 ≤ y) (hy1 : y < 4294967296) (hn : a % 5 = 0) (hm : b % 5 = 1) (hp : x % 1073741824 = p) (hq : y % 1073741824 = q) (p0 : 0 ≤ p) (p1 : p < 1073741824) (q0 : 0 ≤ q) (q1 : q < 1073741824) (w : World) :
    Calls Try.prog 6 #[.agg #[.int .u8 a, .int .u8 b, .int .u32 x, .int .u32 y]] w fun e w' => e = .returned (.bool true) ∧ Below w.heap.size w w' := by
  have hw0 : ∀ (W : World), Calls Try.prog 17 #[.int .i64 0, .int .u32 p] W fun e w' => e = .returned (.int .u32 (p)) ∧ W = w' := whole_any 0 p p0 p1
  have hw1 : ∀ (W : World), Calls Try.prog 17 #[.int .i64 1, .int .u32 q] W fun e w' => e = .returned (.int .u32 (q + 1073741824)) ∧ W = w' := whole_any 1 q q0 q1
  have H0 := Lib.hid hw0
  have H1 := Lib.hid hw1
  clear hw0 hw1
  have hv : (p == q + 1073741824) = false := by simp; omega
  go_enter Try.func6, Try.ntmps6
  go_wp2_with fail
  go_quiet (fail)
  go_wp2_with fail
  refine (of_call 0 (by omega) (by omega) _).mono ?_
  rintro e w1 ⟨rfl, hb1⟩
  go_wp2_with fail
  refine (of_call 1 (by omega) (by omega) _).mono ?_
  rintro e w2 ⟨rfl, hb2⟩
  have k1 := (((Blk.new w1 36 #[.string (nmN 0), .int .u32 (tokN 0), .bool (bitN 0), .int .i64 (bitsN 0)]).below hb2 (by simp)).alloc (.cells #[.string (nmN 1), .int .u32 (tokN 1), .bool (bitN 1), .int .i64 (bitsN 1)] 36)).cell 1
  simp only [List.getElem?_toArray, List.getElem?_cons_zero, List.getElem?_cons_succ] at k1
  have s1 := hb1.size
  have s2 := hb2.size
  simp at s1 s2
  have ht : (tokN 0 == tokN 1) = true := by decide
  go_wp2_with fail
  refine (H0.out _).mono ?_
  rintro e w6 ⟨rfl, rfl⟩
  go_wp2_with fail
  refine (H1.out _).mono ?_
  rintro e w7 ⟨rfl, rfl⟩
  go_wp2_with (first | (go_at_call 9; refine (sel_none _).mono ?_; rintro e w3 ⟨rfl, hb3⟩) | (go_at_call 13; refine (awake08_any _).mono ?_; rintro e w5 ⟨rfl, hb5⟩))
  go_ret
  have s3 := hb3.size
  simp at s3
  have hB1 : Below w.heap.size w w1 := (below_drewN ((Below.refl _ w).alloc (Nat.le_refl _) _) _).trans (hb1.mono (by simp))
  have hB2 : Below w.heap.size w w2 := (hB1.alloc (by omega) _).trans (hb2.mono (by simp; omega))
  have hB3 : Below w.heap.size w w3 := (hB2.alloc (by omega) _).trans (hb3.mono (by simp; omega))
  exact ⟨rfl, hB3.trans (hb5.mono (by omega))⟩

set_option maxRecDepth 100000 in
set_option maxHeartbeats 400000 in
theorem t10 (a b x y p q : Int) (ha0 : 0 ≤ a) (ha1 : a ≤ 255) (hb0 : 0 ≤ b) (hb1' : b ≤ 255) (hx0 : 0 ≤ x) (hx1 : x < 4294967296) (hy0 : 0 ≤ y) (hy1 : y < 4294967296) (hn : a % 5 = 1) (hm : b % 5 = 0) (hp : x % 1073741824 = p) (hq : y % 1073741824 = q) (p0 : 0 ≤ p) (p1 : p < 1073741824) (q0 : 0 ≤ q) (q1 : q < 1073741824) (w : World) :
    Calls Try.prog 6 #[.agg #[.int .u8 a, .int .u8 b, .int .u32 x, .int .u32 y]] w fun e w' => e = .returned (.bool true) ∧ Below w.heap.size w w' := by
  have hw0 : ∀ (W : World), Calls Try.prog 17 #[.int .i64 1, .int .u32 p] W fun e w' => e = .returned (.int .u32 (p + 1073741824)) ∧ W = w' := whole_any 1 p p0 p1
  have hw1 : ∀ (W : World), Calls Try.prog 17 #[.int .i64 0, .int .u32 q] W fun e w' => e = .returned (.int .u32 (q)) ∧ W = w' := whole_any 0 q q0 q1
  have H0 := Lib.hid hw0
  have H1 := Lib.hid hw1
  clear hw0 hw1
  have hv : (p + 1073741824 == q) = false := by simp; omega
  go_enter Try.func6, Try.ntmps6
  go_wp2_with fail
  go_quiet (fail)
  go_wp2_with fail
  refine (of_call 1 (by omega) (by omega) _).mono ?_
  rintro e w1 ⟨rfl, hb1⟩
  go_wp2_with fail
  refine (of_call 0 (by omega) (by omega) _).mono ?_
  rintro e w2 ⟨rfl, hb2⟩
  have k1 := (((Blk.new w1 36 #[.string (nmN 1), .int .u32 (tokN 1), .bool (bitN 1), .int .i64 (bitsN 1)]).below hb2 (by simp)).alloc (.cells #[.string (nmN 0), .int .u32 (tokN 0), .bool (bitN 0), .int .i64 (bitsN 0)] 36)).cell 1
  simp only [List.getElem?_toArray, List.getElem?_cons_zero, List.getElem?_cons_succ] at k1
  have s1 := hb1.size
  have s2 := hb2.size
  simp at s1 s2
  have ht : (tokN 1 == tokN 0) = true := by decide
  go_wp2_with fail
  refine (H0.out _).mono ?_
  rintro e w6 ⟨rfl, rfl⟩
  go_wp2_with fail
  refine (H1.out _).mono ?_
  rintro e w7 ⟨rfl, rfl⟩
  go_wp2_with (first | (go_at_call 9; refine (sel_none _).mono ?_; rintro e w3 ⟨rfl, hb3⟩) | (go_at_call 13; refine (awake08_any _).mono ?_; rintro e w5 ⟨rfl, hb5⟩))
  go_ret
  have s3 := hb3.size
  simp at s3
  have hB1 : Below w.heap.size w w1 := (below_drewN ((Below.refl _ w).alloc (Nat.le_refl _) _) _).trans (hb1.mono (by simp))
  have hB2 : Below w.heap.size w w2 := (hB1.alloc (by omega) _).trans (hb2.mono (by simp; omega))
  have hB3 : Below w.heap.size w w3 := (hB2.alloc (by omega) _).trans (hb3.mono (by simp; omega))
  exact ⟨rfl, hB3.trans (hb5.mono (by omega))⟩

theorem walk (a b x y : Int) (ha0 : 0 ≤ a) (ha1 : a ≤ 255) (hb0 : 0 ≤ b) (hb1 : b ≤ 255) (hx0 : 0 ≤ x) (hx1 : x < 4294967296) (hy0 : 0 ≤ y) (hy1 : y < 4294967296) (w : World) :
    Calls Try.prog 6 #[.agg #[.int .u8 a, .int .u8 b, .int .u32 x, .int .u32 y]] w fun e w' => e = .returned (.bool true) ∧ Below w.heap.size w w' := by
  by_cases h : a % 5 = b % 5
  · exact same a b x y _ ha0 ha1 hb0 hb1 hx0 hx1 hy0 hy1 h rfl (by omega) (by omega) w
  by_cases ht : tokN (a % 5) = tokN (b % 5)
  · have hc : (a % 5 = 0 ∧ b % 5 = 1) ∨ (a % 5 = 1 ∧ b % 5 = 0) := by
      have h1 : a % 5 = 0 ∨ a % 5 = 1 ∨ a % 5 = 2 ∨ a % 5 = 3 ∨ a % 5 = 4 := by omega
      have h2 : b % 5 = 0 ∨ b % 5 = 1 ∨ b % 5 = 2 ∨ b % 5 = 3 ∨ b % 5 = 4 := by omega
      rcases h1 with h1 | h1 | h1 | h1 | h1 <;> rcases h2 with h2 | h2 | h2 | h2 | h2 <;> rw [h1, h2] at ht h <;> first | exact absurd rfl h | (left; exact ⟨h1, h2⟩) | (right; exact ⟨h1, h2⟩) | (exact absurd ht (by decide))
    rcases hc with ⟨h1, h2⟩ | ⟨h1, h2⟩
    · exact t01 a b x y _ _ ha0 ha1 hb0 hb1 hx0 hx1 hy0 hy1 h1 h2 rfl rfl (by omega) (by omega) (by omega) (by omega) w
    · exact t10 a b x y _ _ ha0 ha1 hb0 hb1 hx0 hx1 hy0 hy1 h1 h2 rfl rfl (by omega) (by omega) (by omega) (by omega) w
  · exact tok a b x y _ _ ha0 ha1 hb0 hb1 hx0 hx1 hy0 hy1 rfl rfl (by omega) (by omega) (by omega) (by omega) h ht w

theorem own : ownKnob Try.prog.godebug = none := by kernel_rfl

set_option maxRecDepth 100000 in
theorem lifted (os : Os) (started : os.Started) (H : Type) (enc : TypeId × Value → H) :
    ReturnsInHanded {} Try.checked os 6 .any (Rows.abiApartSpec.pre6 enc Try.prog Try.f6 Rows.abiApartRow.domain false) (Rows.abiApartSpec.post enc Try.prog Try.f6 false true false false) := by
  refine lift_law (C := Try.checked) (tb := 4) own started (by kernel_rfl) Try.func6
    (ChangeSpec.witness6 (enc := enc) (C := Try.checked) false ⟨#[], #[.agg #[.int .u8 0, .int .u8 0, .int .u32 0, .int .u32 0]], []⟩ 8 (by kernel_rfl) (by kernel_rfl) (by kernel_rfl) (by kernel_rfl))
    rfl (by kernel_rfl) (by kernel_rfl) (of_decide_eq_true (by kernel_rfl)) ?_ rfl Try.underlying4 ?_
  · intro ds hds
    match ds, hds with
    | [d1], _ => rfl
  · intro W base args ds p hval hA hlt hsz
    rw [Try.params6] at hA hval hsz
    obtain ⟨v0, vs0, d0, ds0, p0, q0, hargs, rfl, rfl, h0, r0⟩ := trodAll_cons hA
    obtain ⟨rfl, rfl, rfl⟩ := trodAll_nil r0
    obtain rfl : args = #[v0] := by cases args; simp_all
    obtain ⟨c0, c1, c2, c3, y0, y1, y2, y3, m, rfl, rfl, rfl, hy0, hy1, hy2, hy3⟩ := Joins.open_agg4 Try.underlying41 (by kernel_rfl) (by kernel_rfl : Try.prog.cellsOf 41 = 4) (hval 0 41 _ rfl rfl) h0
    obtain ⟨a, e0, rfl, wa⟩ := DataW.trod_int Try.underlying5 hy0
    obtain ⟨b, e1, rfl, wb⟩ := DataW.trod_int Try.underlying5 hy1
    obtain ⟨x, e2, rfl, wx⟩ := DataW.trod_int Try.underlying22 hy2
    obtain ⟨y, e3, rfl, wy⟩ := DataW.trod_int Try.underlying22 hy3
    simp only [List.cons.injEq, and_true] at e0 e1 e2 e3
    subst e0 e1 e2 e3
    have b0 := bounds_u8 wa
    have b1 := bounds_u8 wb
    have b2 := bounds_u32 wx
    have b3 := bounds_u32 wy
    exact walk a b x y (by omega) (by omega) (by omega) (by omega) (by omega) (by omega) (by omega) (by omega) W

/-- The statement. -/
theorem proved : Rows.AbiApartSaid :=
  OpenClaim.holds_of_wide 6 Try.f6 rfl rfl rfl rfl rfl rfl rfl ⟨rfl, rfl, rfl, rfl, rfl⟩ rfl rfl rfl rfl rfl (by kernel_rfl) Try.func6 (by kernel_rfl)
    (of_decide_eq_true (by kernel_rfl)) (by unfold Func.isWrapper; first | (rw [if_pos (by decide +kernel)]; kernel_rfl) | (rw [if_neg (by decide +kernel)]; exact ⟨rfl, rfl⟩))
    (fun os started H enc _ => lifted os started H enc)
#print axioms proved
end Go.Proofs.Ytddlapcgfhbjdaa.lawAbiApart
