/- The law AbiBack is true of every ABI and number: whole and own again a number is the same. No condition. -/
import Derived.Test.YtddlapcgfhbjdaaAbiOf
import Derived.Test.YtddlapcgfhbjdaaAbiFn
import Derived.Test.YtddlapcgfhbjdaaLift
namespace Go.Proofs.Ytddlapcgfhbjdaa.lawAbiBack
open Go Go.Proofs Go.RowKit Go.ChangeShapes Go.WideShapes Go.ChangeAt

set_option maxHeartbeats 1000000 in
theorem walk0 (a own k : Int) (ha0 : 0 ≤ a) (ha : a % 5 = 0) (hk : own % 1073741824 = k) (h0 : 0 ≤ k) (h1 : k < 1073741824) (o0 : 0 ≤ own) (o1 : own < 4294967296) (a1 : a ≤ 255) (w : World) :
    Calls Try.prog 5 #[.int .u8 a, .int .u32 own] w fun e w' => e = .returned (.bool true) ∧ Below w.heap.size w w' := by
  have hf : ∀ (w : World), Calls Try.prog 16 #[.int .i64 0] w fun e w' => e = .returned (.tuple #[.agg #[.string ⟨#[120, 56, 54, 95, 54, 52]⟩, .int .u32 3221225534, .bool false, .int .i64 64], .int .i64 0]) ∧ Below w.heap.size w w' := of_any 0
  have hw : ∀ (w : World), Calls Try.prog 17 #[.int .i64 0, .int .u32 k] w fun e w' => e = .returned (.int .u32 (k)) ∧ w = w' := whole_any 0 k h0 (by omega)
  have hs := select_any 3221225534 (k) (by omega) (by omega)
  have er : refSel 3221225534 (k) = 0 := by unfold refSel; simp; try omega
  rw [er] at hs
  simp only [show max (0 : Int) 0 = 0 from by decide, show decide ((0 : Int) ≤ 0) = true from by decide] at hs
  have ho := own_any 0 (k) (by omega) (by omega)
  have eo : ownN 0 (k) = k := by unfold ownN; simp; try omega
  rw [eo] at ho
  have Hf := Lib.hid hf
  have Hw := Lib.hid hw
  have Hs := Lib.hid hs
  have Ho := Lib.hid ho
  clear hf hw hs ho er eo
  go_enter Try.func5, Try.ntmps5
  go_wp2_with (first | (go_at_call 16; refine (Hf.out _).mono ?_; rintro e w1 ⟨rfl, hb1⟩) | (go_at_call 17; refine (Hw.out _).mono ?_; rintro e w2 ⟨rfl, rfl⟩) | (go_at_call 9; refine (Hs.out _).mono ?_; rintro e w3 ⟨rfl, hb3⟩) | (go_at_call 11; refine (Ho.out _).mono ?_; rintro e w4 ⟨rfl, rfl⟩) | (go_at_call 13; refine (awake08_any _).mono ?_; rintro e w5 ⟨rfl, hb5⟩))
  go_ret
  have s1 := hb1.size
  have s3 := hb3.size
  simp at s3
  exact ⟨rfl, ((hb1.alloc hb1.size _).trans (hb3.mono (by simp; omega))).trans (hb5.mono (by omega))⟩

set_option maxHeartbeats 1000000 in
theorem walk1 (a own k : Int) (ha0 : 0 ≤ a) (ha : a % 5 = 1) (hk : own % 1073741824 = k) (h0 : 0 ≤ k) (h1 : k < 1073741824) (o0 : 0 ≤ own) (o1 : own < 4294967296) (a1 : a ≤ 255) (w : World) :
    Calls Try.prog 5 #[.int .u8 a, .int .u32 own] w fun e w' => e = .returned (.bool true) ∧ Below w.heap.size w w' := by
  have hf : ∀ (w : World), Calls Try.prog 16 #[.int .i64 1] w fun e w' => e = .returned (.tuple #[.agg #[.string ⟨#[120, 51, 50]⟩, .int .u32 3221225534, .bool true, .int .i64 64], .int .i64 0]) ∧ Below w.heap.size w w' := of_any 1
  have hw : ∀ (w : World), Calls Try.prog 17 #[.int .i64 1, .int .u32 k] w fun e w' => e = .returned (.int .u32 (k + 1073741824)) ∧ w = w' := whole_any 1 k h0 (by omega)
  have hs := select_any 3221225534 (k + 1073741824) (by omega) (by omega)
  have er : refSel 3221225534 (k + 1073741824) = 1 := by unfold refSel; simp; try omega
  rw [er] at hs
  simp only [show max (1 : Int) 0 = 1 from by decide, show decide ((0 : Int) ≤ 1) = true from by decide] at hs
  have ho := own_any 1 (k + 1073741824) (by omega) (by omega)
  have eo : ownN 1 (k + 1073741824) = k := by unfold ownN; simp; try omega
  rw [eo] at ho
  have Hf := Lib.hid hf
  have Hw := Lib.hid hw
  have Hs := Lib.hid hs
  have Ho := Lib.hid ho
  clear hf hw hs ho er eo
  go_enter Try.func5, Try.ntmps5
  go_wp2_with (first | (go_at_call 16; refine (Hf.out _).mono ?_; rintro e w1 ⟨rfl, hb1⟩) | (go_at_call 17; refine (Hw.out _).mono ?_; rintro e w2 ⟨rfl, rfl⟩) | (go_at_call 9; refine (Hs.out _).mono ?_; rintro e w3 ⟨rfl, hb3⟩) | (go_at_call 11; refine (Ho.out _).mono ?_; rintro e w4 ⟨rfl, rfl⟩) | (go_at_call 13; refine (awake08_any _).mono ?_; rintro e w5 ⟨rfl, hb5⟩))
  go_ret
  have s1 := hb1.size
  have s3 := hb3.size
  simp at s3
  exact ⟨rfl, ((hb1.alloc hb1.size _).trans (hb3.mono (by simp; omega))).trans (hb5.mono (by omega))⟩

set_option maxHeartbeats 1000000 in
theorem walk2 (a own k : Int) (ha0 : 0 ≤ a) (ha : a % 5 = 2) (hk : own % 1073741824 = k) (h0 : 0 ≤ k) (h1 : k < 1073741824) (o0 : 0 ≤ own) (o1 : own < 4294967296) (a1 : a ≤ 255) (w : World) :
    Calls Try.prog 5 #[.int .u8 a, .int .u32 own] w fun e w' => e = .returned (.bool true) ∧ Below w.heap.size w w' := by
  have hf : ∀ (w : World), Calls Try.prog 16 #[.int .i64 2] w fun e w' => e = .returned (.tuple #[.agg #[.string ⟨#[105, 51, 56, 54]⟩, .int .u32 1073741827, .bool false, .int .i64 32], .int .i64 0]) ∧ Below w.heap.size w w' := of_any 2
  have hw : ∀ (w : World), Calls Try.prog 17 #[.int .i64 2, .int .u32 k] w fun e w' => e = .returned (.int .u32 (k)) ∧ w = w' := whole_any 2 k h0 (by omega)
  have hs := select_any 1073741827 (k) (by omega) (by omega)
  have er : refSel 1073741827 (k) = 2 := by unfold refSel; simp; try omega
  rw [er] at hs
  simp only [show max (2 : Int) 0 = 2 from by decide, show decide ((0 : Int) ≤ 2) = true from by decide] at hs
  have ho := own_any 2 (k) (by omega) (by omega)
  have eo : ownN 2 (k) = k := by unfold ownN; simp; try omega
  rw [eo] at ho
  have Hf := Lib.hid hf
  have Hw := Lib.hid hw
  have Hs := Lib.hid hs
  have Ho := Lib.hid ho
  clear hf hw hs ho er eo
  go_enter Try.func5, Try.ntmps5
  go_wp2_with (first | (go_at_call 16; refine (Hf.out _).mono ?_; rintro e w1 ⟨rfl, hb1⟩) | (go_at_call 17; refine (Hw.out _).mono ?_; rintro e w2 ⟨rfl, rfl⟩) | (go_at_call 9; refine (Hs.out _).mono ?_; rintro e w3 ⟨rfl, hb3⟩) | (go_at_call 11; refine (Ho.out _).mono ?_; rintro e w4 ⟨rfl, rfl⟩) | (go_at_call 13; refine (awake08_any _).mono ?_; rintro e w5 ⟨rfl, hb5⟩))
  go_ret
  have s1 := hb1.size
  have s3 := hb3.size
  simp at s3
  exact ⟨rfl, ((hb1.alloc hb1.size _).trans (hb3.mono (by simp; omega))).trans (hb5.mono (by omega))⟩

set_option maxHeartbeats 1000000 in
theorem walk3 (a own k : Int) (ha0 : 0 ≤ a) (ha : a % 5 = 3) (hk : own % 1073741824 = k) (h0 : 0 ≤ k) (h1 : k < 1073741824) (o0 : 0 ≤ own) (o1 : own < 4294967296) (a1 : a ≤ 255) (w : World) :
    Calls Try.prog 5 #[.int .u8 a, .int .u32 own] w fun e w' => e = .returned (.bool true) ∧ Below w.heap.size w w' := by
  have hf : ∀ (w : World), Calls Try.prog 16 #[.int .i64 3] w fun e w' => e = .returned (.tuple #[.agg #[.string ⟨#[97, 114, 109, 54, 52]⟩, .int .u32 3221225655, .bool false, .int .i64 64], .int .i64 0]) ∧ Below w.heap.size w w' := of_any 3
  have hw : ∀ (w : World), Calls Try.prog 17 #[.int .i64 3, .int .u32 k] w fun e w' => e = .returned (.int .u32 (k)) ∧ w = w' := whole_any 3 k h0 (by omega)
  have hs := select_any 3221225655 (k) (by omega) (by omega)
  have er : refSel 3221225655 (k) = 3 := by unfold refSel; simp; try omega
  rw [er] at hs
  simp only [show max (3 : Int) 0 = 3 from by decide, show decide ((0 : Int) ≤ 3) = true from by decide] at hs
  have ho := own_any 3 (k) (by omega) (by omega)
  have eo : ownN 3 (k) = k := by unfold ownN; simp; try omega
  rw [eo] at ho
  have Hf := Lib.hid hf
  have Hw := Lib.hid hw
  have Hs := Lib.hid hs
  have Ho := Lib.hid ho
  clear hf hw hs ho er eo
  go_enter Try.func5, Try.ntmps5
  go_wp2_with (first | (go_at_call 16; refine (Hf.out _).mono ?_; rintro e w1 ⟨rfl, hb1⟩) | (go_at_call 17; refine (Hw.out _).mono ?_; rintro e w2 ⟨rfl, rfl⟩) | (go_at_call 9; refine (Hs.out _).mono ?_; rintro e w3 ⟨rfl, hb3⟩) | (go_at_call 11; refine (Ho.out _).mono ?_; rintro e w4 ⟨rfl, rfl⟩) | (go_at_call 13; refine (awake08_any _).mono ?_; rintro e w5 ⟨rfl, hb5⟩))
  go_ret
  have s1 := hb1.size
  have s3 := hb3.size
  simp at s3
  exact ⟨rfl, ((hb1.alloc hb1.size _).trans (hb3.mono (by simp; omega))).trans (hb5.mono (by omega))⟩

set_option maxHeartbeats 1000000 in
theorem walk4 (a own k : Int) (ha0 : 0 ≤ a) (ha : a % 5 = 4) (hk : own % 1073741824 = k) (h0 : 0 ≤ k) (h1 : k < 1073741824) (o0 : 0 ≤ own) (o1 : own < 4294967296) (a1 : a ≤ 255) (w : World) :
    Calls Try.prog 5 #[.int .u8 a, .int .u32 own] w fun e w' => e = .returned (.bool true) ∧ Below w.heap.size w w' := by
  have hf : ∀ (w : World), Calls Try.prog 16 #[.int .i64 4] w fun e w' => e = .returned (.tuple #[.agg #[.string ⟨#[114, 105, 115, 99, 118, 54, 52]⟩, .int .u32 3221225715, .bool false, .int .i64 64], .int .i64 0]) ∧ Below w.heap.size w w' := of_any 4
  have hw : ∀ (w : World), Calls Try.prog 17 #[.int .i64 4, .int .u32 k] w fun e w' => e = .returned (.int .u32 (k)) ∧ w = w' := whole_any 4 k h0 (by omega)
  have hs := select_any 3221225715 (k) (by omega) (by omega)
  have er : refSel 3221225715 (k) = 4 := by unfold refSel; simp; try omega
  rw [er] at hs
  simp only [show max (4 : Int) 0 = 4 from by decide, show decide ((0 : Int) ≤ 4) = true from by decide] at hs
  have ho := own_any 4 (k) (by omega) (by omega)
  have eo : ownN 4 (k) = k := by unfold ownN; simp; try omega
  rw [eo] at ho
  have Hf := Lib.hid hf
  have Hw := Lib.hid hw
  have Hs := Lib.hid hs
  have Ho := Lib.hid ho
  clear hf hw hs ho er eo
  go_enter Try.func5, Try.ntmps5
  go_wp2_with (first | (go_at_call 16; refine (Hf.out _).mono ?_; rintro e w1 ⟨rfl, hb1⟩) | (go_at_call 17; refine (Hw.out _).mono ?_; rintro e w2 ⟨rfl, rfl⟩) | (go_at_call 9; refine (Hs.out _).mono ?_; rintro e w3 ⟨rfl, hb3⟩) | (go_at_call 11; refine (Ho.out _).mono ?_; rintro e w4 ⟨rfl, rfl⟩) | (go_at_call 13; refine (awake08_any _).mono ?_; rintro e w5 ⟨rfl, hb5⟩))
  go_ret
  have s1 := hb1.size
  have s3 := hb3.size
  simp at s3
  exact ⟨rfl, ((hb1.alloc hb1.size _).trans (hb3.mono (by simp; omega))).trans (hb5.mono (by omega))⟩

theorem walk (a own : Int) (ha0 : 0 ≤ a) (a1 : a ≤ 255) (o0 : 0 ≤ own) (o1 : own < 4294967296) (w : World) :
    Calls Try.prog 5 #[.int .u8 a, .int .u32 own] w fun e w' => e = .returned (.bool true) ∧ Below w.heap.size w w' := by
  have h : a % 5 = 0 ∨ a % 5 = 1 ∨ a % 5 = 2 ∨ a % 5 = 3 ∨ a % 5 = 4 := by omega
  rcases h with h | h | h | h | h
  · exact walk0 a own _ ha0 h rfl (by omega) (by omega) o0 o1 a1 w
  · exact walk1 a own _ ha0 h rfl (by omega) (by omega) o0 o1 a1 w
  · exact walk2 a own _ ha0 h rfl (by omega) (by omega) o0 o1 a1 w
  · exact walk3 a own _ ha0 h rfl (by omega) (by omega) o0 o1 a1 w
  · exact walk4 a own _ ha0 h rfl (by omega) (by omega) o0 o1 a1 w

theorem own : ownKnob Try.prog.godebug = none := by kernel_rfl

set_option maxRecDepth 100000 in
theorem lifted (os : Os) (started : os.Started) (H : Type) (enc : TypeId × Value → H) :
    ReturnsInHanded {} Try.checked os 5 .any (Rows.abiBackSpec.pre6 enc Try.prog Try.f5 Rows.abiBackRow.domain false) (Rows.abiBackSpec.post enc Try.prog Try.f5 false true false false) := by
  refine lift_law (C := Try.checked) (tb := 4) own started (by kernel_rfl) Try.func5
    (ChangeSpec.witness6 (enc := enc) (C := Try.checked) false ⟨#[], #[.int .u8 0, .int .u32 0], []⟩ 8 (by kernel_rfl) (by kernel_rfl) (by kernel_rfl) (by kernel_rfl))
    rfl (by kernel_rfl) (by kernel_rfl) (of_decide_eq_true (by kernel_rfl)) ?_ rfl Try.underlying4 ?_
  · intro ds hds
    match ds, hds with
    | [d1, d2], _ => rfl
  · intro W base args ds p hval hA hlt hsz
    rw [Try.params5] at hA hval hsz
    obtain ⟨v0, vs0, d0, ds0, p0, q0, hargs, rfl, rfl, h0, r0⟩ := trodAll_cons hA
    obtain ⟨v1, vs1, d1, ds1, p1, q1, rfl, rfl, rfl, h1, r1⟩ := trodAll_cons r0
    obtain ⟨rfl, rfl, rfl⟩ := trodAll_nil r1
    obtain rfl : args = #[v0, v1] := by cases args; simp_all
    obtain ⟨a0, rfl, rfl, rfl, w0⟩ := open_int Try.underlying5 (hval 0 5 v0 rfl rfl) h0
    obtain ⟨a1, rfl, rfl, rfl, w1⟩ := open_int Try.underlying22 (hval 1 22 v1 rfl rfl) h1
    have b0 := bounds_u8 w0
    have b1 := bounds_u32 w1
    exact walk a0 a1 (by omega) (by omega) (by omega) (by omega) W

/-- The statement. -/
theorem proved : Rows.AbiBackSaid :=
  OpenClaim.holds_of_wide 5 Try.f5 rfl rfl rfl rfl rfl rfl rfl ⟨rfl, rfl, rfl, rfl, rfl⟩ rfl rfl rfl rfl rfl (by kernel_rfl) Try.func5 (by kernel_rfl)
    (of_decide_eq_true (by kernel_rfl)) (by unfold Func.isWrapper; first | (rw [if_pos (by decide +kernel)]; kernel_rfl) | (rw [if_neg (by decide +kernel)]; exact ⟨rfl, rfl⟩))
    (fun os started H enc _ => lifted os started H enc)
#print axioms proved
end Go.Proofs.Ytddlapcgfhbjdaa.lawAbiBack
