/- The law AbiSelects is true of every token, number and ABI: abi.Select and abi.Own answer as the reference does; the arguments read as before. No condition. -/
import Derived.Test.YtddlapcgfhbjdaaAbiFn
import Derived.Test.YtddlapcgfhbjdaaLift
namespace Go.Proofs.Ytddlapcgfhbjdaa.lawAbiSelects
open Go Go.Proofs Go.RowKit Go.ChangeShapes Go.WideShapes Go.ChangeAt

theorem refSel_range (arch number : Int) : refSel arch number = -1 ∨ refSel arch number = 0 ∨ refSel arch number = 1 ∨ refSel arch number = 2 ∨ refSel arch number = 3 ∨ refSel arch number = 4 := by
  unfold refSel; split <;> (try split) <;> (try split) <;> (try split) <;> (try split) <;> simp

set_option maxHeartbeats 1000000 in
theorem walk (arch number a : Int) (h0 : 0 ≤ number) (h1 : number < 4294967296) (w : World) :
    Calls Try.prog 3 #[.int .u32 arch, .int .u32 number, .int .i64 a] w fun e w' => e = .returned (.bool true) ∧ Below w.heap.size w w' := by
  have hs := select_any arch number h0 h1
  have hr := refSelect_any arch number h0 h1
  have ho := own_any a number h0 h1
  have hq := refOwn_any a number h0 h1
  have hb := refSel_range arch number
  generalize refSel arch number = r at hs hr hb
  generalize ownN a number = v at ho hq
  rcases hb with rfl | rfl | rfl | rfl | rfl | rfl
  all_goals
    have Hs := Lib.hid hs
    have Hr := Lib.hid hr
    have Ho := Lib.hid ho
    have Hq := Lib.hid hq
    clear hs hr ho hq
    go_enter Try.func3, Try.ntmps3
    go_wp2_with (first | (go_at_call 9; refine (Hs.out _).mono ?_; rintro e w1 ⟨rfl, hb1⟩) | (go_at_call 11; refine (Ho.out _).mono ?_; rintro e w2 ⟨rfl, rfl⟩) | (go_at_call 12; refine (Hq.out _).mono ?_; rintro e w3 ⟨rfl, rfl⟩) | (go_at_call 10; refine (Hr.out _).mono ?_; rintro e w4 ⟨rfl, rfl⟩) | (go_at_call 13; refine (awake08_any _).mono ?_; rintro e w5 ⟨rfl, hb5⟩))
    go_ret
    exact ⟨rfl, hb1.trans (hb5.mono hb1.size)⟩

theorem own : ownKnob Try.prog.godebug = none := by kernel_rfl

set_option maxRecDepth 100000 in
theorem lifted (os : Os) (started : os.Started) (H : Type) (enc : TypeId × Value → H) :
    ReturnsInHanded {} Try.checked os 3 .any (Rows.abiSelectsSpec.pre6 enc Try.prog Try.f3 Rows.abiSelectsRow.domain false) (Rows.abiSelectsSpec.post enc Try.prog Try.f3 false true false false) := by
  refine lift_law (C := Try.checked) (tb := 4) own started (by kernel_rfl) Try.func3
    (ChangeSpec.witness6 (enc := enc) (C := Try.checked) false ⟨#[], #[.int .u32 0, .int .u32 0, .int .i64 0], []⟩ 8 (by kernel_rfl) (by kernel_rfl) (by kernel_rfl) (by kernel_rfl))
    rfl (by kernel_rfl) (by kernel_rfl) (of_decide_eq_true (by kernel_rfl)) ?_ rfl Try.underlying4 ?_
  · intro ds hds
    match ds, hds with
    | [d1, d2, d3], _ => rfl
  · intro W base args ds p hval hA hlt _
    rw [Try.params3] at hA hval
    obtain ⟨v0, vs0, d0, ds0, p0, q0, hargs, rfl, rfl, h0, r0⟩ := trodAll_cons hA
    obtain ⟨v1, vs1, d1, ds1, p1, q1, rfl, rfl, rfl, h1, r1⟩ := trodAll_cons r0
    obtain ⟨v2, vs2, d2, ds2, p2, q2, rfl, rfl, rfl, h2, r2⟩ := trodAll_cons r1
    obtain ⟨rfl, rfl, rfl⟩ := trodAll_nil r2
    obtain rfl : args = #[v0, v1, v2] := by cases args; simp_all
    obtain ⟨a0, rfl, rfl, rfl, w0⟩ := open_int Try.underlying22 (hval 0 22 v0 rfl rfl) h0
    obtain ⟨a1, rfl, rfl, rfl, w1⟩ := open_int Try.underlying22 (hval 1 22 v1 rfl rfl) h1
    obtain ⟨a2, rfl, rfl, rfl, w2⟩ := open_int Try.underlying3 (hval 2 3 v2 rfl rfl) h2
    have b1 := bounds_u32 w1
    exact walk a0 a1 a2 (by omega) (by omega) W

/-- The statement. -/
theorem proved : Rows.AbiSelectsSaid :=
  OpenClaim.holds_of_wide 3 Try.f3 rfl rfl rfl rfl rfl rfl rfl ⟨rfl, rfl, rfl, rfl, rfl⟩ rfl rfl rfl rfl rfl (by kernel_rfl) Try.func3 (by kernel_rfl)
    (of_decide_eq_true (by kernel_rfl)) (by unfold Func.isWrapper; first | (rw [if_pos (by decide +kernel)]; kernel_rfl) | (rw [if_neg (by decide +kernel)]; exact ⟨rfl, rfl⟩))
    (fun os started H enc _ => lifted os started H enc)
#print axioms proved
end Go.Proofs.Ytddlapcgfhbjdaa.lawAbiSelects
