/- strainerlaw12.MuxCalls answers true for every input: the statement. -/
import Derived.Test.YtakmbmlpgmppiaaMuxCalls
import Derived.Test.YtakmbmlpgmppiaaRecOpen
import Derived.Test.YtakmbmlpgmppiaaChecked
import Derived.ChangeMaps5
namespace Go.Proofs.Ytakmbmlpgmppiaa.lawMuxCalls
open Go Go.Proofs Go.ChangeShapes Go.WideShapes Go.ChangeAt Go.RowKit Go.Joins Go.ChangeMaps Go.Proofs.Ytakmbmlpgmppiaa

theorem own : ownKnob Try.prog.godebug = none := by kernel_rfl

set_option maxRecDepth 100000 in
theorem lifted (os : Os) (started : os.Started) (H : Type) (enc : TypeId × Value → H) :
    ReturnsInHanded {} Try.checked os 4 .any (Rows.muxCallsSpec.pre6 enc Try.prog Try.f4 Rows.muxCallsRow.domain false) (Rows.muxCallsSpec.post enc Try.prog Try.f4 false true false false) := by
  refine lift_law (C := Try.checked) (tb := 4) own started (by kernel_rfl) Try.func4
    (ChangeSpec.witness6 (enc := enc) (C := Try.checked) false ⟨#[], #[.slice none 0 0, .agg #[.int .u32 0, .int .u32 0, .int .u64 0, .int .u64 0, .int .u64 0, .int .u64 0, .int .u64 0, .int .u64 0, .int .u64 0]], []⟩ 8 (by kernel_rfl) (by kernel_rfl) (by kernel_rfl) (by kernel_rfl))
    rfl (by kernel_rfl) (by kernel_rfl) (of_decide_eq_true (by kernel_rfl)) ?_ rfl Try.underlying4 ?_
  · intro ds hds
    match ds, hds with
    | [d1, d2], _ => rfl
  · intro W base args ds p hval hA hlt hsz
    rw [Try.params4] at hA hval hsz
    obtain ⟨v0, vs0, d0, ds0, p0, q0, hargs, rfl, rfl, h0, r0⟩ := trodAll_cons hA
    obtain ⟨v1, vs1, d1, ds1, p1, q1, rfl, rfl, rfl, h1, r1⟩ := trodAll_cons r0
    obtain ⟨rfl, rfl, rfl⟩ := trodAll_nil r1
    obtain rfl : args = #[v0, v1] := by cases args; simp_all
    have hne : ∀ cs, v0 ≠ .agg cs := by
      rintro cs rfl
      have := hval 0 22 _ rfl rfl
      exact slice_not_agg Try.underlying22 this
    obtain ⟨l, hl⟩ := open_rows h0 hne
    obtain ⟨num, arch, ptr, a0, a1, a2, a3, a4, a5, rfl, wn, wa⟩ := open_rec (hval 1 51 _ rfl rfl) h1
    have bn := bounds_u32 wn
    have ba := bounds_u64 wa
    exact calls_any num arch ptr a0 a1 a2 a3 a4 a5 (by omega) (by omega) (by omega) (by omega) v0 l W hl

/-- The statement. -/
theorem proved : Rows.MuxCallsSaid :=
  OpenClaim.holds_of_wide 4 Try.f4 rfl rfl rfl rfl rfl rfl rfl ⟨rfl, rfl, rfl, rfl, rfl⟩ rfl rfl rfl rfl rfl (by kernel_rfl) Try.func4 (by kernel_rfl)
    (of_decide_eq_true (by kernel_rfl)) (by unfold Func.isWrapper; first | (rw [if_pos (by decide +kernel)]; kernel_rfl) | (rw [if_neg (by decide +kernel)]; exact ⟨rfl, rfl⟩))
    (fun os started H enc _ => lifted os started H enc)
#print axioms proved
end Go.Proofs.Ytakmbmlpgmppiaa.lawMuxCalls
