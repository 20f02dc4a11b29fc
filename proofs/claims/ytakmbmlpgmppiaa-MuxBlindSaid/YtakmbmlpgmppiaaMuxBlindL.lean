/- strainerlaw12.MuxBlind answers true for every input: the statement. -/
import Derived.Test.YtakmbmlpgmppiaaMuxBlind
import Derived.Test.YtakmbmlpgmppiaaBlindOpen
import Derived.Test.YtakmbmlpgmppiaaChecked
import Derived.ChangeMaps5
namespace Go.Proofs.Ytakmbmlpgmppiaa.lawMuxBlind
open Go Go.Proofs Go.ChangeShapes Go.WideShapes Go.ChangeAt Go.RowKit Go.Joins Go.ChangeMaps Go.Proofs.Ytakmbmlpgmppiaa

theorem own : ownKnob Try.prog.godebug = none := by kernel_rfl

set_option maxRecDepth 100000 in
theorem lifted (os : Os) (started : os.Started) (H : Type) (enc : TypeId × Value → H) :
    ReturnsInHanded {} Try.checked os 5 .any (Rows.muxBlindSpec.pre6 enc Try.prog Try.f5 Rows.muxBlindRow.domain false) (Rows.muxBlindSpec.post enc Try.prog Try.f5 false true false false) := by
  refine lift_law (C := Try.checked) (tb := 4) own started (by kernel_rfl) Try.func5
    (ChangeSpec.witness6 (enc := enc) (C := Try.checked) false ⟨#[], #[.agg #[.slice none 0 0, .int .u32 0, .int .u32 0, .int .u64 0, .int .u64 0, .int .u64 0, .int .u64 0, .int .u64 0, .int .u64 0, .int .u64 0, .int .u64 0, .int .u64 0, .int .u64 0, .int .u64 0, .int .u64 0, .int .u64 0, .int .u64 0]], []⟩ 8 (by kernel_rfl) (by kernel_rfl) (by kernel_rfl) (by kernel_rfl))
    rfl (by kernel_rfl) (by kernel_rfl) (of_decide_eq_true (by kernel_rfl)) ?_ rfl Try.underlying4 ?_
  · intro ds hds
    match ds, hds with
    | [d1], _ => rfl
  · intro W base args ds p hval hA hlt hsz
    rw [Try.params5] at hA hval hsz
    obtain ⟨v0, vs0, d0, ds0, p0, q0, hargs, rfl, rfl, h0, r0⟩ := trodAll_cons hA
    obtain ⟨rfl, rfl, rfl⟩ := trodAll_nil r0
    obtain rfl : args = #[v0] := by cases args; simp_all
    obtain ⟨ad, cp, l, num, arch, ptr, a0, a1, a2, a3, a4, a5, pt, d0, d1, d2, d3, d4, d5, rfl, hl, wn, wa, wd⟩ := open_blind (hval 0 62 _ rfl rfl) h0
    have bn := bounds_u32 wn
    have ba := bounds_u64 wa
    have bd := bounds_u64 wd
    exact blind_any num arch ptr a0 a1 a2 a3 a4 a5 pt d0 d1 d2 d3 d4 d5 (by omega) (by omega) (by omega) (by omega) (by omega) (by omega) ad l.length cp l W rfl hl

/-- The statement. -/
theorem proved : Rows.MuxBlindSaid :=
  OpenClaim.holds_of_wide 5 Try.f5 rfl rfl rfl rfl rfl rfl rfl ⟨rfl, rfl, rfl, rfl, rfl⟩ rfl rfl rfl rfl rfl (by kernel_rfl) Try.func5 (by kernel_rfl)
    (of_decide_eq_true (by kernel_rfl)) (by unfold Func.isWrapper; first | (rw [if_pos (by decide +kernel)]; kernel_rfl) | (rw [if_neg (by decide +kernel)]; exact ⟨rfl, rfl⟩))
    (fun os started H enc _ => lifted os started H enc)
#print axioms proved
end Go.Proofs.Ytakmbmlpgmppiaa.lawMuxBlind
