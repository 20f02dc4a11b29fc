/- strainerlaw12.MuxWays answers true for every input: the statement. -/
import Derived.Test.YtakmbmlpgmppiaaMuxWays
import Derived.Test.YtakmbmlpgmppiaaSysOpen
import Derived.Test.YtakmbmlpgmppiaaChecked
import Derived.ChangeMaps5
namespace Go.Proofs.Ytakmbmlpgmppiaa.lawMuxWays
open Go Go.Proofs Go.ChangeShapes Go.WideShapes Go.ChangeAt Go.RowKit Go.Joins Go.ChangeMaps Go.Proofs.Ytakmbmlpgmppiaa

theorem wf_u32 {a : Int} (h : (Lit.int .u32 a).wf = true) : 0 ≤ a ∧ a < 4294967296 := by
  have := bounds_u32 h
  omega

theorem own : ownKnob Try.prog.godebug = none := by kernel_rfl

set_option maxRecDepth 100000 in
theorem lifted (os : Os) (started : os.Started) (H : Type) (enc : TypeId × Value → H) :
    ReturnsInHanded {} Try.checked os 7 .any (Rows.muxWaysSpec.pre6 enc Try.prog Try.f7 Rows.muxWaysRow.domain false) (Rows.muxWaysSpec.post enc Try.prog Try.f7 false true false false) := by
  refine lift_law (C := Try.checked) (tb := 4) own started (by kernel_rfl) Try.func7
    (ChangeSpec.witness6 (enc := enc) (C := Try.checked) false ⟨#[], #[.slice none 0 0, .string ⟨#[]⟩, .int .u32 0], []⟩ 8 (by kernel_rfl) (by kernel_rfl) (by kernel_rfl) (by kernel_rfl))
    rfl (by kernel_rfl) (by kernel_rfl) (of_decide_eq_true (by kernel_rfl)) ?_ rfl Try.underlying4 ?_
  · intro ds hds
    match ds, hds with
    | [d1, d2, d3], _ => rfl
  · intro W base args ds p hval hA hlt hsz
    rw [Try.params7] at hA hval hsz
    obtain ⟨v0, vs0, d0, ds0, p0, q0, hargs, rfl, rfl, h0, r0⟩ := trodAll_cons hA
    obtain ⟨v1, vs1, d1, ds1, p1, q1, rfl, rfl, rfl, h1, r1⟩ := trodAll_cons r0
    obtain ⟨v2, vs2, d2, ds2, p2, q2, rfl, rfl, rfl, h2, r2⟩ := trodAll_cons r1
    obtain ⟨rfl, rfl, rfl⟩ := trodAll_nil r2
    obtain rfl : args = #[v0, v1, v2] := by cases args; simp_all
    obtain ⟨nm, rfl, rfl, rfl, w1⟩ := open_string Try.underlying9 (hval 1 9 v1 rfl rfl) h1
    obtain ⟨n, rfl, rfl, rfl, w2⟩ := open_int Try.underlying47 (hval 2 47 v2 rfl rfl) h2
    have hne : ∀ cs, v0 ≠ .agg cs := by
      rintro cs rfl
      have := hval 0 22 _ rfl rfl
      exact slice_not_agg Try.underlying22 this
    obtain ⟨l, hl⟩ := open_rows h0 hne
    have g2 := wf_u32 w2
    exact muxWays_any nm n g2.1 g2.2 v0 l W hl

/-- The statement. -/
theorem proved : Rows.MuxWaysSaid :=
  OpenClaim.holds_of_wide 7 Try.f7 rfl rfl rfl rfl rfl rfl rfl ⟨rfl, rfl, rfl, rfl, rfl⟩ rfl rfl rfl rfl rfl (by kernel_rfl) Try.func7 (by kernel_rfl)
    (of_decide_eq_true (by kernel_rfl)) (by unfold Func.isWrapper; first | (rw [if_pos (by decide +kernel)]; kernel_rfl) | (rw [if_neg (by decide +kernel)]; exact ⟨rfl, rfl⟩))
    (fun os started H enc _ => lifted os started H enc)
#print axioms proved
end Go.Proofs.Ytakmbmlpgmppiaa.lawMuxWays
