/- strainerlaw11.SystabFinds answers true for every input: the statement. -/
import Derived.Test.YtakmbmlpgmppiaaSysFinds
import Derived.Test.YtakmbmlpgmppiaaSysOpen
import Derived.Test.YtakmbmlpgmppiaaChecked
import Derived.ChangeMaps5
namespace Go.Proofs.Ytakmbmlpgmppiaa.lawSystabFinds
open Go Go.Proofs Go.ChangeShapes Go.WideShapes Go.ChangeAt Go.RowKit Go.Joins Go.ChangeMaps Go.Proofs.Ytakmbmlpgmppiaa

theorem own : ownKnob Try.prog.godebug = none := by kernel_rfl

set_option maxRecDepth 100000 in
theorem lifted (os : Os) (started : os.Started) (H : Type) (enc : TypeId × Value → H) :
    ReturnsInHanded {} Try.checked os 3 .any (Rows.systabFindsSpec.pre6 enc Try.prog Try.f3 Rows.systabFindsRow.domain false) (Rows.systabFindsSpec.post enc Try.prog Try.f3 false true false false) := by
  refine lift_law (C := Try.checked) (tb := 4) own started (by kernel_rfl) Try.func3
    (ChangeSpec.witness6 (enc := enc) (C := Try.checked) false ⟨#[], #[.slice none 0 0, .string ⟨#[]⟩, .agg #[.int .i64 0, .int .i64 0, .int .i64 0, .int .i64 0]], []⟩ 8 (by kernel_rfl) (by kernel_rfl) (by kernel_rfl) (by kernel_rfl))
    rfl (by kernel_rfl) (by kernel_rfl) (of_decide_eq_true (by kernel_rfl)) ?_ rfl Try.underlying4 ?_
  · intro ds hds
    match ds, hds with
    | [d1, d2, d3], _ => rfl
  · intro W base args ds p hval hA hlt hsz
    rw [Try.params3] at hA hval hsz
    obtain ⟨v0, vs0, d0, ds0, p0, q0, hargs, rfl, rfl, h0, r0⟩ := trodAll_cons hA
    obtain ⟨v1, vs1, d1, ds1, p1, q1, rfl, rfl, rfl, h1, r1⟩ := trodAll_cons r0
    obtain ⟨v2, vs2, d2, ds2, p2, q2, rfl, rfl, rfl, h2, r2⟩ := trodAll_cons r1
    obtain ⟨rfl, rfl, rfl⟩ := trodAll_nil r2
    obtain rfl : args = #[v0, v1, v2] := by cases args; simp_all
    obtain ⟨nm, rfl, rfl, rfl, w1⟩ := open_string Try.underlying9 (hval 1 9 v1 rfl rfl) h1
    have hne : ∀ cs, v0 ≠ .agg cs := by
      rintro cs rfl
      have := hval 0 22 _ rfl rfl
      exact slice_not_agg Try.underlying22 this
    obtain ⟨l, hl⟩ := open_rows h0 hne
    obtain ⟨u0, u1, u2, u3, y0, y1, y2, y3, m, rfl, _, _, t0, t1, t2, t3⟩ := open_agg4 Try.underlying24 (by kernel_rfl) (by kernel_rfl) (hval 2 24 _ rfl rfl) h2
    obtain ⟨a, ea, _, _⟩ := DataW.trod_int Try.underlying3 t0
    obtain ⟨n, en, _, _⟩ := DataW.trod_int Try.underlying3 t1
    obtain ⟨mu, em, _, _⟩ := DataW.trod_int Try.underlying3 t2
    obtain ⟨s, es, _, _⟩ := DataW.trod_int Try.underlying3 t3
    simp only [List.cons.injEq, and_true] at ea en em es
    subst ea en em es
    exact finds_any nm a n mu s v0 l W hl

/-- The statement. -/
theorem proved : Rows.SystabFindsSaid :=
  OpenClaim.holds_of_wide 3 Try.f3 rfl rfl rfl rfl rfl rfl rfl ⟨rfl, rfl, rfl, rfl, rfl⟩ rfl rfl rfl rfl rfl (by kernel_rfl) Try.func3 (by kernel_rfl)
    (of_decide_eq_true (by kernel_rfl)) (by unfold Func.isWrapper; first | (rw [if_pos (by decide +kernel)]; kernel_rfl) | (rw [if_neg (by decide +kernel)]; exact ⟨rfl, rfl⟩))
    (fun os started H enc _ => lifted os started H enc)
#print axioms proved
end Go.Proofs.Ytakmbmlpgmppiaa.lawSystabFinds
