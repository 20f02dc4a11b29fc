/- strainerlaw14.PolicyMore answers true for every input: the statement's card. -/
import Derived.Deep.DeepWitnessRowRef
import Derived.Lib.SmallJoins
import Derived.ChangeMaps5
import Derived.LaidSub
import Derived.Lib.LaidTab
import Derived.Lay
import Derived.Test.YtmjipkdejggbfaaGreatDoorQPolMoreW
import Derived.Test.YtmjipkdejggbfaaGreatDoorQPolOpenM
import Derived.Test.YtmjipkdejggbfaaGreatDoorQOpen
import Derived.Test.YtmjipkdejggbfaaGreatDoorQLiftC
import Derived.Test.YtmjipkdejggbfaaGreatDoorQCond
namespace Go.Proofs.YtmjipkdejggbfaaGreatDoor.lawPolicyMore
open Go Go.Proofs Go.ChangeShapes Go.WideShapes Go.ChangeAt Go.RowKit Go.Joins Go.ChangeMaps Go.Proofs.YtmjipkdejggbfaaGreatDoor

theorem own : ownKnob Tryz.prog.godebug = none := by kernel_rfl
theorem laid_met (os : Os) : laidMet Tryz.prog Rows.policyMoreRow.laid ((World.laidAll Tryz.prog os Rows.policyMoreRow.laid).forCall (fun _ _ => 0) ⟨#[], #[.agg #[.int .i64 0, .int .i64 0, .bool false, .slice none 0 0], .agg #[.int .i64 0, .int .i64 0, .bool false, .slice none 0 0]], []⟩).memory :=
  laidMet_laidAll _ (by kernel_rfl) (by kernel_rfl)
theorem reads (os : Os) {H : Type} (enc : TypeId × Value → H) : ∃ places, DataW.whole enc Tryz.prog ((World.laidAll Tryz.prog os Rows.policyMoreRow.laid).forCall (fun _ _ => 0) ⟨#[], #[.agg #[.int .i64 0, .int .i64 0, .bool false, .slice none 0 0], .agg #[.int .i64 0, .int .i64 0, .bool false, .slice none 0 0]], []⟩).memory Tryz.f7.params.toList Rows.policyMoreSpec.vars false #[.agg #[.int .i64 0, .int .i64 0, .bool false, .slice none 0 0], .agg #[.int .i64 0, .int .i64 0, .bool false, .slice none 0 0]].toList 8 = some ([.agg [.agg [.lit (.int .i64 0), .lit (.int .i64 0)], .lit (.bool false), .nil], .agg [.agg [.lit (.int .i64 0), .lit (.int .i64 0)], .lit (.bool false), .nil]], [], places) :=
  ⟨[], by kernel_rfl⟩

set_option maxRecDepth 100000 in
theorem lifted (os : Os) (started : os.Started) (H : Type) (enc : TypeId × Value → H) (F : Stop.Interp) :
    ReturnsInHanded {} Tryz.checked os 7 .any ((OpenSpec.ofChange Rows.policyMoreSpec).preRow enc Tryz.prog Tryz.f7 Rows.policyMoreRow.domain false Rows.policyMoreRow.laid) (((OpenSpec.ofChange Rows.policyMoreSpec).at F).post enc Tryz.prog Tryz.f7 false true false false) := by
  obtain ⟨places, hx⟩ := reads os enc
  refine lift_row (C := Tryz.checked) (tb := 4) own started (by kernel_rfl) Tryz.func7
    (witness_row_atRef (enc := enc) (C := Tryz.checked) false (World.laidAll Tryz.prog os Rows.policyMoreRow.laid) #[.agg #[.int .i64 0, .int .i64 0, .bool false, .slice none 0 0], .agg #[.int .i64 0, .int .i64 0, .bool false, .slice none 0 0]] (World.laidAll_os _ _ _) (by kernel_rfl) (by kernel_rfl) (by kernel_rfl)
      (OpenSpec.preRow_of_cond 8 hx (by kernel_rfl) (fun k hk => by cases hk) (by kernel_rfl) (laid_met os)))
    rfl (by kernel_rfl) (by kernel_rfl) (of_decide_eq_true (by kernel_rfl)) ?_ rfl Tryz.underlying4 ?_
  · intro ds hds
    match ds, hds with
    | [d1, d2], _ => rfl
  · intro W base args ds p hval hA hlt hsz hlaid hshape
    rw [Tryz.params7] at hA hval hsz
    obtain ⟨v0, vs0, d0, ds0, p0, q0, hargs, rfl, rfl, h0, r0⟩ := trodAll_cons hA
    obtain ⟨v1, vs1, d1, ds1, p1, q1, rfl, rfl, rfl, h1, r1⟩ := trodAll_cons r0
    obtain ⟨rfl, rfl, rfl⟩ := trodAll_nil r1
    obtain rfl : args = #[v0, v1] := by cases args; simp_all
    have hl := laidMet.filter (fun x => x.1 == "strconv.ErrRange") hlaid
    have hE : CondP.ErrV W := CondP.errV_laid (r := []) W hl
    have hl2 := laidMet.filter (fun x => x.1 == "internal/strconv.uint64pow10") hlaid
    have hp : ActP.Pow10 W := Lib.tabIs_of_head (rest := []) (g := 1) (by kernel_rfl) (by kernel_rfl) Tryz.underlying191 Tryz.underlying72 (by kernel_rfl) (by kernel_rfl) hl2
    obtain ⟨p, vp, rfl, hp1, hp2⟩ := open_pol (hval 0 33 _ rfl rfl) h0
    have fp := pol_form h0
    obtain ⟨s, vs, rfl, hs1, hs2⟩ := open_pol (hval 1 33 _ rfl rfl) h1
    have fs := pol_form h1
    exact polmore_law W hE hp hp1 hs1 fp fs hp2 hs2

theorem said : Rows.PolicyMoreSaid :=
  OpenClaim.holds_of_cond 7 Tryz.f7 rfl rfl rfl rfl rfl rfl rfl ⟨rfl, rfl, rfl, rfl, rfl⟩ rfl rfl rfl rfl rfl (by kernel_rfl) Tryz.func7 (by kernel_rfl)
    (of_decide_eq_true (by kernel_rfl)) (by unfold Func.isWrapper; first | (rw [if_pos (by decide +kernel)]; kernel_rfl) | (rw [if_neg (by decide +kernel)]; exact ⟨rfl, rfl⟩))
    (fun os started H enc _ F => by rw [OpenClaim.pre_eq_preRow]; exact lifted os started H enc F)

theorem plain (f : FuncId) (fn : Func) (hf : Tryz.pinned.checked.prog.funcNamed "strainer/strainerlaw14.PolicyMore" = some f) (hfn : Tryz.pinned.checked.prog.funcs[f]? = some fn) :
    true = Tryz.pinned.checked.prog.looks [] ∧ ∀ (j : Nat) t, fn.params[j]? = some t → Tryz.pinned.checked.prog.wantsStandIn t = false := by
  obtain rfl : f = 7 := Option.some.inj ((show Tryz.prog.funcNamed "strainer/strainerlaw14.PolicyMore" = some 7 by kernel_rfl).symm.trans hf) |>.symm
  obtain rfl : fn = Tryz.f7 := (Option.some.inj (Tryz.func7.symm.trans hfn)).symm
  refine ⟨by kernel_rfl, fun j t ht => ?_⟩
  rw [Tryz.params7] at ht
  have hm := Array.mem_of_getElem? ht
  simp only [List.mem_toArray, List.mem_cons, List.not_mem_nil, or_false] at hm
  rcases hm with rfl | rfl
  · exact (show Tryz.prog.wantsStandIn 33 = false by kernel_rfl)
  · exact (show Tryz.prog.wantsStandIn 33 = false by kernel_rfl)

/-- The card. -/
theorem card : Rows.PolicyMoreCardSaid :=
  Claim7.holds_tied_plain_at .later [] _ _ _ _ said (fun _ h => by cases h) (by kernel_rfl) (fun _ h => by cases h) policyMore_row_tie rfl ⟨rfl, rfl⟩ (by kernel_rfl) rfl plain (by kernel_rfl)
#print axioms card
end Go.Proofs.YtmjipkdejggbfaaGreatDoor.lawPolicyMore
