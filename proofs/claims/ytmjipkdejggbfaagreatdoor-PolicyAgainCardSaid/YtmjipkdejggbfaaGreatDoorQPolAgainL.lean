/- strainerlaw14.PolicyAgain answers true for every input: the statement's card. -/
import Derived.Deep.DeepWitnessRowRef
import Derived.Lib.SmallJoins
import Derived.ChangeMaps5
import Derived.LaidSub
import Derived.Lib.LaidTab
import Derived.Lay
import Derived.Test.YtmjipkdejggbfaaGreatDoorQPolAgainW
import Derived.Test.YtmjipkdejggbfaaGreatDoorQOpen
import Derived.Test.YtmjipkdejggbfaaGreatDoorQLiftC
import Derived.Test.YtmjipkdejggbfaaGreatDoorQCond
namespace Go.Proofs.YtmjipkdejggbfaaGreatDoor.lawPolicyAgain
open Go Go.Proofs Go.ChangeShapes Go.WideShapes Go.ChangeAt Go.RowKit Go.Joins Go.ChangeMaps Go.Proofs.YtmjipkdejggbfaaGreatDoor

theorem own : ownKnob Tryz.prog.godebug = none := by kernel_rfl
theorem laid_met (os : Os) : laidMet Tryz.prog Rows.policyAgainRow.laid ((World.laidAll Tryz.prog os Rows.policyAgainRow.laid).forCall (fun _ _ => 0) ⟨#[], #[.string ⟨#[]⟩], []⟩).memory :=
  laidMet_laidAll _ (by kernel_rfl) (by kernel_rfl)
theorem reads (os : Os) {H : Type} (enc : TypeId × Value → H) : ∃ places, DataW.whole enc Tryz.prog ((World.laidAll Tryz.prog os Rows.policyAgainRow.laid).forCall (fun _ _ => 0) ⟨#[], #[.string ⟨#[]⟩], []⟩).memory Tryz.f8.params.toList Rows.policyAgainSpec.vars false #[.string ⟨#[]⟩].toList 8 = some ([.lit (.string [])], [], places) :=
  ⟨[], by kernel_rfl⟩

set_option maxRecDepth 100000 in
theorem lifted (os : Os) (started : os.Started) (H : Type) (enc : TypeId × Value → H) (F : Stop.Interp) :
    ReturnsInHanded {} Tryz.checked os 8 .any ((OpenSpec.ofChange Rows.policyAgainSpec).preRow enc Tryz.prog Tryz.f8 Rows.policyAgainRow.domain false Rows.policyAgainRow.laid) (((OpenSpec.ofChange Rows.policyAgainSpec).at F).post enc Tryz.prog Tryz.f8 false true false false) := by
  obtain ⟨places, hx⟩ := reads os enc
  refine lift_row (C := Tryz.checked) (tb := 4) own started (by kernel_rfl) Tryz.func8
    (witness_row_atRef (enc := enc) (C := Tryz.checked) false (World.laidAll Tryz.prog os Rows.policyAgainRow.laid) #[.string ⟨#[]⟩] (World.laidAll_os _ _ _) (by kernel_rfl) (by kernel_rfl) (by kernel_rfl)
      (OpenSpec.preRow_of_cond 8 hx (by kernel_rfl) (fun k hk => by cases hk) (by kernel_rfl) (laid_met os)))
    rfl (by kernel_rfl) (by kernel_rfl) (of_decide_eq_true (by kernel_rfl)) ?_ rfl Tryz.underlying4 ?_
  · intro ds hds
    match ds, hds with
    | [d1], _ => rfl
  · intro W base args ds p hval hA hlt hsz hlaid hshape
    rw [Tryz.params8] at hA hval hsz
    obtain ⟨v0, vs0, d0, ds0, p0, q0, hargs, rfl, rfl, h0, r0⟩ := trodAll_cons hA
    obtain ⟨rfl, rfl, rfl⟩ := trodAll_nil r0
    obtain rfl : args = #[v0] := by cases args; simp_all
    obtain ⟨t, rfl, rfl, rfl, w0⟩ := open_string Tryz.underlying9 (hval 0 9 v0 rfl rfl) h0
    have hl := laidMet.filter (fun x => x.1 == "strconv.ErrRange") hlaid
    have hE : CondP.ErrV W := CondP.errV_laid (r := []) W hl
    have hl2 := laidMet.filter (fun x => x.1 == "internal/strconv.uint64pow10") hlaid
    have hp : ActP.Pow10 W := Lib.tabIs_of_head (rest := []) (g := 1) (by kernel_rfl) (by kernel_rfl) Tryz.underlying191 Tryz.underlying72 (by kernel_rfl) (by kernel_rfl) hl2
    exact polagain_law t W hE hp

theorem said : Rows.PolicyAgainSaid :=
  OpenClaim.holds_of_cond 8 Tryz.f8 rfl rfl rfl rfl rfl rfl rfl ⟨rfl, rfl, rfl, rfl, rfl⟩ rfl rfl rfl rfl rfl (by kernel_rfl) Tryz.func8 (by kernel_rfl)
    (of_decide_eq_true (by kernel_rfl)) (by unfold Func.isWrapper; first | (rw [if_pos (by decide +kernel)]; kernel_rfl) | (rw [if_neg (by decide +kernel)]; exact ⟨rfl, rfl⟩))
    (fun os started H enc _ F => by rw [OpenClaim.pre_eq_preRow]; exact lifted os started H enc F)

theorem plain (f : FuncId) (fn : Func) (hf : Tryz.pinned.checked.prog.funcNamed "strainer/strainerlaw14.PolicyAgain" = some f) (hfn : Tryz.pinned.checked.prog.funcs[f]? = some fn) :
    true = Tryz.pinned.checked.prog.looks [] ∧ ∀ (j : Nat) t, fn.params[j]? = some t → Tryz.pinned.checked.prog.wantsStandIn t = false := by
  obtain rfl : f = 8 := Option.some.inj ((show Tryz.prog.funcNamed "strainer/strainerlaw14.PolicyAgain" = some 8 by kernel_rfl).symm.trans hf) |>.symm
  obtain rfl : fn = Tryz.f8 := (Option.some.inj (Tryz.func8.symm.trans hfn)).symm
  refine ⟨by kernel_rfl, fun j t ht => ?_⟩
  rw [Tryz.params8] at ht
  have hm := Array.mem_of_getElem? ht
  simp only [List.mem_toArray, List.mem_cons, List.not_mem_nil, or_false] at hm
  subst hm
  exact (show Tryz.prog.wantsStandIn 9 = false by kernel_rfl)

/-- The card. -/
theorem card : Rows.PolicyAgainCardSaid :=
  Claim7.holds_tied_plain_at .later [] _ _ _ _ said (fun _ h => by cases h) (by kernel_rfl) (fun _ h => by cases h) policyAgain_row_tie rfl ⟨rfl, rfl⟩ (by kernel_rfl) rfl plain (by kernel_rfl)
#print axioms card
end Go.Proofs.YtmjipkdejggbfaaGreatDoor.lawPolicyAgain
