/- strainerlaw10.CondBack answers true for every input: the statement's card. -/
import Derived.Test.YtlmobmbglninkaaDoorCondBackW
import Derived.Lib.SmallJoins
import Derived.Test.YtlmobmbglninkaaDoorOpen
import Derived.Test.YtlmobmbglninkaaDoorLiftC
import Derived.ChangeMaps5
import Derived.LaidSub
import Derived.Lib.LaidTab
import Derived.Lay
import Derived.Test.YtlmobmbglninkaaDoorCondErr
namespace Go.Proofs.YtlmobmbglninkaaDoor.lawCondBack
open Go Go.Proofs Go.ChangeShapes Go.WideShapes Go.ChangeAt Go.RowKit Go.Joins Go.ChangeMaps Go.Proofs.YtlmobmbglninkaaDoor

theorem own : ownKnob Tryd.prog.godebug = none := by kernel_rfl
theorem laid_met (os : Os) : laidMet Tryd.prog Rows.condBackRow.laid ((World.laidAll Tryd.prog os Rows.condBackRow.laid).forCall (fun _ _ => 0) ⟨#[], #[.agg #[.int .i64 0, .int .i64 0, .int .u64 0, .int .u64 0], .string ⟨#[]⟩], []⟩).memory :=
  laidMet_laidAll _ (by kernel_rfl) (by kernel_rfl)
theorem reads (os : Os) {H : Type} (enc : TypeId × Value → H) : ∃ places, DataW.whole enc Tryd.prog ((World.laidAll Tryd.prog os Rows.condBackRow.laid).forCall (fun _ _ => 0) ⟨#[], #[.agg #[.int .i64 0, .int .i64 0, .int .u64 0, .int .u64 0], .string ⟨#[]⟩], []⟩).memory Tryd.f8.params.toList Rows.condBackSpec.vars false #[.agg #[.int .i64 0, .int .i64 0, .int .u64 0, .int .u64 0], .string ⟨#[]⟩].toList 8 = some ([.agg [.lit (.int .i64 0), .lit (.int .i64 0), .lit (.int .u64 0), .lit (.int .u64 0)], .lit (.string [])], [], places) :=
  ⟨[], by kernel_rfl⟩

set_option maxRecDepth 100000 in
theorem lifted (os : Os) (started : os.Started) (H : Type) (enc : TypeId × Value → H) (F : Stop.Interp) :
    ReturnsInHanded {} Tryd.checked os 8 .any ((OpenSpec.ofChange Rows.condBackSpec).preRow enc Tryd.prog Tryd.f8 Rows.condBackRow.domain false Rows.condBackRow.laid) (((OpenSpec.ofChange Rows.condBackSpec).at F).post enc Tryd.prog Tryd.f8 false true false false) := by
  obtain ⟨places, hx⟩ := reads os enc
  refine lift_row (C := Tryd.checked) (tb := 4) own started (by kernel_rfl) Tryd.func8
    (witness_row_at (enc := enc) (C := Tryd.checked) false (World.laidAll Tryd.prog os Rows.condBackRow.laid) #[.agg #[.int .i64 0, .int .i64 0, .int .u64 0, .int .u64 0], .string ⟨#[]⟩] (World.laidAll_os _ _ _) (by kernel_rfl) (by kernel_rfl) (by kernel_rfl)
      (OpenSpec.preRow_of_cond 8 hx (by kernel_rfl) (fun k hk => by cases hk) (by kernel_rfl) (laid_met os)))
    rfl (by kernel_rfl) (by kernel_rfl) (of_decide_eq_true (by kernel_rfl)) ?_ rfl Tryd.underlying4 ?_
  · intro ds hds
    match ds, hds with
    | [d1, d2], _ => rfl
  · intro W base args ds p hval hA hlt hsz hlaid hshape
    rw [Tryd.params8] at hA hval hsz
    obtain ⟨v0, vs0, d0, ds0, p0, q0, hargs, rfl, rfl, h0, r0⟩ := trodAll_cons hA
    obtain ⟨v1, vs1, d1, ds1, p1, q1, rfl, rfl, rfl, h1, r1⟩ := trodAll_cons r0
    obtain ⟨rfl, rfl, rfl⟩ := trodAll_nil r1
    obtain rfl : args = #[v0, v1] := by cases args; simp_all
    obtain ⟨t, rfl, rfl, rfl, w1⟩ := open_string Tryd.underlying9 (hval 1 9 v1 rfl rfl) h1
    have hl := laidMet.filter (fun x => x.1 == "strconv.ErrRange") hlaid
    have hE : ErrV W := errV_laid (r := []) W hl
    have hl2 := laidMet.filter (fun x => x.1 == "internal/strconv.uint64pow10") hlaid
    have hp : Pow10 W := Lib.tabIs_of_head (rest := []) (g := 4) (by kernel_rfl) (by kernel_rfl) Tryd.underlying125 Tryd.underlying23 (by kernel_rfl) (by kernel_rfl) hl2
    obtain ⟨u0, u1, u2, u3, y0, y1, y2, y3, mm, rfl, _, _, t0, t1, t2, t3⟩ := open_agg4 Tryd.underlying29 (by kernel_rfl) (by kernel_rfl) (hval 0 29 _ rfl rfl) h0
    obtain ⟨a, ea, _, _⟩ := DataW.trod_int Tryd.underlying3 t0
    obtain ⟨o, eo, _, _⟩ := DataW.trod_int Tryd.underlying3 t1
    obtain ⟨m, em, _, gm⟩ := DataW.trod_int Tryd.underlying23 t2
    obtain ⟨v, ev, _, gv⟩ := DataW.trod_int Tryd.underlying23 t3
    simp only [List.cons.injEq, and_true] at ea eo em ev
    subst ea eo em ev
    have bm := bounds_u64 gm
    have bv := bounds_u64 gv
    exact cback_any a o m v (by have := bm.1; have := bm.2; omega) (by have := bv.1; have := bv.2; omega) t W hE hp

theorem said : Rows.CondBackSaid :=
  OpenClaim.holds_of_cond 8 Tryd.f8 rfl rfl rfl rfl rfl rfl rfl ⟨rfl, rfl, rfl, rfl, rfl⟩ rfl rfl rfl rfl rfl (by kernel_rfl) Tryd.func8 (by kernel_rfl)
    (of_decide_eq_true (by kernel_rfl)) (by unfold Func.isWrapper; first | (rw [if_pos (by decide +kernel)]; kernel_rfl) | (rw [if_neg (by decide +kernel)]; exact ⟨rfl, rfl⟩))
    (fun os started H enc _ F => by rw [OpenClaim.pre_eq_preRow]; exact lifted os started H enc F)

theorem plain (f : FuncId) (fn : Func) (hf : Tryd.pinned.checked.prog.funcNamed "strainer/strainerlaw10.CondBack" = some f) (hfn : Tryd.pinned.checked.prog.funcs[f]? = some fn) :
    true = Tryd.pinned.checked.prog.looks [] ∧ ∀ (j : Nat) t, fn.params[j]? = some t → Tryd.pinned.checked.prog.wantsStandIn t = false := by
  obtain rfl : f = 8 := Option.some.inj ((show Tryd.prog.funcNamed "strainer/strainerlaw10.CondBack" = some 8 by kernel_rfl).symm.trans hf) |>.symm
  obtain rfl : fn = Tryd.f8 := (Option.some.inj (Tryd.func8.symm.trans hfn)).symm
  refine ⟨by kernel_rfl, fun j t ht => ?_⟩
  rw [Tryd.params8] at ht
  have hm := Array.mem_of_getElem? ht
  simp only [List.mem_toArray, List.mem_cons, List.not_mem_nil, or_false] at hm
  rcases hm with rfl | rfl
  · exact (show Tryd.prog.wantsStandIn 29 = false by kernel_rfl)
  · exact (show Tryd.prog.wantsStandIn 9 = false by kernel_rfl)

/-- The card. -/
theorem card : Rows.CondBackCardSaid :=
  Claim7.holds_tied_plain_at .later [] _ _ _ _ said (fun _ h => by cases h) (by kernel_rfl) (fun _ h => by cases h) condBack_row_tie rfl ⟨rfl, rfl⟩ (by kernel_rfl) rfl plain (by kernel_rfl)
#print axioms card
end Go.Proofs.YtlmobmbglninkaaDoor.lawCondBack
