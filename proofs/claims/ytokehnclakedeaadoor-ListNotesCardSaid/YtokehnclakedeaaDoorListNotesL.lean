/- strainerlaw03.ListNotes answers true for every input: the statement's card. -/
import Derived.Test.YtokehnclakedeaaDoorListNotesW
import Derived.Deep.DeepWitnessRowRef
import Derived.Lib.SmallJoins
import Derived.Test.YtokehnclakedeaaDoorOpen
import Derived.Test.YtokehnclakedeaaDoorLiftC
import Derived.ChangeMaps5
import Derived.LaidSub
import Derived.Lib.LaidTab
import Derived.Lay
namespace Go.Proofs.YtokehnclakedeaaDoor.lawListNotes
open Go Go.Proofs Go.ChangeShapes Go.WideShapes Go.ChangeAt Go.RowKit Go.Joins Go.ChangeMaps Go.Proofs.YtokehnclakedeaaDoor

theorem own : ownKnob Tryd.prog.godebug = none := by kernel_rfl
theorem laid_met (os : Os) : laidMet Tryd.prog Rows.listNotesRow.laid ((World.laidAll Tryd.prog os Rows.listNotesRow.laid).forCall (fun _ _ => 0) ⟨#[], #[.agg #[.int .u16 0, .int .u8 0, .int .u8 0, .int .u32 0], .string ⟨#[]⟩], []⟩).memory :=
  laidMet_laidAll _ (by kernel_rfl) (by kernel_rfl)
theorem reads (os : Os) {H : Type} (enc : TypeId × Value → H) : ∃ places, DataW.whole enc Tryd.prog ((World.laidAll Tryd.prog os Rows.listNotesRow.laid).forCall (fun _ _ => 0) ⟨#[], #[.agg #[.int .u16 0, .int .u8 0, .int .u8 0, .int .u32 0], .string ⟨#[]⟩], []⟩).memory Tryd.f5.params.toList Rows.listNotesSpec.vars false #[.agg #[.int .u16 0, .int .u8 0, .int .u8 0, .int .u32 0], .string ⟨#[]⟩].toList 8 = some ([.agg [.lit (.int .u16 0), .lit (.int .u8 0), .lit (.int .u8 0), .lit (.int .u32 0)], .lit (.string [])], [], places) :=
  ⟨[], by kernel_rfl⟩

set_option maxRecDepth 100000 in
theorem lifted (os : Os) (started : os.Started) (H : Type) (enc : TypeId × Value → H) (F : Stop.Interp) :
    ReturnsInHanded {} Tryd.checked os 5 .any ((OpenSpec.ofChange Rows.listNotesSpec).preRow enc Tryd.prog Tryd.f5 Rows.listNotesRow.domain false Rows.listNotesRow.laid) (((OpenSpec.ofChange Rows.listNotesSpec).at F).post enc Tryd.prog Tryd.f5 false true false false) := by
  obtain ⟨places, hx⟩ := reads os enc
  refine lift_row (C := Tryd.checked) (tb := 4) own started (by kernel_rfl) Tryd.func5
    (witness_row_atRef (enc := enc) (C := Tryd.checked) false (World.laidAll Tryd.prog os Rows.listNotesRow.laid) #[.agg #[.int .u16 0, .int .u8 0, .int .u8 0, .int .u32 0], .string ⟨#[]⟩] (World.laidAll_os _ _ _) (by kernel_rfl) (by kernel_rfl) (by kernel_rfl)
      (OpenSpec.preRow_of_cond 8 hx (by kernel_rfl) (fun k hk => by cases hk) (by kernel_rfl) (laid_met os)))
    rfl (by kernel_rfl) (by kernel_rfl) (of_decide_eq_true (by kernel_rfl)) ?_ rfl Tryd.underlying4 ?_
  · intro ds hds
    match ds, hds with
    | [d1, d2], _ => rfl
  · intro W base args ds p hval hA hlt hsz hlaid hshape
    rw [Tryd.params5] at hA hval hsz
    obtain ⟨v0, vs0, d0, ds0, p0, q0, hargs, rfl, rfl, h0, r0⟩ := trodAll_cons hA
    obtain ⟨v1, vs1, d1, ds1, p1, q1, rfl, rfl, rfl, h1, r1⟩ := trodAll_cons r0
    obtain ⟨rfl, rfl, rfl⟩ := trodAll_nil r1
    obtain rfl : args = #[v0, v1] := by cases args; simp_all
    obtain ⟨note, rfl, rfl, rfl, w1⟩ := open_string Tryd.underlying9 (hval 1 9 v1 rfl rfl) h1
    have hl2 := laidMet.filter (fun x => x.1 == "internal/strconv.uint64pow10") hlaid
    have hp : Pow10 W := Lib.tabIs_of_head (rest := []) (g := 2) (by kernel_rfl) (by kernel_rfl) Tryd.underlying123 Tryd.underlying57 (by kernel_rfl) (by kernel_rfl) hl2
    have hl3 := laidMet.filter (fun x => x.1 == "strings.asciiSpace") hlaid
    have hT : AscT W := Lib.tabIs_of_head (rest := []) (g := 0) (by kernel_rfl) (by kernel_rfl) Tryd.underlying77 Tryd.underlying5 (by kernel_rfl) (by kernel_rfl) hl3
    obtain ⟨u00, u01, u02, u03, y00, y01, y02, y03, mm0, rfl, _, _, t00, t01, t02, t03⟩ := open_agg4 Tryd.underlying25 (by kernel_rfl) (by kernel_rfl) (hval 0 25 _ rfl rfl) h0
    obtain ⟨c, ec, _, gc⟩ := DataW.trod_int Tryd.underlying22 t00
    obtain ⟨jt, ejt, _, gjt⟩ := DataW.trod_int Tryd.underlying5 t01
    obtain ⟨jf, ejf, _, gjf⟩ := DataW.trod_int Tryd.underlying5 t02
    obtain ⟨k, ek, _, gk⟩ := DataW.trod_int Tryd.underlying23 t03
    simp only [List.cons.injEq, and_true] at ec ejt ejf ek
    subst ec ejt ejf ek
    have bc := bounds_u16 gc
    have bjt := bounds_u8 gjt
    have bjf := bounds_u8 gjf
    have bk := bounds_u32 gk
    obtain ⟨c', rfl⟩ := Int.eq_ofNat_of_zero_le (show 0 ≤ c by have := bc.1; omega)
    obtain ⟨jt', rfl⟩ := Int.eq_ofNat_of_zero_le (show 0 ≤ jt by have := bjt.1; omega)
    obtain ⟨jf', rfl⟩ := Int.eq_ofNat_of_zero_le (show 0 ≤ jf by have := bjf.1; omega)
    obtain ⟨k', rfl⟩ := Int.eq_ofNat_of_zero_le (show 0 ≤ k by have := bk.1; omega)
    exact listnotes_any c' jt' jf' k' ⟨by have := bc.2; omega, by have := bjt.2; omega, by have := bjf.2; omega, by have := bk.2; omega⟩ note W hT hp

theorem said : Rows.ListNotesSaid :=
  OpenClaim.holds_of_cond 5 Tryd.f5 rfl rfl rfl rfl rfl rfl rfl ⟨rfl, rfl, rfl, rfl, rfl⟩ rfl rfl rfl rfl rfl (by kernel_rfl) Tryd.func5 (by kernel_rfl)
    (of_decide_eq_true (by kernel_rfl)) (by unfold Func.isWrapper; first | (rw [if_pos (by decide +kernel)]; kernel_rfl) | (rw [if_neg (by decide +kernel)]; exact ⟨rfl, rfl⟩))
    (fun os started H enc _ F => by rw [OpenClaim.pre_eq_preRow]; exact lifted os started H enc F)

theorem plain (f : FuncId) (fn : Func) (hf : Tryd.pinned.checked.prog.funcNamed "strainer/strainerlaw03.ListNotes" = some f) (hfn : Tryd.pinned.checked.prog.funcs[f]? = some fn) :
    true = Tryd.pinned.checked.prog.looks [] ∧ ∀ (j : Nat) t, fn.params[j]? = some t → Tryd.pinned.checked.prog.wantsStandIn t = false := by
  obtain rfl : f = 5 := Option.some.inj ((show Tryd.prog.funcNamed "strainer/strainerlaw03.ListNotes" = some 5 by kernel_rfl).symm.trans hf) |>.symm
  obtain rfl : fn = Tryd.f5 := (Option.some.inj (Tryd.func5.symm.trans hfn)).symm
  refine ⟨by kernel_rfl, fun j t ht => ?_⟩
  rw [Tryd.params5] at ht
  have hm := Array.mem_of_getElem? ht
  simp only [List.mem_toArray, List.mem_cons, List.not_mem_nil, or_false] at hm
  rcases hm with rfl | rfl
  · exact (show Tryd.prog.wantsStandIn 25 = false by kernel_rfl)
  · exact (show Tryd.prog.wantsStandIn 9 = false by kernel_rfl)

/-- The card. -/
theorem card : Rows.ListNotesCardSaid :=
  Claim7.holds_tied_plain_at .later [] _ _ _ _ said (fun _ h => by cases h) (by kernel_rfl) (fun _ h => by cases h) listNotes_row_tie rfl ⟨rfl, rfl⟩ (by kernel_rfl) rfl plain (by kernel_rfl)
#print axioms card
end Go.Proofs.YtokehnclakedeaaDoor.lawListNotes
