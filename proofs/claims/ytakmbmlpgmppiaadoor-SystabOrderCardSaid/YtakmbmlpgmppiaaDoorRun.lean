/- Operations that yield values, run by the kernel. -/
import Derived.Great.Walk
import Derived.WalkKit
namespace Go.Proofs.YtakmbmlpgmppiaaDoor
open Go Go.Proofs Go.RowKit

/-- Run operations without guards, each of which yields a value. -/
def runVals (P : Program) : List Oper → Act → World → Option (Act × World)
  | [], a, w => some (a, w)
  | o :: r, a, w =>
    match o.guard with
    | some _ => none
    | none =>
      match (execOp a.eval o).run P w with
      | .ok (.value v) w' => runVals P r (a.put o.dst v) w'
      | _ => none

theorem wpList_runVals {P : Program} {ops : Array Oper} {Q : Exit → Act → World → Prop} : ∀ (l : List Oper) (a : Act) (w : World) (a' : Act) (w' : World), runVals P l a w = some (a', w') → Q .normal a' w' → wpList P ops Q l a w
  | [], a, w, a', w', h, hq => by
    simp only [runVals, Option.some.injEq, Prod.mk.injEq] at h
    obtain ⟨rfl, rfl⟩ := h
    exact wpList_nil hq
  | o :: r, a, w, a', w', h, hq => by
    unfold runVals at h
    split at h
    · cases h
    · rename_i hg
      split at h
      · rename_i v w1 hrun
        exact Great.wpList_runTo hg _ rfl v w1 hrun (wpList_runVals r _ _ _ _ h hq)
      · cases h

theorem wp_region_run {P : Program} {id : Nat} {ops : Array Oper} {Q : Exit → Act → World → Prop} {a : Act} {w : World} (a' : Act) (w' : World)
    (h : runVals P ops.toList a w = some (a', w')) (hq : Q .normal a' w') : (Code.region id ops false).wp P Q a w :=
  wp_region_list (wpList_runVals _ _ _ _ _ h hq)
/-- The same, where one slot alone counts. -/
theorem wp_region_slot {P : Program} {id : Nat} {ops : Array Oper} {Q : Exit → Act → World → Prop} {a : Act} {w : World} (r : Nat) (v : Value) (w' : World)
    (h : (runVals P ops.toList a w).map (fun x => (x.1.tmps.getD r undef, x.1.defers, x.2)) = some (v, [], w')) (hq : ∀ tmps : Array Value, tmps.getD r undef = v → Q .normal ⟨tmps, []⟩ w') : (Code.region id ops false).wp P Q a w := by
  cases hr : runVals P ops.toList a w with
  | none => rw [hr] at h; cases h
  | some x =>
    obtain ⟨⟨t, d⟩, w1⟩ := x
    rw [hr] at h
    simp only [Option.map_some, Option.some.injEq, Prod.mk.injEq] at h
    obtain ⟨h1, rfl, rfl⟩ := h
    exact wp_region_run _ _ hr (hq t h1)
end Go.Proofs.YtakmbmlpgmppiaaDoor
