/- Laws of the fenced walk for a whole row that is stored into, or read out of, a block: the plain walk's laws inside a fence. -/
import Derived.RangeFuncNested
import Derived.RangeFuncBound
import Derived.RangeFuncCalls
import Derived.RangeFuncLeaves
import Derived.WalkKit
import Derived.OwnWalkIn
import Derived.TacticsInMore
import Derived.Deep.WholeRow
namespace Go.Proofs.YtokehnclakedeaaGreatDoor
open Go Go.Proofs Go.RowKit
theorem retI {k : IntKind} {a b : Int} (h : a = b) : Ending.returned (.int k a) = .returned (.int k b) := by rw [h]
theorem retB {a b : Bool} (h : a = b) : Ending.returned (.bool a) = .returned (.bool b) := by rw [h]
theorem retS {a b : ByteArray} (h : a = b) : Ending.returned (.string a) = .returned (.string b) := by rw [h]

section
variable {F : Fence} {n : Nat} {P : Program} {ops : Array Oper} {rest : List Oper} {a : Act} {w : World} {Q : Exit → Act → World → Prop}

/-- A store of a whole row into the block that was made last, inside a fence. -/
theorem wpListIn_store_new {ty : TypeId} {x y : Operand} {tt : TypeId} {pos : String} {after : Array Edge}
    (W : World) (t : TypeId) (old cells : Array Value) (hw : w = W.alloc (.cells old t)) (hx : a.eval x = .pointer (some ⟨W.heap.size, 0, none⟩)) (hy : a.eval y = .agg cells)
    (hi : (P.info? ty).map (·.size) = some cells.size) (hold : old.size = cells.size) (h1 : cells.all (·.oneCell') = true)
    (h : wpListIn F n P ops Q rest a (W.alloc (.cells cells t))) : wpListIn F n P ops Q ({ dst := none, op := .store ty x y, type := tt, pos, after, guard := none } :: rest) a w :=
  wpListIn_plain rfl fun K hK => by
    subst hw
    refine ⟨fun f hf => ?_, ?_⟩
    · simp [Oper.about] at hf
    · rw [Oper.semAt_eq _ _ _ (by simp)]
      unfold execOp
      simp only [hx, hy, Instr.storeAt, Instr.sureAddr, Sem.run_bind, Sem.run_pure, Result.andThen_ok, run_storeVar_row (P := P) (W.alloc (.cells old t)) W.heap.size t ty old cells (heap_alloc_last W _) hi hold h1, World.setRow_alloc_new]
      simp only [Oper.uponIn, Act.put]; exact hK _ _ h

/-- A whole row read out of a block, inside a fence. -/
theorem wpListIn_load_row {k : Tmp} {ty : TypeId} {x : Operand} {tt : TypeId} {pos : String} {after : Array Edge}
    (g : Nat) (t : TypeId) (cs : Array Value) (fr : Nat × Nat) (d : TypeDesc) (hg : w.heap[g]? = some (.cells cs t fr)) (hx : a.eval x = .pointer (some ⟨g, 0, none⟩))
    (hu : P.underlying ty = some d) (hd0 : (match d with | .struct _ | .array _ _ => true | _ => false) = true) (hi : (P.info? ty).map (·.size) = some cs.size)
    (h : wpListIn F n P ops Q rest { a with tmps := a.tmps.setIfInBounds k (.agg cs) } w) : wpListIn F n P ops Q ({ dst := some k, op := .load ty x, type := tt, pos, after, guard := none } :: rest) a w :=
  wpListIn_plain rfl fun K hK => by
    refine ⟨fun f hf => ?_, ?_⟩
    · simp [Oper.about] at hf
    · rw [Oper.semAt_eq _ _ _ (by simp)]
      unfold execOp
      simp only [hx, Instr.loadAt, Instr.sureAddr, Sem.run_bind, Sem.run_pure, Result.andThen_ok, run_loadVar_row w g t ty cs fr d hg hu hd0 hi]
      simp only [Oper.uponIn, Act.put]; exact hK _ _ h
end
end Go.Proofs.YtokehnclakedeaaGreatDoor
