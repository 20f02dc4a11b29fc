/- The iterator over the ABIs' rows: its contract, for every loop body. -/
import Derived.RangeFuncNested
import Derived.RangeFuncBound
import Derived.RangeFuncCalls
import Derived.RangeFuncLeaves
import Derived.Shelf.Abstract
import Derived.Shelf.RegionOpen
import Derived.WalkKit
import Derived.OwnWalkIn
import Derived.TacticsInMore
import Derived.LoopNIn
import Derived.LoopIn
import Derived.Test.YtakmbmlpgmppiaaProg
import Derived.Test.YtakmbmlpgmppiaaIn
namespace Go.Proofs.Ytakmbmlpgmppiaa
open Go Go.Proofs Go.RowKit Go.Shelf
attribute [local go_sem] Oper.semAt_some

/-- A row as the iterator hands it: its number, its fields. -/
structure AbiRow where
  n : Int
  name : ByteArray
  token : Int
  bit : Bool
  bits : Int

def AbiRow.val (x : AbiRow) : Value := .agg #[.string x.name, .int .u32 x.token, .bool x.bit, .int .i64 x.bits]
abbrev AbiRow.encs (x : AbiRow) : Array Value := #[.int .i64 x.n, .agg #[.string x.name, .int .u32 x.token, .bool x.bit, .int .i64 x.bits]]

def r0 : AbiRow := ⟨0, ⟨#[120, 56, 54, 95, 54, 52]⟩, 3221225534, false, 64⟩
def r1 : AbiRow := ⟨1, ⟨#[120, 51, 50]⟩, 3221225534, true, 64⟩
def r2 : AbiRow := ⟨2, ⟨#[105, 51, 56, 54]⟩, 1073741827, false, 32⟩
def r3 : AbiRow := ⟨3, ⟨#[97, 114, 109, 54, 52]⟩, 3221225655, false, 64⟩
def r4 : AbiRow := ⟨4, ⟨#[114, 105, 115, 99, 118, 54, 52]⟩, 3221225715, false, 64⟩
def abiRows : List AbiRow := [r0, r1, r2, r3, r4]

set_option maxRecDepth 100000 in
set_option maxHeartbeats 1000000 in
theorem rows1_in (F : Fence) (n : Nat) (hf : F.fn 50) (hro : F.round = none) (hn : 1 ≤ n) (w : World) :
    SeqStopsK F n Try.prog 50 #[] AbiRow.encs (fun _ _ => True) (fun xs => xs = abiRows) (fun pre => pre <+: abiRows) 5 w := fun l J Jx W hW hJ hJx hY h0 => by
  refine callsIn_of_wp Try.func50 rfl hf ?_ hro
  simp only [Try.ntmps50, List.size_toArray, List.length_cons, List.length_nil, Nat.reduceAdd, Nat.reduceSub, Array.replicate_succ, Array.replicate_zero, List.push_toArray, List.append_toArray, List.nil_append, List.cons_append]
  gi_wp2_with (first | (refine wpListIn_store_new W 93 ?old ?cells ?c3 ?c4 ?c5 ?c6 ?c7 ?c8 ?c9; (case c3 => rfl); (case c4 => rfl); (case c5 => rfl); (case c6 => kernel_rfl); (case c7 => kernel_rfl); (case c8 => kernel_rfl)) | (refine wpListIn_load_row W.heap.size 93 ?cs (0, 0) _ ?c3 ?c4 Try.underlying93 ?c5 ?c6 ?c7; (case c3 => exact heap_alloc_last _ _); (case c4 => rfl); (case c5 => rfl); (case c6 => kernel_rfl); simp only [List.setIfInBounds_toArray, List.set_cons_succ, List.set_cons_zero]))
  have i0 : ∀ w, (Instr.index 93 (.agg #[.string ⟨#[120, 56, 54, 95, 54, 52]⟩, .int .u32 3221225534, .bool false, .int .i64 64, .string ⟨#[120, 51, 50]⟩, .int .u32 3221225534, .bool true, .int .i64 64, .string ⟨#[105, 51, 56, 54]⟩, .int .u32 1073741827, .bool false, .int .i64 32, .string ⟨#[97, 114, 109, 54, 52]⟩, .int .u32 3221225655, .bool false, .int .i64 64, .string ⟨#[114, 105, 115, 99, 118, 54, 52]⟩, .int .u32 3221225715, .bool false, .int .i64 64]) (.int .i64 0)).run Try.prog w = .ok (.agg #[.string ⟨#[120, 56, 54, 95, 54, 52]⟩, .int .u32 3221225534, .bool false, .int .i64 64]) w := fun _ => by as_aux_lemma => kernel_rfl
  have i1 : ∀ w, (Instr.index 93 (.agg #[.string ⟨#[120, 56, 54, 95, 54, 52]⟩, .int .u32 3221225534, .bool false, .int .i64 64, .string ⟨#[120, 51, 50]⟩, .int .u32 3221225534, .bool true, .int .i64 64, .string ⟨#[105, 51, 56, 54]⟩, .int .u32 1073741827, .bool false, .int .i64 32, .string ⟨#[97, 114, 109, 54, 52]⟩, .int .u32 3221225655, .bool false, .int .i64 64, .string ⟨#[114, 105, 115, 99, 118, 54, 52]⟩, .int .u32 3221225715, .bool false, .int .i64 64]) (.int .i64 1)).run Try.prog w = .ok (.agg #[.string ⟨#[120, 51, 50]⟩, .int .u32 3221225534, .bool true, .int .i64 64]) w := fun _ => by as_aux_lemma => kernel_rfl
  have i2 : ∀ w, (Instr.index 93 (.agg #[.string ⟨#[120, 56, 54, 95, 54, 52]⟩, .int .u32 3221225534, .bool false, .int .i64 64, .string ⟨#[120, 51, 50]⟩, .int .u32 3221225534, .bool true, .int .i64 64, .string ⟨#[105, 51, 56, 54]⟩, .int .u32 1073741827, .bool false, .int .i64 32, .string ⟨#[97, 114, 109, 54, 52]⟩, .int .u32 3221225655, .bool false, .int .i64 64, .string ⟨#[114, 105, 115, 99, 118, 54, 52]⟩, .int .u32 3221225715, .bool false, .int .i64 64]) (.int .i64 2)).run Try.prog w = .ok (.agg #[.string ⟨#[105, 51, 56, 54]⟩, .int .u32 1073741827, .bool false, .int .i64 32]) w := fun _ => by as_aux_lemma => kernel_rfl
  have i3 : ∀ w, (Instr.index 93 (.agg #[.string ⟨#[120, 56, 54, 95, 54, 52]⟩, .int .u32 3221225534, .bool false, .int .i64 64, .string ⟨#[120, 51, 50]⟩, .int .u32 3221225534, .bool true, .int .i64 64, .string ⟨#[105, 51, 56, 54]⟩, .int .u32 1073741827, .bool false, .int .i64 32, .string ⟨#[97, 114, 109, 54, 52]⟩, .int .u32 3221225655, .bool false, .int .i64 64, .string ⟨#[114, 105, 115, 99, 118, 54, 52]⟩, .int .u32 3221225715, .bool false, .int .i64 64]) (.int .i64 3)).run Try.prog w = .ok (.agg #[.string ⟨#[97, 114, 109, 54, 52]⟩, .int .u32 3221225655, .bool false, .int .i64 64]) w := fun _ => by as_aux_lemma => kernel_rfl
  have i4 : ∀ w, (Instr.index 93 (.agg #[.string ⟨#[120, 56, 54, 95, 54, 52]⟩, .int .u32 3221225534, .bool false, .int .i64 64, .string ⟨#[120, 51, 50]⟩, .int .u32 3221225534, .bool true, .int .i64 64, .string ⟨#[105, 51, 56, 54]⟩, .int .u32 1073741827, .bool false, .int .i64 32, .string ⟨#[97, 114, 109, 54, 52]⟩, .int .u32 3221225655, .bool false, .int .i64 64, .string ⟨#[114, 105, 115, 99, 118, 54, 52]⟩, .int .u32 3221225715, .bool false, .int .i64 64]) (.int .i64 4)).run Try.prog w = .ok (.agg #[.string ⟨#[114, 105, 115, 99, 118, 54, 52]⟩, .int .u32 3221225715, .bool false, .int .i64 64]) w := fun _ => by as_aux_lemma => kernel_rfl
  have hJ0 : J [] (W.alloc (.cells #[.string ⟨#[120, 56, 54, 95, 54, 52]⟩, .int .u32 3221225534, .bool false, .int .i64 64, .string ⟨#[120, 51, 50]⟩, .int .u32 3221225534, .bool true, .int .i64 64, .string ⟨#[105, 51, 56, 54]⟩, .int .u32 1073741827, .bool false, .int .i64 32, .string ⟨#[97, 114, 109, 54, 52]⟩, .int .u32 3221225655, .bool false, .int .i64 64, .string ⟨#[114, 105, 115, 99, 118, 54, 52]⟩, .int .u32 3221225715, .bool false, .int .i64 64] 93)) := hJ _ _ _ none h0 (World.grownBy_alloc W _ none) (fun r e => by cases e)
  gi_loopw [12] (fun i wr => (i = .int .i64 0 ∧ J [] wr) ∨ (i = .int .i64 1 ∧ J [r0] wr) ∨ (i = .int .i64 2 ∧ J [r0, r1] wr) ∨ (i = .int .i64 3 ∧ J [r0, r1, r2] wr) ∨ (i = .int .i64 4 ∧ J [r0, r1, r2, r3] wr) ∨ (i = .int .i64 5 ∧ J [r0, r1, r2, r3, r4] wr)) (fun i _ => 5 - (intOf i).toNat)
  case atStart => exact .inl ⟨rfl, hJ0⟩
  case round =>
    clear hJ0 h0
    rcases hrel with ⟨rfl, hJs⟩ | ⟨rfl, hJs⟩ | ⟨rfl, hJs⟩ | ⟨rfl, hJs⟩ | ⟨rfl, hJs⟩ | ⟨rfl, hJs⟩
    · have hJ1 : J [] (wr.alloc (.cells #[.string ⟨#[120, 56, 54, 95, 54, 52]⟩, .int .u32 3221225534, .bool false, .int .i64 64] 89)) := hJ _ _ _ none hJs (World.grownBy_alloc wr _ none) (fun r e => by cases e)
      obtain ⟨fn, tmps, assign, body, hy, hR⟩ := hY [] r0 _ hJ1 (by decide)
      simp only [AbiRow.encs, r0] at hy
      gi_wp2
      refine hR.mono ?_
      rintro e W3 (⟨rfl, hJ3, _⟩ | ⟨rfl, hJx3⟩)
      · gi_wp2
        go_roundw
        case rel => exact .inr (.inl ⟨rfl, hJ3⟩)
        case measure => simp [intOf]
      · gi_wp2
        refine bodyPost_ret (results_none rfl _ _ _) rfl ?_
        exact ⟨⟨_, rfl⟩, .inr ⟨_, ⟨[r1, r2, r3, r4], rfl⟩, hJx3⟩⟩
    · have hJ1 : J [r0] (wr.alloc (.cells #[.string ⟨#[120, 51, 50]⟩, .int .u32 3221225534, .bool true, .int .i64 64] 89)) := hJ _ _ _ none hJs (World.grownBy_alloc wr _ none) (fun r e => by cases e)
      obtain ⟨fn, tmps, assign, body, hy, hR⟩ := hY [r0] r1 _ hJ1 (by decide)
      simp only [AbiRow.encs, r1] at hy
      gi_wp2
      refine hR.mono ?_
      rintro e W3 (⟨rfl, hJ3, _⟩ | ⟨rfl, hJx3⟩)
      · gi_wp2
        go_roundw
        case rel => exact .inr (.inr (.inl ⟨rfl, hJ3⟩))
        case measure => simp [intOf]
      · gi_wp2
        refine bodyPost_ret (results_none rfl _ _ _) rfl ?_
        exact ⟨⟨_, rfl⟩, .inr ⟨_, ⟨[r2, r3, r4], rfl⟩, hJx3⟩⟩
    · have hJ1 : J [r0, r1] (wr.alloc (.cells #[.string ⟨#[105, 51, 56, 54]⟩, .int .u32 1073741827, .bool false, .int .i64 32] 89)) := hJ _ _ _ none hJs (World.grownBy_alloc wr _ none) (fun r e => by cases e)
      obtain ⟨fn, tmps, assign, body, hy, hR⟩ := hY [r0, r1] r2 _ hJ1 (by decide)
      simp only [AbiRow.encs, r2] at hy
      gi_wp2
      refine hR.mono ?_
      rintro e W3 (⟨rfl, hJ3, _⟩ | ⟨rfl, hJx3⟩)
      · gi_wp2
        go_roundw
        case rel => exact .inr (.inr (.inr (.inl ⟨rfl, hJ3⟩)))
        case measure => simp [intOf]
      · gi_wp2
        refine bodyPost_ret (results_none rfl _ _ _) rfl ?_
        exact ⟨⟨_, rfl⟩, .inr ⟨_, ⟨[r3, r4], rfl⟩, hJx3⟩⟩
    · have hJ1 : J [r0, r1, r2] (wr.alloc (.cells #[.string ⟨#[97, 114, 109, 54, 52]⟩, .int .u32 3221225655, .bool false, .int .i64 64] 89)) := hJ _ _ _ none hJs (World.grownBy_alloc wr _ none) (fun r e => by cases e)
      obtain ⟨fn, tmps, assign, body, hy, hR⟩ := hY [r0, r1, r2] r3 _ hJ1 (by decide)
      simp only [AbiRow.encs, r3] at hy
      gi_wp2
      refine hR.mono ?_
      rintro e W3 (⟨rfl, hJ3, _⟩ | ⟨rfl, hJx3⟩)
      · gi_wp2
        go_roundw
        case rel => exact .inr (.inr (.inr (.inr (.inl ⟨rfl, hJ3⟩))))
        case measure => simp [intOf]
      · gi_wp2
        refine bodyPost_ret (results_none rfl _ _ _) rfl ?_
        exact ⟨⟨_, rfl⟩, .inr ⟨_, ⟨[r4], rfl⟩, hJx3⟩⟩
    · have hJ1 : J [r0, r1, r2, r3] (wr.alloc (.cells #[.string ⟨#[114, 105, 115, 99, 118, 54, 52]⟩, .int .u32 3221225715, .bool false, .int .i64 64] 89)) := hJ _ _ _ none hJs (World.grownBy_alloc wr _ none) (fun r e => by cases e)
      obtain ⟨fn, tmps, assign, body, hy, hR⟩ := hY [r0, r1, r2, r3] r4 _ hJ1 (by decide)
      simp only [AbiRow.encs, r4] at hy
      gi_wp2
      refine hR.mono ?_
      rintro e W3 (⟨rfl, hJ3, _⟩ | ⟨rfl, hJx3⟩)
      · gi_wp2
        go_roundw
        case rel => exact .inr (.inr (.inr (.inr (.inr ⟨rfl, hJ3⟩))))
        case measure => simp [intOf]
      · gi_wp2
        refine bodyPost_ret (results_none rfl _ _ _) rfl ?_
        exact ⟨⟨_, rfl⟩, .inr ⟨_, ⟨[], rfl⟩, hJx3⟩⟩
    · gi_wp2
      go_end0
      exact ⟨⟨_, rfl⟩, .inl ⟨_, rfl, hJs⟩⟩

theorem rows_in (F : Fence) (n : Nat) (hf : F.fn 47) (hro : F.round = none) (w : World) :
    CallsIn F n Try.prog 47 #[] w fun e w' => e = .returned (.func (.func 50) #[] #[]) ∧ w = w' := by
  refine callsIn_of_wp Try.func47 rfl hf ?_ hro
  simp only [Try.ntmps47, List.size_toArray, List.length_nil, Nat.reduceSub, Array.replicate_succ, Array.replicate_zero, List.push_toArray, List.append_toArray, List.nil_append]
  gi_wp2
  go_ret
  exact ⟨rfl, rfl⟩
end Go.Proofs.Ytakmbmlpgmppiaa
