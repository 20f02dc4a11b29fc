/- cond: its operators; whether a condition may be, and whether one operator holds. -/
import Derived.Test.YtlmobmbglninkaaDoorIn
import Derived.Test.YtlmobmbglninkaaDoorBlk
import Derived.Test.YtlmobmbglninkaaDoorProg
import Derived.WalkLawsBesides
import Derived.WalkSpells
import Derived.Lib.Hide
import Derived.Laws.EntriesVeiled
import Derived.Deep.RegionHeld3
import Derived.BigQuiet
import Derived.Deep.QuietTactic
import Derived.Outline
namespace Go.Proofs.YtlmobmbglninkaaDoor
open Go Go.Proofs Go.RowKit

def opText (k : Int) : ByteArray := if k = 1 then ⟨#[61, 61]⟩ else if k = 2 then ⟨#[33, 61]⟩ else if k = 3 then ⟨#[60]⟩ else if k = 4 then ⟨#[60, 61]⟩ else if k = 5 then ⟨#[62]⟩ else if k = 6 then ⟨#[62, 61]⟩ else if k = 7 then ⟨#[38]⟩ else ⟨#[]⟩
def opCells : Array Value := #[.string ⟨#[61, 61]⟩, .func (.func 31) #[] #[], .string ⟨#[33, 61]⟩, .func (.func 32) #[] #[], .string ⟨#[60]⟩, .func (.func 33) #[] #[], .string ⟨#[60, 61]⟩, .func (.func 34) #[] #[], .string ⟨#[62]⟩, .func (.func 35) #[] #[], .string ⟨#[62, 61]⟩, .func (.func 36) #[] #[], .string ⟨#[38]⟩, .func (.func 37) #[] #[]]
def condV (a o m v : Int) : Value := .agg #[.int .i64 a, .int .i64 o, .int .u64 m, .int .u64 v]
def condRight (a o m : Int) : Bool := decide (0 ≤ a ∧ a ≤ 5 ∧ 1 ≤ o ∧ o ≤ 7 ∧ (o = 7 ∨ m = 0))
/-- Does an operator hold of an argument? -/
def opHolds (o m v x : Int) : Bool := if o = 1 then x == v else if o = 2 then x != v else if o = 3 then decide (x < v) else if o = 4 then decide (x ≤ v) else if o = 5 then decide (v < x) else if o = 6 then decide (v ≤ x) else bits BinOp.and IntKind.u64 x m == v

set_option maxRecDepth 100000 in
set_option maxHeartbeats 1000000 in
theorem ops_any (w : World) : Calls Tryd.prog 21 #[] w fun e w' => e = .returned (.slice (some ⟨w.heap.size, 0, none⟩) 7 7) ∧ w.alloc (.cells opCells 56) = w' := by
  go_enter Tryd.func21, Tryd.ntmps21
  go_wp2
  go_ret
  exact ⟨rfl, rfl⟩

set_option maxRecDepth 100000 in
set_option maxHeartbeats 1000000 in
theorem op1_any (a o m v x : Int) (w : World) : Calls Tryd.prog 31 #[.int .u64 x, .agg #[.int .i64 a, .int .i64 o, .int .u64 m, .int .u64 v]] w fun e w' => e = .returned (.bool (opHolds 1 m v x)) ∧ Below w.heap.size w w' := by
  have hB := Blk.new w 25 #[.int .i64 a, .int .i64 o, .int .u64 m, .int .u64 v]
  have c2 := hB.cell 2
  have c3 := hB.cell 3
  simp only [List.getElem?_toArray, List.getElem?_cons_zero, List.getElem?_cons_succ] at c2 c3
  clear hB
  go_enter Tryd.func31, Tryd.ntmps31
  go_wp2
  go_ret
  exact ⟨rfl, (Below.refl _ w).alloc (Nat.le_refl _) _⟩
set_option maxRecDepth 100000 in
set_option maxHeartbeats 1000000 in
theorem op2_any (a o m v x : Int) (w : World) : Calls Tryd.prog 32 #[.int .u64 x, .agg #[.int .i64 a, .int .i64 o, .int .u64 m, .int .u64 v]] w fun e w' => e = .returned (.bool (opHolds 2 m v x)) ∧ Below w.heap.size w w' := by
  have hB := Blk.new w 25 #[.int .i64 a, .int .i64 o, .int .u64 m, .int .u64 v]
  have c2 := hB.cell 2
  have c3 := hB.cell 3
  simp only [List.getElem?_toArray, List.getElem?_cons_zero, List.getElem?_cons_succ] at c2 c3
  clear hB
  go_enter Tryd.func32, Tryd.ntmps32
  go_wp2
  go_ret
  exact ⟨rfl, (Below.refl _ w).alloc (Nat.le_refl _) _⟩
set_option maxRecDepth 100000 in
set_option maxHeartbeats 1000000 in
theorem op3_any (a o m v x : Int) (w : World) : Calls Tryd.prog 33 #[.int .u64 x, .agg #[.int .i64 a, .int .i64 o, .int .u64 m, .int .u64 v]] w fun e w' => e = .returned (.bool (opHolds 3 m v x)) ∧ Below w.heap.size w w' := by
  have hB := Blk.new w 25 #[.int .i64 a, .int .i64 o, .int .u64 m, .int .u64 v]
  have c2 := hB.cell 2
  have c3 := hB.cell 3
  simp only [List.getElem?_toArray, List.getElem?_cons_zero, List.getElem?_cons_succ] at c2 c3
  clear hB
  go_enter Tryd.func33, Tryd.ntmps33
  go_wp2
  go_ret
  exact ⟨rfl, (Below.refl _ w).alloc (Nat.le_refl _) _⟩
set_option maxRecDepth 100000 in
set_option maxHeartbeats 1000000 in
theorem op4_any (a o m v x : Int) (w : World) : Calls Tryd.prog 34 #[.int .u64 x, .agg #[.int .i64 a, .int .i64 o, .int .u64 m, .int .u64 v]] w fun e w' => e = .returned (.bool (opHolds 4 m v x)) ∧ Below w.heap.size w w' := by
  have hB := Blk.new w 25 #[.int .i64 a, .int .i64 o, .int .u64 m, .int .u64 v]
  have c2 := hB.cell 2
  have c3 := hB.cell 3
  simp only [List.getElem?_toArray, List.getElem?_cons_zero, List.getElem?_cons_succ] at c2 c3
  clear hB
  go_enter Tryd.func34, Tryd.ntmps34
  go_wp2
  go_ret
  exact ⟨rfl, (Below.refl _ w).alloc (Nat.le_refl _) _⟩
set_option maxRecDepth 100000 in
set_option maxHeartbeats 1000000 in
theorem op5_any (a o m v x : Int) (w : World) : Calls Tryd.prog 35 #[.int .u64 x, .agg #[.int .i64 a, .int .i64 o, .int .u64 m, .int .u64 v]] w fun e w' => e = .returned (.bool (opHolds 5 m v x)) ∧ Below w.heap.size w w' := by
  have hB := Blk.new w 25 #[.int .i64 a, .int .i64 o, .int .u64 m, .int .u64 v]
  have c2 := hB.cell 2
  have c3 := hB.cell 3
  simp only [List.getElem?_toArray, List.getElem?_cons_zero, List.getElem?_cons_succ] at c2 c3
  clear hB
  go_enter Tryd.func35, Tryd.ntmps35
  go_wp2
  go_ret
  exact ⟨rfl, (Below.refl _ w).alloc (Nat.le_refl _) _⟩
set_option maxRecDepth 100000 in
set_option maxHeartbeats 1000000 in
theorem op6_any (a o m v x : Int) (w : World) : Calls Tryd.prog 36 #[.int .u64 x, .agg #[.int .i64 a, .int .i64 o, .int .u64 m, .int .u64 v]] w fun e w' => e = .returned (.bool (opHolds 6 m v x)) ∧ Below w.heap.size w w' := by
  have hB := Blk.new w 25 #[.int .i64 a, .int .i64 o, .int .u64 m, .int .u64 v]
  have c2 := hB.cell 2
  have c3 := hB.cell 3
  simp only [List.getElem?_toArray, List.getElem?_cons_zero, List.getElem?_cons_succ] at c2 c3
  clear hB
  go_enter Tryd.func36, Tryd.ntmps36
  go_wp2
  go_ret
  exact ⟨rfl, (Below.refl _ w).alloc (Nat.le_refl _) _⟩
set_option maxRecDepth 100000 in
set_option maxHeartbeats 1000000 in
theorem op7_any (a o m v x : Int) (w : World) : Calls Tryd.prog 37 #[.int .u64 x, .agg #[.int .i64 a, .int .i64 o, .int .u64 m, .int .u64 v]] w fun e w' => e = .returned (.bool (opHolds 7 m v x)) ∧ Below w.heap.size w w' := by
  have hB := Blk.new w 25 #[.int .i64 a, .int .i64 o, .int .u64 m, .int .u64 v]
  have c2 := hB.cell 2
  have c3 := hB.cell 3
  simp only [List.getElem?_toArray, List.getElem?_cons_zero, List.getElem?_cons_succ] at c2 c3
  clear hB
  go_enter Tryd.func37, Tryd.ntmps37
  go_wp2
  go_ret
  exact ⟨rfl, (Below.refl _ w).alloc (Nat.le_refl _) _⟩

theorem right_false {a o m : Int} (h : ¬ (0 ≤ a ∧ a ≤ 5 ∧ 1 ≤ o ∧ o ≤ 7 ∧ (o = 7 ∨ m = 0))) : condRight a o m = false := decide_eq_false h
set_option maxRecDepth 100000 in
set_option maxHeartbeats 2000000 in
theorem right_any (a o m v : Int) (w : World) : Calls Tryd.prog 17 #[.agg #[.int .i64 a, .int .i64 o, .int .u64 m, .int .u64 v]] w fun e w' => e = .returned (.bool (condRight a o m)) ∧ Below w.heap.size w w' := by
  have hB := Blk.new w 25 #[.int .i64 a, .int .i64 o, .int .u64 m, .int .u64 v]
  have c0 := hB.cell 0
  have c1 := hB.cell 1
  have c2 := hB.cell 2
  simp only [List.getElem?_toArray, List.getElem?_cons_zero, List.getElem?_cons_succ] at c0 c1 c2
  have HB := Lib.hid ((Below.refl _ w).alloc (Nat.le_refl _) (.cells #[.int .i64 a, .int .i64 o, .int .u64 m, .int .u64 v] 25))
  clear hB
  by_cases a0 : 0 ≤ a
  case neg =>
    have hr := right_false (a := a) (o := o) (m := m) (fun h => by omega)
    rw [hr]
    clear hr
    go_enter Tryd.func17, Tryd.ntmps17
    go_wp2
    go_ret
    exact ⟨rfl, HB.out⟩
  by_cases a5 : a ≤ 5
  case neg =>
    have hr := right_false (a := a) (o := o) (m := m) (fun h => by omega)
    rw [hr]
    clear hr
    go_enter Tryd.func17, Tryd.ntmps17
    go_wp2
    go_ret
    exact ⟨rfl, HB.out⟩
  by_cases o1 : 1 ≤ o
  case neg =>
    have hr := right_false (a := a) (o := o) (m := m) (fun h => by omega)
    rw [hr]
    clear hr
    go_enter Tryd.func17, Tryd.ntmps17
    go_wp2
    go_ret
    exact ⟨rfl, HB.out⟩
  by_cases o7 : o ≤ 7
  case neg =>
    have hr := right_false (a := a) (o := o) (m := m) (fun h => by omega)
    rw [hr]
    clear hr
    go_enter Tryd.func17, Tryd.ntmps17
    go_wp2
    go_ret
    exact ⟨rfl, HB.out⟩
  by_cases e7 : o = 7
  · subst e7
    have hr : condRight a 7 m = true := decide_eq_true ⟨a0, a5, by decide, by decide, .inl rfl⟩
    rw [hr]
    clear hr
    go_enter Tryd.func17, Tryd.ntmps17
    go_wp2
    go_ret
    exact ⟨rfl, HB.out⟩
  · have q7 : (o == 7) = false := by simpa using e7
    by_cases m0 : m = 0
    · subst m0
      have hr : condRight a o 0 = true := decide_eq_true ⟨a0, a5, o1, o7, .inr rfl⟩
      rw [hr]
      clear hr e7
      go_enter Tryd.func17, Tryd.ntmps17
      go_wp2
      go_ret
      exact ⟨rfl, HB.out⟩
    · have q0 : (m == 0) = false := by simpa using m0
      have hr := right_false (a := a) (o := o) (m := m) (fun h => by omega)
      rw [hr]
      clear hr e7 m0
      go_enter Tryd.func17, Tryd.ntmps17
      go_wp2
      go_ret
      exact ⟨rfl, HB.out⟩
end Go.Proofs.YtlmobmbglninkaaDoor
