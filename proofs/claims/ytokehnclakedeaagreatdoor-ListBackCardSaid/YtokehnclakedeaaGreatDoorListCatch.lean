/- list.Read: its deferred function. -/
import Derived.Test.YtokehnclakedeaaGreatDoorListWords
import Derived.Defers
import Derived.Recover
namespace Go.Proofs.YtokehnclakedeaaGreatDoor
open Go Go.Proofs Go.RowKit Go.Shelf

theorem assert_wrong (W : World) : (Instr.typeAssert (.iface 48 (.agg #[])) 20 48 true).run Tryz.prog W = .ok (.tuple #[.agg #[], .bool true]) W := by kernel_rfl
set_option maxRecDepth 100000 in
theorem catch_idle (p q : Addr) (w : World) :
    CallsD Tryz.prog 15 #[.pointer (some p), .pointer (some q)] .returning w fun e u' w' => e = .returned (.tuple #[]) ∧ u' = .returning ∧ w' = w := by
  refine callsD_of_wpS Tryz.func15 rfl fun c₀ cs hu => ?_
  apply wpS_seq
  apply wpS_region
  simp [wpOpsS, go_sem, recoverD, hu, Tryz.ntmps15, Exit.thenS, Array.replicate, List.replicate]
  refine wpS_of_wp ?_
  go_wp2
  cases c₀
  simp_all [bodyPostS, results, Tryz.results15]
set_option maxRecDepth 100000 in
set_option maxHeartbeats 2000000 in
theorem catch_wrong (p q : Nat) (c0 c1 c2 c3 c4 : Value) (w : World) (hp : Blk w p 25 #[c0, c1, c2, c3]) (hq : Blk w q 26 #[c4]) (hne : p ≠ q) :
    CallsD Tryz.prog 15 #[.pointer (some ⟨p, 0, none⟩), .pointer (some ⟨q, 0, none⟩)] (.panicking wrongP) w fun e u' w' =>
      e = .returned (.tuple #[]) ∧ u' = .panicking [{ v := .iface 48 (.agg #[]), recovered := true }] ∧ Hid (Blk w' p 25 #[.int .u16 0, .int .u8 0, .int .u8 0, .int .u32 0]) ∧ Hid (Blk w' q 26 #[.int .i64 13]) ∧ (∀ n : Nat, n ≤ p → n ≤ q → n ≤ w.heap.size → Below n w w') := by
  have HP := Lib.hid (hp.alloc (.cells #[] 48))
  have HQ := Lib.hid (hq.alloc (.cells #[] 48))
  have HB : Hid (∀ n : Nat, n ≤ w.heap.size → Below n w (w.alloc (.cells #[] 48))) := fun n hn => (Below.refl n w).alloc hn _
  clear hp hq
  unfold wrongP
  refine callsD_of_wpS Tryz.func15 rfl fun c₀ cs hu => ?_
  apply wpS_seq
  apply wpS_region
  simp [wpOpsS, go_sem, recoverD, hu, Tryz.ntmps15, Exit.thenS, Array.replicate, List.replicate]
  have hta := assert_wrong
  refine wpS_of_wp ?_
  go_upto_region 5 with fail
  generalize w.alloc (.cells #[] 48) = w1 at *
  have z0 := HP.out.frozen 0
  have z1 := HP.out.frozen 1
  have z2 := HP.out.frozen 2
  have z3 := HP.out.frozen 3
  have y0 := HP.out.cell 0
  have y1 := HP.out.cell 1
  have y2 := HP.out.cell 2
  have y3 := HP.out.cell 3
  have z4 := HQ.out.frozen 0
  have y4 := HQ.out.cell 0
  simp only [List.getElem?_toArray, List.getElem?_cons_zero, List.getElem?_cons_succ] at y0 y1 y2 y3 y4
  go_wp2
  have h1 : Hid (Blk _ p 25 #[.int .u16 0, .int .u8 0, .int .u8 0, .int .u32 0]) := ((((HP.out.set 0 (.int .u16 0)).set 1 (.int .u8 0)).set 2 (.int .u8 0)).set 3 (.int .u32 0)).other hne 0 (.int .i64 13)
  have h2 : Hid (Blk _ q 26 #[.int .i64 13]) := ((((HQ.out.other (Ne.symm hne) 0 (.int .u16 0)).other (Ne.symm hne) 1 (.int .u8 0)).other (Ne.symm hne) 2 (.int .u8 0)).other (Ne.symm hne) 3 (.int .u32 0)).set 0 (.int .i64 13)
  have h3 : ∀ n : Nat, n ≤ p → n ≤ q → n ≤ w.heap.size → Below n w _ := fun n h1 h2 h3 => (((((HB.out n h3).setCell (p := ⟨p, 0, none⟩) h1 (.int .u16 0)).setCell (p := ⟨p, 1, none⟩) h1 (.int .u8 0)).setCell (p := ⟨p, 2, none⟩) h1 (.int .u8 0)).setCell (p := ⟨p, 3, none⟩) h1 (.int .u32 0)).setCell (p := ⟨q, 0, none⟩) h2 (.int .i64 13)
  cases c₀
  simp only at hu
  subst hu
  exact ⟨rfl, _, rfl, .tuple #[], results_none rfl _ _ _, rfl, rfl, h1, h2, h3⟩
end Go.Proofs.YtokehnclakedeaaGreatDoor
