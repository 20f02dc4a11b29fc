/- policy: the reader's deferred function. -/
import Derived.Defers
import Derived.Recover
import Derived.Test.YtmjipkdejggbfaaGreatDoorQPolM
namespace Go.Proofs.YtmjipkdejggbfaaGreatDoor
open Go Go.Proofs Go.RowKit

theorem passert_wrong (c : Int) (W : World) : (Instr.typeAssert (.iface 99 (.agg #[.int .i64 c])) 20 99 true).run Tryz.prog W = .ok (.tuple #[.agg #[.int .i64 c], .bool true]) W := by kernel_rfl
set_option maxRecDepth 100000 in
theorem pcatch_idle (q : Addr) (w : World) :
    CallsD Tryz.prog 40 #[.pointer (some q)] .returning w fun e u' w' => e = .returned (.tuple #[]) ∧ u' = .returning ∧ w' = w := by
  refine callsD_of_wpS Tryz.func40 rfl fun c₀ cs hu => ?_
  apply wpS_seq
  apply wpS_region
  simp [wpOpsS, go_sem, recoverD, hu, Tryz.ntmps40, Exit.thenS, Array.replicate, List.replicate]
  refine wpS_of_wp ?_
  go_wp2
  cases c₀
  simp_all [bodyPostS, results, Tryz.results40]
set_option maxRecDepth 100000 in
set_option maxHeartbeats 2000000 in
theorem pcatch_wrong (c : Int) (q : Nat) (c4 : Value) (w : World) (hq : Blk w q 27 #[c4]) :
    CallsD Tryz.prog 40 #[.pointer (some ⟨q, 0, none⟩)] (.panicking (wrongP c)) w fun e u' w' =>
      e = .returned (.tuple #[]) ∧ u' = .panicking [{ v := .iface 99 (.agg #[.int .i64 c]), recovered := true }] ∧ w' = (w.alloc (.cells #[.int .i64 c] 99)).setCell ⟨q, 0, none⟩ (.int .i64 c) := by
  have HQ := Lib.hid (hq.alloc (.cells #[.int .i64 c] 99))
  clear hq
  unfold wrongP
  refine callsD_of_wpS Tryz.func40 rfl fun c₀ cs hu => ?_
  apply wpS_seq
  apply wpS_region
  simp [wpOpsS, go_sem, recoverD, hu, Tryz.ntmps40, Exit.thenS, Array.replicate, List.replicate]
  have hta := passert_wrong c
  refine wpS_of_wp ?_
  have z4 := HQ.out.frozen 0
  have y4 := HQ.out.cell 0
  simp only [List.getElem?_toArray, List.getElem?_cons_zero, List.getElem?_cons_succ] at y4
  go_wp2
  cases c₀
  simp only at hu
  subst hu
  exact ⟨rfl, _, rfl, .tuple #[], results_none rfl _ _ _, rfl, rfl, rfl⟩
end Go.Proofs.YtmjipkdejggbfaaGreatDoor
