/- The law's of: a document's condition as the program's. -/
import Derived.Test.YtlmobmbglninkaaDoorCondRead
namespace Go.Proofs.YtlmobmbglninkaaDoor
open Go Go.Proofs Go.RowKit

set_option maxRecDepth 100000 in
set_option maxHeartbeats 1000000 in
theorem of10_any (a o m v : Int) (w : World) : Calls Tryd.prog 13 #[.agg #[.int .i64 a, .int .i64 o, .int .u64 m, .int .u64 v]] w fun e w' => e = .returned (.agg #[.int .i64 a, .int .i64 o, .int .u64 m, .int .u64 v]) ∧ Below w.heap.size w w' := by
  have bC := (Blk.new w 29 #[.int .i64 a, .int .i64 o, .int .u64 m, .int .u64 v]).alloc (.cells #[.int .i64 0, .int .i64 0, .int .u64 0, .int .u64 0] 25)
  have bZ := Blk.new (w.alloc (.cells #[.int .i64 a, .int .i64 o, .int .u64 m, .int .u64 v] 29)) 25 #[.int .i64 0, .int .i64 0, .int .u64 0, .int .u64 0]
  have hb1 := ((Below.refl w.heap.size w).alloc (Nat.le_refl _) (.cells #[.int .i64 a, .int .i64 o, .int .u64 m, .int .u64 v] 29)).alloc (by simp) (.cells #[.int .i64 0, .int .i64 0, .int .u64 0, .int .u64 0] 25)
  simp only [World.size_alloc] at bZ
  have HC := Lib.hid bC
  have HZ := Lib.hid bZ
  have HB := Lib.hid hb1
  clear bC bZ hb1
  have c0 := HC.out.cell 0
  have c1 := HC.out.cell 1
  have c2 := HC.out.cell 2
  have c3 := HC.out.cell 3
  simp only [List.getElem?_toArray, List.getElem?_cons_zero, List.getElem?_cons_succ] at c0 c1 c2 c3
  have z0 := HZ.out.frozen 0
  have z1 := HZ.out.frozen 1
  have z2 := HZ.out.frozen 2
  have z3 := HZ.out.frozen 3
  have y0 := HZ.out.cell 0
  have y1 := HZ.out.cell 1
  have y2 := HZ.out.cell 2
  have y3 := HZ.out.cell 3
  simp only [List.getElem?_toArray, List.getElem?_cons_zero, List.getElem?_cons_succ] at y0 y1 y2 y3
  go_enter Tryd.func13, Tryd.ntmps13
  go_wp2
  have bF := (((HZ.out.set 0 (.int .i64 a)).set 1 (.int .i64 o)).set 2 (.int .u64 m)).set 3 (.int .u64 v)
  have e0 := bF.cell 0
  have e1 := bF.cell 1
  have e2 := bF.cell 2
  have e3 := bF.cell 3
  simp at e0 e1 e2 e3
  refine bodyPost_ret (v := .agg #[.int .i64 a, .int .i64 o, .int .u64 m, .int .u64 v]) (by simp [results, Tryd.results13, go_sem, e0, e1, e2, e3]) rfl ⟨rfl, ?_⟩
  exact ((Below.refl w.heap.size w).alloc (Nat.le_refl _) _).alloc (by simp) _
end Go.Proofs.YtlmobmbglninkaaDoor
