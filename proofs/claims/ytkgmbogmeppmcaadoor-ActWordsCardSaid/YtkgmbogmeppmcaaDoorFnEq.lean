/- A function value held against nil. -/
import Derived.WalkKit
import Derived.Lib.SliceRun
namespace Go.Proofs.YtkgmbogmeppmcaaDoor
open Go
section
variable {P : Program}
theorem run_equalIn_nilFunc (w : World) (d : Nat) (t : TypeId) {ps rs : Array TypeId} {v : Bool} (h : P.underlying t = some (.func ps rs v)) : (Op.equalIn (d + 1) t .nilFunc .nilFunc).run P w = .ok true w := by
  simp [Op.equalIn, run_underlying h]
theorem run_equalIn_func_nil (w : World) (d : Nat) (t : TypeId) {ps rs : Array TypeId} {v : Bool} (fn : Fn) (a c : Array Value) (h : P.underlying t = some (.func ps rs v)) : (Op.equalIn (d + 1) t (.func fn a c) .nilFunc).run P w = .ok false w := by
  simp [Op.equalIn, run_underlying h]
theorem run_eql_nilFunc (w : World) (t : TypeId) {ps rs : Array TypeId} {v : Bool} (h : P.underlying t = some (.func ps rs v)) : (binOp .eql t .nilFunc .nilFunc).run P w = .ok (.bool true) w := by
  simp only [binOp]
  simp [Op.equal, Op.maxDepth, run_equalIn_nilFunc w 9999 t h]
theorem run_eql_func_nil (w : World) (t : TypeId) {ps rs : Array TypeId} {v : Bool} (fn : Fn) (a c : Array Value) (h : P.underlying t = some (.func ps rs v)) : (binOp .eql t (.func fn a c) .nilFunc).run P w = .ok (.bool false) w := by
  simp only [binOp]
  simp [Op.equal, Op.maxDepth, run_equalIn_func_nil w 9999 t fn a c h]
theorem run_neq_func_nil (w : World) (t : TypeId) {ps rs : Array TypeId} {v : Bool} (fn : Fn) (a c : Array Value) (h : P.underlying t = some (.func ps rs v)) : (binOp .neq t (.func fn a c) .nilFunc).run P w = .ok (.bool true) w := by
  simp only [binOp]
  simp [Op.equal, Op.maxDepth, run_equalIn_func_nil w 9999 t fn a c h]
theorem run_neq_nilFunc (w : World) (t : TypeId) {ps rs : Array TypeId} {v : Bool} (h : P.underlying t = some (.func ps rs v)) : (binOp .neq t .nilFunc .nilFunc).run P w = .ok (.bool false) w := by
  simp only [binOp]
  simp [Op.equal, Op.maxDepth, run_equalIn_nilFunc w 9999 t h]
end
end Go.Proofs.YtkgmbogmeppmcaaDoor
