/- A block known whole: what stores, new blocks and other steps leave of it. -/
import Derived.RangeFuncBox
import Derived.RangeFuncNested
import Derived.WalkKit
namespace Go.Proofs.YtokehnclakedeaaGreatDoor
open Go Go.Proofs Go.RowKit

/-- Block B holds these cells, and may be written. -/
def Blk (W : World) (B : Nat) (t : TypeId) (cs : Array Value) : Prop := W.heap[B]? = some (.cells cs t (0, 0))
theorem Blk.lt {W : World} {B : Nat} {t : TypeId} {cs : Array Value} (h : Blk W B t cs) : B < W.heap.size := (Array.getElem?_eq_some_iff.1 h).1
theorem Blk.cell {W : World} {B : Nat} {t : TypeId} {cs : Array Value} (h : Blk W B t cs) (j : Nat) : W.cell? ⟨B, j, none⟩ = cs[j]? := by simp [World.cell?, show W.heap[B]? = _ from h]
theorem Blk.frozen {W : World} {B : Nat} {t : TypeId} {cs : Array Value} (h : Blk W B t cs) (j : Nat) : W.frozen? ⟨B, j, none⟩ = false := by simp [World.frozen?, show W.heap[B]? = _ from h]
theorem Blk.new (W : World) (t : TypeId) (cs : Array Value) : Blk (W.alloc (.cells cs t)) W.heap.size t cs := World.alloc_heap_new W _
theorem Blk.kept {W W' : World} {row : Option Nat} {B : Nat} {t : TypeId} {cs : Array Value} (h : Blk W B t cs) (hg : W.grownBy W' row) (hne : some B ≠ row) : Blk W' B t cs := (hg.block B h.lt hne).trans h
theorem Blk.alloc {W : World} {B : Nat} {t : TypeId} {cs : Array Value} (h : Blk W B t cs) (o : Obj) : Blk (W.alloc o) B t cs := h.kept (World.grownBy_alloc W o none) (by simp)
theorem Blk.below {n B : Nat} {W W' : World} {t : TypeId} {cs : Array Value} (h : Blk W B t cs) (hb : Below n W W') (hB : B < n) : Blk W' B t cs := (hb.block B hB).trans h
theorem Blk.set {W : World} {B : Nat} {t : TypeId} {cs : Array Value} (j : Nat) (v : Value) (h : Blk W B t cs) : Blk (W.setCell ⟨B, j, none⟩ v) B t (cs.setIfInBounds j v) := by
  obtain ⟨hlt, hk⟩ := Array.getElem?_eq_some_iff.1 h
  show (W.heap.modify B _)[B]? = _
  rw [Array.getElem?_eq_getElem (by rw [Array.size_modify]; exact hlt), Array.getElem_modify_self, hk]
  rfl
theorem Blk.other {W : World} {B B' : Nat} {t : TypeId} {cs : Array Value} (h : Blk W B t cs) (hne : B ≠ B') (j : Nat) (u : Value) : Blk (W.setCell ⟨B', j, none⟩ u) B t cs := (Below.heap_setCell W ⟨B', j, none⟩ u B hne).trans h
theorem Blk.put {W : World} {B l : Nat} {t : TypeId} {cs : Array Value} (h : Blk W B t cs) (o : Obj) (hne : B ≠ l) : Blk (W.putObj l o) B t cs := by
  show (W.heap.setIfInBounds l o)[B]? = _
  rw [Array.getElem?_setIfInBounds_ne (Ne.symm hne)]; exact h
theorem blk_own {β : Type} (B : Nat) (t : TypeId) (f : β → Array Value) : Own (fun s W => Blk W B t (f s)) := fun s X Y row hs hg hrow =>
  hs.kept hg (fun e' => by obtain ⟨o, ho, hc⟩ := hrow B e'.symm; rw [show X.heap[B]? = _ from hs] at ho; cases ho; cases hc)

end Go.Proofs.YtokehnclakedeaaGreatDoor
