/- cond: slices.IndexFunc over its operators; the operator of a word. -/
import Derived.Test.YtlmobmbglninkaaDoorCond
import Derived.Deep.LoopGhost
import Derived.Deep.Cut
import Derived.Deep.DeepCutAuto
import Derived.Lib.SlTrimSet
namespace Go.Proofs.YtlmobmbglninkaaDoor
open Go Go.Proofs Go.RowKit

def opFn (k : Int) : Nat := if k = 1 then 31 else if k = 2 then 32 else if k = 3 then 33 else if k = 4 then 34 else if k = 5 then 35 else if k = 6 then 36 else 37
theorem opCell {W : World} {g : Nat} (h : Blk W g 56 opCells) (j : Nat) (hj : j < 7) :
    W.cell? ⟨g, j * 2, none⟩ = some (.string (opText (j + 1))) ∧ W.cell? ⟨g, j * 2 + 1, none⟩ = some (.func (.func (opFn (j + 1))) #[] #[]) := by
  match j, hj with
  | 0, _ => exact ⟨(h.cell 0).trans rfl, (h.cell 1).trans rfl⟩
  | 1, _ => exact ⟨(h.cell 2).trans rfl, (h.cell 3).trans rfl⟩
  | 2, _ => exact ⟨(h.cell 4).trans rfl, (h.cell 5).trans rfl⟩
  | 3, _ => exact ⟨(h.cell 6).trans rfl, (h.cell 7).trans rfl⟩
  | 4, _ => exact ⟨(h.cell 8).trans rfl, (h.cell 9).trans rfl⟩
  | 5, _ => exact ⟨(h.cell 10).trans rfl, (h.cell 11).trans rfl⟩
  | 6, _ => exact ⟨(h.cell 12).trans rfl, (h.cell 13).trans rfl⟩

/-- The first operator that meets p, less one; -1: none. -/
def firstO (p : Nat → Bool) : Int := if p 0 = true then 0 else if p 1 = true then 1 else if p 2 = true then 2 else if p 3 = true then 3 else if p 4 = true then 4 else if p 5 = true then 5 else if p 6 = true then 6 else -1
theorem firstO_hit (p : Nat → Bool) (k : Nat) (hk : k < 7) (h : ∀ j, j < k → p j = false) (hp : p k = true) : firstO p = k := by
  match k, hk, h, hp with
  | 0, _, h, hp => simp [firstO, hp]
  | 1, _, h, hp => simp [firstO, hp, h 0]
  | 2, _, h, hp => simp [firstO, hp, h 0, h 1]
  | 3, _, h, hp => simp [firstO, hp, h 0, h 1, h 2]
  | 4, _, h, hp => simp [firstO, hp, h 0, h 1, h 2, h 3]
  | 5, _, h, hp => simp [firstO, hp, h 0, h 1, h 2, h 3, h 4]
  | 6, _, h, hp => simp [firstO, hp, h 0, h 1, h 2, h 3, h 4, h 5]
theorem firstO_miss (p : Nat → Bool) (h : ∀ j, j < 7 → p j = false) : firstO p = -1 := by
  simp [firstO, h 0, h 1, h 2, h 3, h 4, h 5, h 6]

set_option maxRecDepth 100000 in
set_option maxHeartbeats 1000000 in
theorem indexFunc_cond (p : Nat → Bool) (f : Nat) (lb : Array Value) (eg : ∀ args w, (callFunc f args).run Tryd.prog w = .ok (.enter f args) w) (g : Nat) (w : World)
    (hp : ∀ (W : World) (j : Nat) (fv : Value), j < 7 → Below w.heap.size w W → Calls Tryd.prog f (#[.agg #[.string (opText (j + 1)), fv]] ++ lb) W fun e w' => e = .returned (.bool (p j)) ∧ Below W.heap.size W w')
    (hr : Blk w g 56 opCells) :
    Calls Tryd.prog 20 #[.slice (some ⟨g, 0, none⟩) 7 7, .func (.func f) #[] lb] w fun e w' => e = .returned (.int .i64 (firstO p)) ∧ Below w.heap.size w w' := by
  have Hr := Lib.hid hr
  have Hp := Lib.hid hp
  clear hr hp
  go_enter Tryd.func20, Tryd.ntmps20
  go_wp2
  go_loopg [5, 8] 7 (fun gg _ s8 wr => ∃ kk : Nat, kk ≤ 7 ∧ 7 - kk ≤ gg ∧ s8 = .int .i64 kk ∧ Hid (Below w.heap.size w wr) ∧ Hid (∀ j, j < kk → p j = false))
  case atStart => exact ⟨0, Nat.zero_le _, by omega, rfl, Below.refl _ w, fun j hj => absurd hj (Nat.not_lt_zero _)⟩
  case round =>
    obtain ⟨kk, hkk, hg, rfl, BW, A⟩ := hrel
    by_cases hlt : kk < 7
    · have hltz : (kk : Int) < 7 := by omega
      have hltz0 : (0 : Int) ≤ (kk : Int) := by omega
      obtain ⟨c0, c1⟩ := opCell (Hr.out.below BW.out Hr.out.lt) kk hlt
      have hcall := Hp.out wr kk (.func (.func (opFn (kk + 1))) #[] #[]) hlt BW.out
      generalize opText (kk + 1) = nm at c0 hcall
      generalize opFn (kk + 1) = cd at c1 hcall
      cases hq : p kk with
      | true =>
        rw [hq] at hcall
        have Hcall := Lib.hid hcall
        have Hq := Lib.hid hq
        clear hcall hq
        go_wp2_with fail
        refine Hcall.out.mono ?_
        rintro e w' ⟨rfl, hb'⟩
        go_wp2
        go_ret
        refine ⟨retI ?_, BW.out.trans (hb'.mono BW.out.size)⟩
        rw [firstO_hit p kk hlt A.out Hq.out]
      | false =>
        rw [hq] at hcall
        have Hcall := Lib.hid hcall
        have Hq := Lib.hid hq
        clear hcall hq
        go_wp2_with fail
        refine Hcall.out.mono ?_
        rintro e w' ⟨rfl, hb'⟩
        go_wp2
        go_roundg (7 - (kk + 1))
        case measure => omega
        case rel =>
          refine ⟨kk + 1, by omega, by omega, by go_num, BW.out.trans (hb'.mono BW.out.size), (show Hid _ from fun j hj => ?_)⟩
          by_cases e : j = kk
          · subst e
            exact Hq.out
          · exact A.out j (by omega)
    · obtain rfl : kk = 7 := by omega
      go_wp2
      go_ret
      refine ⟨retI ?_, BW.out⟩
      rw [firstO_miss p (fun j hj => A.out j hj)]

theorem cellLater {w wx : World} {a : Addr} {v : Value} (hb : Below w.heap.size w wx) (h : w.cell? a = some v) : wx.cell? a = some v := (hb.cell (World.block_lt_of_cell? _ _ h)).trans h
theorem blkB {W W' : World} {B : Nat} {t : TypeId} {cs : Array Value} (h : Hid (Blk W B t cs)) (hb : Below W.heap.size W W') : Hid (Blk W' B t cs) := h.out.below hb h.out.lt
theorem belB {a W W' : World} (h : Hid (Below a.heap.size a W)) (hb : Below W.heap.size W W') : Hid (Below a.heap.size a W') := h.out.trans (hb.mono h.out.size)
theorem below_drewN {B : Nat} {a w : World} (h : Below B a w) (q : Nat) : Below B a (w.drewN q) := ⟨h.os, h.tape, h.output, h.size, h.block⟩

/-- Does a word name the operator behind number j? -/
def opB (s : ByteArray) (j : Nat) : Bool := (opText (j + 1)).toList == s.toList
set_option maxRecDepth 100000 in
set_option maxHeartbeats 1000000 in
theorem read1_any (s : ByteArray) (k : Int) (B b off n c : Nat) (fv : Value) (w : World) (hn : 1 < n) (hB : Blk w B 22 #[.slice (some ⟨b, off, none⟩) n c]) (h0 : w.cell? ⟨b, off + 1, none⟩ = some (.string s)) :
    Calls Tryd.prog 22 #[.agg #[.string (opText k), fv], .pointer (some ⟨B, 0, none⟩)] w fun e w' => e = .returned (.bool ((opText k).toList == s.toList)) ∧ Below w.heap.size w w' := by
  have hbx := Blk.new w 56 #[.string (opText k), fv]
  have x0 := hbx.cell 0
  have y0 := (hB.alloc (.cells #[.string (opText k), fv] 56)).cell 0
  have hb0 := (Below.refl w.heap.size w).alloc (Nat.le_refl _) (.cells #[.string (opText k), fv] 56)
  have z0 := cellLater hb0 h0
  simp only [List.getElem?_toArray, List.getElem?_cons_zero] at x0 y0
  have hnz : (1 : Int) < (n : Int) := by omega
  have HB0 := Lib.hid hb0
  clear hbx hB hb0 h0
  go_enter Tryd.func22, Tryd.ntmps22
  go_wp2
  go_quiet (fail)
  go_wp2
  go_ret
  exact ⟨rfl, below_drewN HB0.out _⟩
end Go.Proofs.YtlmobmbglninkaaDoor
