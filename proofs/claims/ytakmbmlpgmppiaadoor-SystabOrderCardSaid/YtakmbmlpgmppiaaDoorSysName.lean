/- systab.Name: what it answers. -/
import Derived.Test.YtakmbmlpgmppiaaDoorSysNum
import Derived.WalkSmall
namespace Go.Proofs.YtakmbmlpgmppiaaDoor
open Go Go.Proofs Go.RowKit

/-- Has a row this number of an ABI, and is it one? -/
def nameP (a : Nat) (number : Int) (r : SRow) : Bool := r.num a == number && number != -1

set_option maxRecDepth 100000 in
set_option maxHeartbeats 1000000 in
theorem name1_0 (number : Int) (B1 B2 : Nat) (r : SRow) (w : World) (h1 : Blk w B1 3 #[.int .i64 0]) (h2 : Blk w B2 3 #[.int .i64 number]) :
    Calls Tryd.prog 31 #[.agg #[.string r.name, .int .i64 r.n0, .int .i64 r.n1, .int .i64 r.n2, .int .i64 r.n3, .int .i64 r.n4, .int .i64 r.mux, .int .i64 r.sub], .pointer (some ⟨B1, 0, none⟩), .pointer (some ⟨B2, 0, none⟩)] w
      fun e w' => e = .returned (.bool (nameP 0 number r)) ∧ Below w.heap.size w w' := by
  obtain ⟨nm, a0, a1, a2, a3, a4, mx, sb⟩ := r
  dsimp only
  by_cases hm : a0 = number
  · subst hm
    by_cases hz : a0 = -1
    · subst hz
      have k1 := (h1.alloc (.cells #[.string nm, .int .i64 (-1), .int .i64 a1, .int .i64 a2, .int .i64 a3, .int .i64 a4, .int .i64 mx, .int .i64 sb] 36)).cell 0
      have k2 := (h2.alloc (.cells #[.string nm, .int .i64 (-1), .int .i64 a1, .int .i64 a2, .int .i64 a3, .int .i64 a4, .int .i64 mx, .int .i64 sb] 36)).cell 0
      have bR := Blk.new w 36 #[.string nm, .int .i64 (-1), .int .i64 a1, .int .i64 a2, .int .i64 a3, .int .i64 a4, .int .i64 mx, .int .i64 sb]
      have k3 := bR.cell 1
      simp only [List.getElem?_toArray, List.getElem?_cons_zero, List.getElem?_cons_succ] at k1 k2 k3
      clear h1 h2
      go_enter Tryd.func31, Tryd.ntmps31
      go_wp2_with fail
      go_quiet (fail)
      go_wp2
      go_ret
      exact ⟨retB (by simp [nameP, SRow.num, *]), below_drewN ((Below.refl _ w).alloc (Nat.le_refl _) _) _⟩

    · have hz' : (a0 != -1) = true := by simpa using hz
      have k1 := (h1.alloc (.cells #[.string nm, .int .i64 a0, .int .i64 a1, .int .i64 a2, .int .i64 a3, .int .i64 a4, .int .i64 mx, .int .i64 sb] 36)).cell 0
      have k2 := (h2.alloc (.cells #[.string nm, .int .i64 a0, .int .i64 a1, .int .i64 a2, .int .i64 a3, .int .i64 a4, .int .i64 mx, .int .i64 sb] 36)).cell 0
      have bR := Blk.new w 36 #[.string nm, .int .i64 a0, .int .i64 a1, .int .i64 a2, .int .i64 a3, .int .i64 a4, .int .i64 mx, .int .i64 sb]
      have k3 := bR.cell 1
      simp only [List.getElem?_toArray, List.getElem?_cons_zero, List.getElem?_cons_succ] at k1 k2 k3
      clear h1 h2
      go_enter Tryd.func31, Tryd.ntmps31
      go_wp2_with fail
      go_quiet (fail)
      go_wp2
      go_ret
      exact ⟨retB (by simp [nameP, SRow.num, *]), below_drewN ((Below.refl _ w).alloc (Nat.le_refl _) _) _⟩

  · have hm' : (a0 == number) = false := by simpa using hm
    have k1 := (h1.alloc (.cells #[.string nm, .int .i64 a0, .int .i64 a1, .int .i64 a2, .int .i64 a3, .int .i64 a4, .int .i64 mx, .int .i64 sb] 36)).cell 0
    have k2 := (h2.alloc (.cells #[.string nm, .int .i64 a0, .int .i64 a1, .int .i64 a2, .int .i64 a3, .int .i64 a4, .int .i64 mx, .int .i64 sb] 36)).cell 0
    have bR := Blk.new w 36 #[.string nm, .int .i64 a0, .int .i64 a1, .int .i64 a2, .int .i64 a3, .int .i64 a4, .int .i64 mx, .int .i64 sb]
    have k3 := bR.cell 1
    simp only [List.getElem?_toArray, List.getElem?_cons_zero, List.getElem?_cons_succ] at k1 k2 k3
    clear h1 h2
    go_enter Tryd.func31, Tryd.ntmps31
    go_wp2_with fail
    go_quiet (fail)
    go_wp2
    go_ret
    exact ⟨retB (by simp [nameP, SRow.num, *]), below_drewN ((Below.refl _ w).alloc (Nat.le_refl _) _) _⟩


set_option maxRecDepth 100000 in
set_option maxHeartbeats 1000000 in
theorem name1_1 (number : Int) (B1 B2 : Nat) (r : SRow) (w : World) (h1 : Blk w B1 3 #[.int .i64 1]) (h2 : Blk w B2 3 #[.int .i64 number]) :
    Calls Tryd.prog 31 #[.agg #[.string r.name, .int .i64 r.n0, .int .i64 r.n1, .int .i64 r.n2, .int .i64 r.n3, .int .i64 r.n4, .int .i64 r.mux, .int .i64 r.sub], .pointer (some ⟨B1, 0, none⟩), .pointer (some ⟨B2, 0, none⟩)] w
      fun e w' => e = .returned (.bool (nameP 1 number r)) ∧ Below w.heap.size w w' := by
  obtain ⟨nm, a0, a1, a2, a3, a4, mx, sb⟩ := r
  dsimp only
  by_cases hm : a1 = number
  · subst hm
    by_cases hz : a1 = -1
    · subst hz
      have k1 := (h1.alloc (.cells #[.string nm, .int .i64 a0, .int .i64 (-1), .int .i64 a2, .int .i64 a3, .int .i64 a4, .int .i64 mx, .int .i64 sb] 36)).cell 0
      have k2 := (h2.alloc (.cells #[.string nm, .int .i64 a0, .int .i64 (-1), .int .i64 a2, .int .i64 a3, .int .i64 a4, .int .i64 mx, .int .i64 sb] 36)).cell 0
      have bR := Blk.new w 36 #[.string nm, .int .i64 a0, .int .i64 (-1), .int .i64 a2, .int .i64 a3, .int .i64 a4, .int .i64 mx, .int .i64 sb]
      have k3 := bR.cell 2
      simp only [List.getElem?_toArray, List.getElem?_cons_zero, List.getElem?_cons_succ] at k1 k2 k3
      clear h1 h2
      go_enter Tryd.func31, Tryd.ntmps31
      go_wp2_with fail
      go_quiet (fail)
      go_wp2
      go_ret
      exact ⟨retB (by simp [nameP, SRow.num, *]), below_drewN ((Below.refl _ w).alloc (Nat.le_refl _) _) _⟩

    · have hz' : (a1 != -1) = true := by simpa using hz
      have k1 := (h1.alloc (.cells #[.string nm, .int .i64 a0, .int .i64 a1, .int .i64 a2, .int .i64 a3, .int .i64 a4, .int .i64 mx, .int .i64 sb] 36)).cell 0
      have k2 := (h2.alloc (.cells #[.string nm, .int .i64 a0, .int .i64 a1, .int .i64 a2, .int .i64 a3, .int .i64 a4, .int .i64 mx, .int .i64 sb] 36)).cell 0
      have bR := Blk.new w 36 #[.string nm, .int .i64 a0, .int .i64 a1, .int .i64 a2, .int .i64 a3, .int .i64 a4, .int .i64 mx, .int .i64 sb]
      have k3 := bR.cell 2
      simp only [List.getElem?_toArray, List.getElem?_cons_zero, List.getElem?_cons_succ] at k1 k2 k3
      clear h1 h2
      go_enter Tryd.func31, Tryd.ntmps31
      go_wp2_with fail
      go_quiet (fail)
      go_wp2
      go_ret
      exact ⟨retB (by simp [nameP, SRow.num, *]), below_drewN ((Below.refl _ w).alloc (Nat.le_refl _) _) _⟩

  · have hm' : (a1 == number) = false := by simpa using hm
    have k1 := (h1.alloc (.cells #[.string nm, .int .i64 a0, .int .i64 a1, .int .i64 a2, .int .i64 a3, .int .i64 a4, .int .i64 mx, .int .i64 sb] 36)).cell 0
    have k2 := (h2.alloc (.cells #[.string nm, .int .i64 a0, .int .i64 a1, .int .i64 a2, .int .i64 a3, .int .i64 a4, .int .i64 mx, .int .i64 sb] 36)).cell 0
    have bR := Blk.new w 36 #[.string nm, .int .i64 a0, .int .i64 a1, .int .i64 a2, .int .i64 a3, .int .i64 a4, .int .i64 mx, .int .i64 sb]
    have k3 := bR.cell 2
    simp only [List.getElem?_toArray, List.getElem?_cons_zero, List.getElem?_cons_succ] at k1 k2 k3
    clear h1 h2
    go_enter Tryd.func31, Tryd.ntmps31
    go_wp2_with fail
    go_quiet (fail)
    go_wp2
    go_ret
    exact ⟨retB (by simp [nameP, SRow.num, *]), below_drewN ((Below.refl _ w).alloc (Nat.le_refl _) _) _⟩


set_option maxRecDepth 100000 in
set_option maxHeartbeats 1000000 in
theorem name1_2 (number : Int) (B1 B2 : Nat) (r : SRow) (w : World) (h1 : Blk w B1 3 #[.int .i64 2]) (h2 : Blk w B2 3 #[.int .i64 number]) :
    Calls Tryd.prog 31 #[.agg #[.string r.name, .int .i64 r.n0, .int .i64 r.n1, .int .i64 r.n2, .int .i64 r.n3, .int .i64 r.n4, .int .i64 r.mux, .int .i64 r.sub], .pointer (some ⟨B1, 0, none⟩), .pointer (some ⟨B2, 0, none⟩)] w
      fun e w' => e = .returned (.bool (nameP 2 number r)) ∧ Below w.heap.size w w' := by
  obtain ⟨nm, a0, a1, a2, a3, a4, mx, sb⟩ := r
  dsimp only
  by_cases hm : a2 = number
  · subst hm
    by_cases hz : a2 = -1
    · subst hz
      have k1 := (h1.alloc (.cells #[.string nm, .int .i64 a0, .int .i64 a1, .int .i64 (-1), .int .i64 a3, .int .i64 a4, .int .i64 mx, .int .i64 sb] 36)).cell 0
      have k2 := (h2.alloc (.cells #[.string nm, .int .i64 a0, .int .i64 a1, .int .i64 (-1), .int .i64 a3, .int .i64 a4, .int .i64 mx, .int .i64 sb] 36)).cell 0
      have bR := Blk.new w 36 #[.string nm, .int .i64 a0, .int .i64 a1, .int .i64 (-1), .int .i64 a3, .int .i64 a4, .int .i64 mx, .int .i64 sb]
      have k3 := bR.cell 3
      simp only [List.getElem?_toArray, List.getElem?_cons_zero, List.getElem?_cons_succ] at k1 k2 k3
      clear h1 h2
      go_enter Tryd.func31, Tryd.ntmps31
      go_wp2_with fail
      go_quiet (fail)
      go_wp2
      go_ret
      exact ⟨retB (by simp [nameP, SRow.num, *]), below_drewN ((Below.refl _ w).alloc (Nat.le_refl _) _) _⟩

    · have hz' : (a2 != -1) = true := by simpa using hz
      have k1 := (h1.alloc (.cells #[.string nm, .int .i64 a0, .int .i64 a1, .int .i64 a2, .int .i64 a3, .int .i64 a4, .int .i64 mx, .int .i64 sb] 36)).cell 0
      have k2 := (h2.alloc (.cells #[.string nm, .int .i64 a0, .int .i64 a1, .int .i64 a2, .int .i64 a3, .int .i64 a4, .int .i64 mx, .int .i64 sb] 36)).cell 0
      have bR := Blk.new w 36 #[.string nm, .int .i64 a0, .int .i64 a1, .int .i64 a2, .int .i64 a3, .int .i64 a4, .int .i64 mx, .int .i64 sb]
      have k3 := bR.cell 3
      simp only [List.getElem?_toArray, List.getElem?_cons_zero, List.getElem?_cons_succ] at k1 k2 k3
      clear h1 h2
      go_enter Tryd.func31, Tryd.ntmps31
      go_wp2_with fail
      go_quiet (fail)
      go_wp2
      go_ret
      exact ⟨retB (by simp [nameP, SRow.num, *]), below_drewN ((Below.refl _ w).alloc (Nat.le_refl _) _) _⟩

  · have hm' : (a2 == number) = false := by simpa using hm
    have k1 := (h1.alloc (.cells #[.string nm, .int .i64 a0, .int .i64 a1, .int .i64 a2, .int .i64 a3, .int .i64 a4, .int .i64 mx, .int .i64 sb] 36)).cell 0
    have k2 := (h2.alloc (.cells #[.string nm, .int .i64 a0, .int .i64 a1, .int .i64 a2, .int .i64 a3, .int .i64 a4, .int .i64 mx, .int .i64 sb] 36)).cell 0
    have bR := Blk.new w 36 #[.string nm, .int .i64 a0, .int .i64 a1, .int .i64 a2, .int .i64 a3, .int .i64 a4, .int .i64 mx, .int .i64 sb]
    have k3 := bR.cell 3
    simp only [List.getElem?_toArray, List.getElem?_cons_zero, List.getElem?_cons_succ] at k1 k2 k3
    clear h1 h2
    go_enter Tryd.func31, Tryd.ntmps31
    go_wp2_with fail
    go_quiet (fail)
    go_wp2
    go_ret
    exact ⟨retB (by simp [nameP, SRow.num, *]), below_drewN ((Below.refl _ w).alloc (Nat.le_refl _) _) _⟩


set_option maxRecDepth 100000 in
set_option maxHeartbeats 1000000 in
theorem name1_3 (number : Int) (B1 B2 : Nat) (r : SRow) (w : World) (h1 : Blk w B1 3 #[.int .i64 3]) (h2 : Blk w B2 3 #[.int .i64 number]) :
    Calls Tryd.prog 31 #[.agg #[.string r.name, .int .i64 r.n0, .int .i64 r.n1, .int .i64 r.n2, .int .i64 r.n3, .int .i64 r.n4, .int .i64 r.mux, .int .i64 r.sub], .pointer (some ⟨B1, 0, none⟩), .pointer (some ⟨B2, 0, none⟩)] w
      fun e w' => e = .returned (.bool (nameP 3 number r)) ∧ Below w.heap.size w w' := by
  obtain ⟨nm, a0, a1, a2, a3, a4, mx, sb⟩ := r
  dsimp only
  by_cases hm : a3 = number
  · subst hm
    by_cases hz : a3 = -1
    · subst hz
      have k1 := (h1.alloc (.cells #[.string nm, .int .i64 a0, .int .i64 a1, .int .i64 a2, .int .i64 (-1), .int .i64 a4, .int .i64 mx, .int .i64 sb] 36)).cell 0
      have k2 := (h2.alloc (.cells #[.string nm, .int .i64 a0, .int .i64 a1, .int .i64 a2, .int .i64 (-1), .int .i64 a4, .int .i64 mx, .int .i64 sb] 36)).cell 0
      have bR := Blk.new w 36 #[.string nm, .int .i64 a0, .int .i64 a1, .int .i64 a2, .int .i64 (-1), .int .i64 a4, .int .i64 mx, .int .i64 sb]
      have k3 := bR.cell 4
      simp only [List.getElem?_toArray, List.getElem?_cons_zero, List.getElem?_cons_succ] at k1 k2 k3
      clear h1 h2
      go_enter Tryd.func31, Tryd.ntmps31
      go_wp2_with fail
      go_quiet (fail)
      go_wp2
      go_ret
      exact ⟨retB (by simp [nameP, SRow.num, *]), below_drewN ((Below.refl _ w).alloc (Nat.le_refl _) _) _⟩

    · have hz' : (a3 != -1) = true := by simpa using hz
      have k1 := (h1.alloc (.cells #[.string nm, .int .i64 a0, .int .i64 a1, .int .i64 a2, .int .i64 a3, .int .i64 a4, .int .i64 mx, .int .i64 sb] 36)).cell 0
      have k2 := (h2.alloc (.cells #[.string nm, .int .i64 a0, .int .i64 a1, .int .i64 a2, .int .i64 a3, .int .i64 a4, .int .i64 mx, .int .i64 sb] 36)).cell 0
      have bR := Blk.new w 36 #[.string nm, .int .i64 a0, .int .i64 a1, .int .i64 a2, .int .i64 a3, .int .i64 a4, .int .i64 mx, .int .i64 sb]
      have k3 := bR.cell 4
      simp only [List.getElem?_toArray, List.getElem?_cons_zero, List.getElem?_cons_succ] at k1 k2 k3
      clear h1 h2
      go_enter Tryd.func31, Tryd.ntmps31
      go_wp2_with fail
      go_quiet (fail)
      go_wp2
      go_ret
      exact ⟨retB (by simp [nameP, SRow.num, *]), below_drewN ((Below.refl _ w).alloc (Nat.le_refl _) _) _⟩

  · have hm' : (a3 == number) = false := by simpa using hm
    have k1 := (h1.alloc (.cells #[.string nm, .int .i64 a0, .int .i64 a1, .int .i64 a2, .int .i64 a3, .int .i64 a4, .int .i64 mx, .int .i64 sb] 36)).cell 0
    have k2 := (h2.alloc (.cells #[.string nm, .int .i64 a0, .int .i64 a1, .int .i64 a2, .int .i64 a3, .int .i64 a4, .int .i64 mx, .int .i64 sb] 36)).cell 0
    have bR := Blk.new w 36 #[.string nm, .int .i64 a0, .int .i64 a1, .int .i64 a2, .int .i64 a3, .int .i64 a4, .int .i64 mx, .int .i64 sb]
    have k3 := bR.cell 4
    simp only [List.getElem?_toArray, List.getElem?_cons_zero, List.getElem?_cons_succ] at k1 k2 k3
    clear h1 h2
    go_enter Tryd.func31, Tryd.ntmps31
    go_wp2_with fail
    go_quiet (fail)
    go_wp2
    go_ret
    exact ⟨retB (by simp [nameP, SRow.num, *]), below_drewN ((Below.refl _ w).alloc (Nat.le_refl _) _) _⟩


set_option maxRecDepth 100000 in
set_option maxHeartbeats 1000000 in
theorem name1_4 (number : Int) (B1 B2 : Nat) (r : SRow) (w : World) (h1 : Blk w B1 3 #[.int .i64 4]) (h2 : Blk w B2 3 #[.int .i64 number]) :
    Calls Tryd.prog 31 #[.agg #[.string r.name, .int .i64 r.n0, .int .i64 r.n1, .int .i64 r.n2, .int .i64 r.n3, .int .i64 r.n4, .int .i64 r.mux, .int .i64 r.sub], .pointer (some ⟨B1, 0, none⟩), .pointer (some ⟨B2, 0, none⟩)] w
      fun e w' => e = .returned (.bool (nameP 4 number r)) ∧ Below w.heap.size w w' := by
  obtain ⟨nm, a0, a1, a2, a3, a4, mx, sb⟩ := r
  dsimp only
  by_cases hm : a4 = number
  · subst hm
    by_cases hz : a4 = -1
    · subst hz
      have k1 := (h1.alloc (.cells #[.string nm, .int .i64 a0, .int .i64 a1, .int .i64 a2, .int .i64 a3, .int .i64 (-1), .int .i64 mx, .int .i64 sb] 36)).cell 0
      have k2 := (h2.alloc (.cells #[.string nm, .int .i64 a0, .int .i64 a1, .int .i64 a2, .int .i64 a3, .int .i64 (-1), .int .i64 mx, .int .i64 sb] 36)).cell 0
      have bR := Blk.new w 36 #[.string nm, .int .i64 a0, .int .i64 a1, .int .i64 a2, .int .i64 a3, .int .i64 (-1), .int .i64 mx, .int .i64 sb]
      have k3 := bR.cell 5
      simp only [List.getElem?_toArray, List.getElem?_cons_zero, List.getElem?_cons_succ] at k1 k2 k3
      clear h1 h2
      go_enter Tryd.func31, Tryd.ntmps31
      go_wp2_with fail
      go_quiet (fail)
      go_wp2
      go_ret
      exact ⟨retB (by simp [nameP, SRow.num, *]), below_drewN ((Below.refl _ w).alloc (Nat.le_refl _) _) _⟩

    · have hz' : (a4 != -1) = true := by simpa using hz
      have k1 := (h1.alloc (.cells #[.string nm, .int .i64 a0, .int .i64 a1, .int .i64 a2, .int .i64 a3, .int .i64 a4, .int .i64 mx, .int .i64 sb] 36)).cell 0
      have k2 := (h2.alloc (.cells #[.string nm, .int .i64 a0, .int .i64 a1, .int .i64 a2, .int .i64 a3, .int .i64 a4, .int .i64 mx, .int .i64 sb] 36)).cell 0
      have bR := Blk.new w 36 #[.string nm, .int .i64 a0, .int .i64 a1, .int .i64 a2, .int .i64 a3, .int .i64 a4, .int .i64 mx, .int .i64 sb]
      have k3 := bR.cell 5
      simp only [List.getElem?_toArray, List.getElem?_cons_zero, List.getElem?_cons_succ] at k1 k2 k3
      clear h1 h2
      go_enter Tryd.func31, Tryd.ntmps31
      go_wp2_with fail
      go_quiet (fail)
      go_wp2
      go_ret
      exact ⟨retB (by simp [nameP, SRow.num, *]), below_drewN ((Below.refl _ w).alloc (Nat.le_refl _) _) _⟩

  · have hm' : (a4 == number) = false := by simpa using hm
    have k1 := (h1.alloc (.cells #[.string nm, .int .i64 a0, .int .i64 a1, .int .i64 a2, .int .i64 a3, .int .i64 a4, .int .i64 mx, .int .i64 sb] 36)).cell 0
    have k2 := (h2.alloc (.cells #[.string nm, .int .i64 a0, .int .i64 a1, .int .i64 a2, .int .i64 a3, .int .i64 a4, .int .i64 mx, .int .i64 sb] 36)).cell 0
    have bR := Blk.new w 36 #[.string nm, .int .i64 a0, .int .i64 a1, .int .i64 a2, .int .i64 a3, .int .i64 a4, .int .i64 mx, .int .i64 sb]
    have k3 := bR.cell 5
    simp only [List.getElem?_toArray, List.getElem?_cons_zero, List.getElem?_cons_succ] at k1 k2 k3
    clear h1 h2
    go_enter Tryd.func31, Tryd.ntmps31
    go_wp2_with fail
    go_quiet (fail)
    go_wp2
    go_ret
    exact ⟨retB (by simp [nameP, SRow.num, *]), below_drewN ((Below.refl _ w).alloc (Nat.le_refl _) _) _⟩


/-- Which row Name means; below 0: none. -/
def nameIdx (l : List SRow) (a : Nat) (number : Int) : Int :=
  if number < 0 ∧ -(l.length : Int) ≤ number ∧ (l[(-1 - number).toNat]!).num a = -1 then -1 - number else firstIdx (nameP a number) l
/-- What Name answers. -/
def nameAns (l : List SRow) (a : Nat) (number : Int) : Value :=
  if nameIdx l a number < 0 then .tuple #[.string ⟨#[]⟩, .int .i64 14] else .tuple #[.string (l[(nameIdx l a number).toNat]!).name, .int .i64 0]

set_option maxRecDepth 100000 in
set_option maxHeartbeats 1000000 in
theorem name_0 (number : Int) (sv : Value) (l : List SRow) (w : World) (hbig : l.length ≤ 1000000) (hR : RowsV w sv l) :
    Calls Tryd.prog 18 #[sv, .int .i64 0, .int .i64 number] w fun e w' => e = .returned (nameAns l 0 number) ∧ Below w.heap.size w w' := by
  have hB0 : Below w.heap.size w ((w.alloc (.cells #[.int .i64 0] 3)).alloc (.cells #[.int .i64 number] 3)) := ((Below.refl _ w).alloc (Nat.le_refl _) _).alloc (by simp) _
  have hR0 := hR.below hB0
  have hc := indexFunc_any (nameP 0 number) 31 #[.pointer (some ⟨w.heap.size, 0, none⟩), .pointer (some ⟨w.heap.size + 1, 0, none⟩)] (enters_of Tryd.func31 (by kernel_rfl) rfl) sv l _
    (fun W x hb => name1_0 number w.heap.size (w.heap.size + 1) x W (((Blk.new w 3 #[.int .i64 0]).alloc (.cells #[.int .i64 number] 3)).below hb (by simp; omega)) (by
      have b2 := Blk.new (w.alloc (.cells #[.int .i64 0] 3)) 3 #[.int .i64 number]
      simp only [World.size_alloc] at b2
      exact b2.below hb (by simp))) (by omega) hR0
  have hk := firstIdx_range (nameP 0 number) l
  have bA := (Blk.new w 3 #[.int .i64 0]).alloc (.cells #[.int .i64 number] 3)
  have bN := Blk.new (w.alloc (.cells #[.int .i64 0] 3)) 3 #[.int .i64 number]
  simp only [World.size_alloc] at bN
  obtain ⟨a, c, rfl, h⟩ := hR0
  clear hR
  by_cases hn0 : 0 ≤ number
  · have hidx : nameIdx l 0 number = firstIdx (nameP 0 number) l := if_neg (by omega)
    unfold nameAns
    rw [hidx]
    clear hidx
    generalize firstIdx (nameP 0 number) l = k at hc hk ⊢
    have Hc := Lib.hid hc
    clear hc
    have hn1 : ¬ number < 0 := by omega
    have hn2 : decide (number < 0) = false := by simpa using hn0
    rcases hk with rfl | ⟨k0, k1⟩
    · clear h
      go_enter Tryd.func18, Tryd.ntmps18
      go_wp2_with (go_at_call 30; refine Hc.out.mono ?_; rintro e w1 ⟨rfl, hb1⟩)
      have m1 := (bA.below hb1 (by simp; omega)).cell 0
      have m2 := (bN.below hb1 (by simp)).cell 0
      simp only [List.getElem?_toArray, List.getElem?_cons_zero] at m1 m2
      go_quiet (fail)
      go_wp2
      go_ret2
      exact ⟨rfl, below_drewN (hB0.trans (hb1.mono (by simp; omega))) _⟩
    · rcases h with rfl | ⟨b, off, rfl, hlt, hr⟩
      · simp at k1; omega
      obtain ⟨j, rfl⟩ := Int.eq_ofNat_of_zero_le k0
      have hj : j < l.length := by omega
      rw [if_neg (by omega)]
      have hcell := hr.nameCell hj
      have e1 : (Int.toNat (j : Int)) = j := Int.toNat_natCast j
      rw [e1]
      generalize (l[j]!).name = nm at hcell ⊢
      have Hcell := Lib.hid hcell
      clear hcell hr e1
      have k0' : (0 : Int) ≤ (j : Int) := by omega
      have k1' : (j : Int) < (l.length : Int) := by omega
      generalize l.length = n at *
      go_enter Tryd.func18, Tryd.ntmps18
      go_wp2_with (go_at_call 30; refine Hc.out.mono ?_; rintro e w1 ⟨rfl, hb1⟩)
      have m1 := (bA.below hb1 (by simp; omega)).cell 0
      have m2 := (bN.below hb1 (by simp)).cell 0
      simp only [List.getElem?_toArray, List.getElem?_cons_zero] at m1 m2
      have hn1 := (hb1.cell (p := ⟨b, off + j * 8, none⟩) (by simp at hlt ⊢; omega)).trans Hcell.out
      go_quiet (fail)
      go_wp2
      go_ret2
      exact ⟨rfl, below_drewN (hB0.trans (hb1.mono (by simp; omega))) _⟩
  · have hlt0 : number < 0 := by omega
    have hn2 : decide (number < 0) = true := by simpa using hlt0
    by_cases hnl : -(l.length : Int) ≤ number
    · obtain ⟨b, off, rfl, hlt, hr⟩ : ∃ b off, a = some ⟨b, off, none⟩ ∧ b < ((w.alloc (.cells #[.int .i64 0] 3)).alloc (.cells #[.int .i64 number] 3)).heap.size ∧ RowsAt ((w.alloc (.cells #[.int .i64 0] 3)).alloc (.cells #[.int .i64 number] 3)) b off l := by
        rcases h with h | h
        · rw [h] at hnl; simp at hnl; omega
        · exact h
      clear h
      obtain ⟨q, hqi⟩ := Int.eq_ofNat_of_zero_le (show 0 ≤ -1 - number by omega)
      have hq1 : q < l.length := by omega
      have hqt : (-1 - number).toNat = q := by rw [hqi]; exact Int.toNat_natCast q
      have hval := hr q hq1 1 _ rfl
      have q0' : (0 : Int) ≤ (q : Int) := by omega
      have q1' : (q : Int) < (l.length : Int) := by omega
      by_cases hit : (l[q]!).num 0 = -1
      · have hidx : nameIdx l 0 number = (q : Int) := by
          unfold nameIdx
          rw [if_pos ⟨hlt0, hnl, by rw [hqt]; exact hit⟩, hqi]
        have hit' : (l[q]!).n0 = -1 := hit
        rw [hit'] at hval
        unfold nameAns
        rw [hidx, if_neg (by omega), show (Int.toNat (q : Int)) = q from Int.toNat_natCast q]
        have hcell := hr.nameCell hq1
        generalize (l[q]!).name = nm at hcell ⊢
        have Hcell := Lib.hid hcell
        have Hval := Lib.hid hval
        have Hc := Lib.hid hc
        clear hcell hval hit hit' hidx hr hqt hk hc
        generalize l.length = n at *
        go_enter Tryd.func18, Tryd.ntmps18
        go_wp2_with (go_at_call 30; refine Hc.out.mono ?_; rintro e w1 ⟨rfl, hb1⟩)
        have m1 := (bA.below hb1 (by simp; omega)).cell 0
        have m2 := (bN.below hb1 (by simp)).cell 0
        simp only [List.getElem?_toArray, List.getElem?_cons_zero] at m1 m2
        have hn1 := (hb1.cell (p := ⟨b, off + q * 8, none⟩) (by simp at hlt ⊢; omega)).trans Hcell.out
        have hn3 := (hb1.cell (p := ⟨b, off + q * 8 + 1, none⟩) (by simp at hlt ⊢; omega)).trans Hval.out
        go_quiet (fail)
        go_wp2
        go_ret2
        exact ⟨rfl, below_drewN (hB0.trans (hb1.mono (by simp; omega))) _⟩
      · have hidx : nameIdx l 0 number = firstIdx (nameP 0 number) l := if_neg (fun hh => hit (by rw [← hqt]; exact hh.2.2))
        have hit' : ¬ (l[q]!).n0 = -1 := hit
        unfold nameAns
        rw [hidx]
        clear hidx
        generalize firstIdx (nameP 0 number) l = k at hc hk ⊢
        generalize (l[q]!).n0 = v at hval hit'
        have hit2 : (v == -1) = false := by simpa using hit'
        have Hc := Lib.hid hc
        have Hval := Lib.hid hval
        clear hc hval hit hqt
        rcases hk with rfl | ⟨k0, k1⟩
        · clear hr
          generalize l.length = n at *
          go_enter Tryd.func18, Tryd.ntmps18
          go_wp2_with (go_at_call 30; refine Hc.out.mono ?_; rintro e w1 ⟨rfl, hb1⟩)
          have m1 := (bA.below hb1 (by simp; omega)).cell 0
          have m2 := (bN.below hb1 (by simp)).cell 0
          simp only [List.getElem?_toArray, List.getElem?_cons_zero] at m1 m2
          have hn3 := (hb1.cell (p := ⟨b, off + q * 8 + 1, none⟩) (by simp at hlt ⊢; omega)).trans Hval.out
          go_quiet (fail)
          go_wp2
          go_ret2
          exact ⟨rfl, below_drewN (hB0.trans (hb1.mono (by simp; omega))) _⟩
        · obtain ⟨j, rfl⟩ := Int.eq_ofNat_of_zero_le k0
          have hj : j < l.length := by omega
          rw [if_neg (by omega)]
          have hcell := hr.nameCell hj
          have e1 : (Int.toNat (j : Int)) = j := Int.toNat_natCast j
          rw [e1]
          generalize (l[j]!).name = nm at hcell ⊢
          have Hcell := Lib.hid hcell
          clear hcell hr e1
          have k0' : (0 : Int) ≤ (j : Int) := by omega
          have k1' : (j : Int) < (l.length : Int) := by omega
          generalize l.length = n at *
          go_enter Tryd.func18, Tryd.ntmps18
          go_wp2_with (go_at_call 30; refine Hc.out.mono ?_; rintro e w1 ⟨rfl, hb1⟩)
          have m1 := (bA.below hb1 (by simp; omega)).cell 0
          have m2 := (bN.below hb1 (by simp)).cell 0
          simp only [List.getElem?_toArray, List.getElem?_cons_zero] at m1 m2
          have hn1 := (hb1.cell (p := ⟨b, off + j * 8, none⟩) (by simp at hlt ⊢; omega)).trans Hcell.out
          have hn3 := (hb1.cell (p := ⟨b, off + q * 8 + 1, none⟩) (by simp at hlt ⊢; omega)).trans Hval.out
          go_quiet (fail)
          go_wp2
          go_ret2
          exact ⟨rfl, below_drewN (hB0.trans (hb1.mono (by simp; omega))) _⟩
    · have hidx : nameIdx l 0 number = firstIdx (nameP 0 number) l := if_neg (fun hh => hnl hh.2.1)
      unfold nameAns
      rw [hidx]
      clear hidx
      generalize firstIdx (nameP 0 number) l = k at hc hk ⊢
      have Hc := Lib.hid hc
      clear hc
      have hn3 : ¬ number ≥ -(l.length : Int) := by omega
      have hn4 : decide (-(l.length : Int) ≤ number) = false := by simpa using hnl
      rcases hk with rfl | ⟨k0, k1⟩
      · clear h
        go_enter Tryd.func18, Tryd.ntmps18
        go_wp2_with (go_at_call 30; refine Hc.out.mono ?_; rintro e w1 ⟨rfl, hb1⟩)
        have m1 := (bA.below hb1 (by simp; omega)).cell 0
        have m2 := (bN.below hb1 (by simp)).cell 0
        simp only [List.getElem?_toArray, List.getElem?_cons_zero] at m1 m2
        go_quiet (fail)
        go_wp2
        go_ret2
        exact ⟨rfl, below_drewN (hB0.trans (hb1.mono (by simp; omega))) _⟩
      · rcases h with rfl | ⟨b, off, rfl, hlt, hr⟩
        · simp at k1; omega
        obtain ⟨j, rfl⟩ := Int.eq_ofNat_of_zero_le k0
        have hj : j < l.length := by omega
        rw [if_neg (by omega)]
        have hcell := hr.nameCell hj
        have e1 : (Int.toNat (j : Int)) = j := Int.toNat_natCast j
        rw [e1]
        generalize (l[j]!).name = nm at hcell ⊢
        have Hcell := Lib.hid hcell
        clear hcell hr e1
        have k0' : (0 : Int) ≤ (j : Int) := by omega
        have k1' : (j : Int) < (l.length : Int) := by omega
        generalize l.length = n at *
        go_enter Tryd.func18, Tryd.ntmps18
        go_wp2_with (go_at_call 30; refine Hc.out.mono ?_; rintro e w1 ⟨rfl, hb1⟩)
        have m1 := (bA.below hb1 (by simp; omega)).cell 0
        have m2 := (bN.below hb1 (by simp)).cell 0
        simp only [List.getElem?_toArray, List.getElem?_cons_zero] at m1 m2
        have hn1 := (hb1.cell (p := ⟨b, off + j * 8, none⟩) (by simp at hlt ⊢; omega)).trans Hcell.out
        go_quiet (fail)
        go_wp2
        go_ret2
        exact ⟨rfl, below_drewN (hB0.trans (hb1.mono (by simp; omega))) _⟩

set_option maxRecDepth 100000 in
set_option maxHeartbeats 1000000 in
theorem name_1 (number : Int) (sv : Value) (l : List SRow) (w : World) (hbig : l.length ≤ 1000000) (hR : RowsV w sv l) :
    Calls Tryd.prog 18 #[sv, .int .i64 1, .int .i64 number] w fun e w' => e = .returned (nameAns l 1 number) ∧ Below w.heap.size w w' := by
  have hB0 : Below w.heap.size w ((w.alloc (.cells #[.int .i64 1] 3)).alloc (.cells #[.int .i64 number] 3)) := ((Below.refl _ w).alloc (Nat.le_refl _) _).alloc (by simp) _
  have hR0 := hR.below hB0
  have hc := indexFunc_any (nameP 1 number) 31 #[.pointer (some ⟨w.heap.size, 0, none⟩), .pointer (some ⟨w.heap.size + 1, 0, none⟩)] (enters_of Tryd.func31 (by kernel_rfl) rfl) sv l _
    (fun W x hb => name1_1 number w.heap.size (w.heap.size + 1) x W (((Blk.new w 3 #[.int .i64 1]).alloc (.cells #[.int .i64 number] 3)).below hb (by simp; omega)) (by
      have b2 := Blk.new (w.alloc (.cells #[.int .i64 1] 3)) 3 #[.int .i64 number]
      simp only [World.size_alloc] at b2
      exact b2.below hb (by simp))) (by omega) hR0
  have hk := firstIdx_range (nameP 1 number) l
  have bA := (Blk.new w 3 #[.int .i64 1]).alloc (.cells #[.int .i64 number] 3)
  have bN := Blk.new (w.alloc (.cells #[.int .i64 1] 3)) 3 #[.int .i64 number]
  simp only [World.size_alloc] at bN
  obtain ⟨a, c, rfl, h⟩ := hR0
  clear hR
  by_cases hn0 : 0 ≤ number
  · have hidx : nameIdx l 1 number = firstIdx (nameP 1 number) l := if_neg (by omega)
    unfold nameAns
    rw [hidx]
    clear hidx
    generalize firstIdx (nameP 1 number) l = k at hc hk ⊢
    have Hc := Lib.hid hc
    clear hc
    have hn1 : ¬ number < 0 := by omega
    have hn2 : decide (number < 0) = false := by simpa using hn0
    rcases hk with rfl | ⟨k0, k1⟩
    · clear h
      go_enter Tryd.func18, Tryd.ntmps18
      go_wp2_with (go_at_call 30; refine Hc.out.mono ?_; rintro e w1 ⟨rfl, hb1⟩)
      have m1 := (bA.below hb1 (by simp; omega)).cell 0
      have m2 := (bN.below hb1 (by simp)).cell 0
      simp only [List.getElem?_toArray, List.getElem?_cons_zero] at m1 m2
      go_quiet (fail)
      go_wp2
      go_ret2
      exact ⟨rfl, below_drewN (hB0.trans (hb1.mono (by simp; omega))) _⟩
    · rcases h with rfl | ⟨b, off, rfl, hlt, hr⟩
      · simp at k1; omega
      obtain ⟨j, rfl⟩ := Int.eq_ofNat_of_zero_le k0
      have hj : j < l.length := by omega
      rw [if_neg (by omega)]
      have hcell := hr.nameCell hj
      have e1 : (Int.toNat (j : Int)) = j := Int.toNat_natCast j
      rw [e1]
      generalize (l[j]!).name = nm at hcell ⊢
      have Hcell := Lib.hid hcell
      clear hcell hr e1
      have k0' : (0 : Int) ≤ (j : Int) := by omega
      have k1' : (j : Int) < (l.length : Int) := by omega
      generalize l.length = n at *
      go_enter Tryd.func18, Tryd.ntmps18
      go_wp2_with (go_at_call 30; refine Hc.out.mono ?_; rintro e w1 ⟨rfl, hb1⟩)
      have m1 := (bA.below hb1 (by simp; omega)).cell 0
      have m2 := (bN.below hb1 (by simp)).cell 0
      simp only [List.getElem?_toArray, List.getElem?_cons_zero] at m1 m2
      have hn1 := (hb1.cell (p := ⟨b, off + j * 8, none⟩) (by simp at hlt ⊢; omega)).trans Hcell.out
      go_quiet (fail)
      go_wp2
      go_ret2
      exact ⟨rfl, below_drewN (hB0.trans (hb1.mono (by simp; omega))) _⟩
  · have hlt0 : number < 0 := by omega
    have hn2 : decide (number < 0) = true := by simpa using hlt0
    by_cases hnl : -(l.length : Int) ≤ number
    · obtain ⟨b, off, rfl, hlt, hr⟩ : ∃ b off, a = some ⟨b, off, none⟩ ∧ b < ((w.alloc (.cells #[.int .i64 1] 3)).alloc (.cells #[.int .i64 number] 3)).heap.size ∧ RowsAt ((w.alloc (.cells #[.int .i64 1] 3)).alloc (.cells #[.int .i64 number] 3)) b off l := by
        rcases h with h | h
        · rw [h] at hnl; simp at hnl; omega
        · exact h
      clear h
      obtain ⟨q, hqi⟩ := Int.eq_ofNat_of_zero_le (show 0 ≤ -1 - number by omega)
      have hq1 : q < l.length := by omega
      have hqt : (-1 - number).toNat = q := by rw [hqi]; exact Int.toNat_natCast q
      have hval := hr q hq1 2 _ rfl
      have q0' : (0 : Int) ≤ (q : Int) := by omega
      have q1' : (q : Int) < (l.length : Int) := by omega
      by_cases hit : (l[q]!).num 1 = -1
      · have hidx : nameIdx l 1 number = (q : Int) := by
          unfold nameIdx
          rw [if_pos ⟨hlt0, hnl, by rw [hqt]; exact hit⟩, hqi]
        have hit' : (l[q]!).n1 = -1 := hit
        rw [hit'] at hval
        unfold nameAns
        rw [hidx, if_neg (by omega), show (Int.toNat (q : Int)) = q from Int.toNat_natCast q]
        have hcell := hr.nameCell hq1
        generalize (l[q]!).name = nm at hcell ⊢
        have Hcell := Lib.hid hcell
        have Hval := Lib.hid hval
        have Hc := Lib.hid hc
        clear hcell hval hit hit' hidx hr hqt hk hc
        generalize l.length = n at *
        go_enter Tryd.func18, Tryd.ntmps18
        go_wp2_with (go_at_call 30; refine Hc.out.mono ?_; rintro e w1 ⟨rfl, hb1⟩)
        have m1 := (bA.below hb1 (by simp; omega)).cell 0
        have m2 := (bN.below hb1 (by simp)).cell 0
        simp only [List.getElem?_toArray, List.getElem?_cons_zero] at m1 m2
        have hn1 := (hb1.cell (p := ⟨b, off + q * 8, none⟩) (by simp at hlt ⊢; omega)).trans Hcell.out
        have hn3 := (hb1.cell (p := ⟨b, off + q * 8 + 2, none⟩) (by simp at hlt ⊢; omega)).trans Hval.out
        go_quiet (fail)
        go_wp2
        go_ret2
        exact ⟨rfl, below_drewN (hB0.trans (hb1.mono (by simp; omega))) _⟩
      · have hidx : nameIdx l 1 number = firstIdx (nameP 1 number) l := if_neg (fun hh => hit (by rw [← hqt]; exact hh.2.2))
        have hit' : ¬ (l[q]!).n1 = -1 := hit
        unfold nameAns
        rw [hidx]
        clear hidx
        generalize firstIdx (nameP 1 number) l = k at hc hk ⊢
        generalize (l[q]!).n1 = v at hval hit'
        have hit2 : (v == -1) = false := by simpa using hit'
        have Hc := Lib.hid hc
        have Hval := Lib.hid hval
        clear hc hval hit hqt
        rcases hk with rfl | ⟨k0, k1⟩
        · clear hr
          generalize l.length = n at *
          go_enter Tryd.func18, Tryd.ntmps18
          go_wp2_with (go_at_call 30; refine Hc.out.mono ?_; rintro e w1 ⟨rfl, hb1⟩)
          have m1 := (bA.below hb1 (by simp; omega)).cell 0
          have m2 := (bN.below hb1 (by simp)).cell 0
          simp only [List.getElem?_toArray, List.getElem?_cons_zero] at m1 m2
          have hn3 := (hb1.cell (p := ⟨b, off + q * 8 + 2, none⟩) (by simp at hlt ⊢; omega)).trans Hval.out
          go_quiet (fail)
          go_wp2
          go_ret2
          exact ⟨rfl, below_drewN (hB0.trans (hb1.mono (by simp; omega))) _⟩
        · obtain ⟨j, rfl⟩ := Int.eq_ofNat_of_zero_le k0
          have hj : j < l.length := by omega
          rw [if_neg (by omega)]
          have hcell := hr.nameCell hj
          have e1 : (Int.toNat (j : Int)) = j := Int.toNat_natCast j
          rw [e1]
          generalize (l[j]!).name = nm at hcell ⊢
          have Hcell := Lib.hid hcell
          clear hcell hr e1
          have k0' : (0 : Int) ≤ (j : Int) := by omega
          have k1' : (j : Int) < (l.length : Int) := by omega
          generalize l.length = n at *
          go_enter Tryd.func18, Tryd.ntmps18
          go_wp2_with (go_at_call 30; refine Hc.out.mono ?_; rintro e w1 ⟨rfl, hb1⟩)
          have m1 := (bA.below hb1 (by simp; omega)).cell 0
          have m2 := (bN.below hb1 (by simp)).cell 0
          simp only [List.getElem?_toArray, List.getElem?_cons_zero] at m1 m2
          have hn1 := (hb1.cell (p := ⟨b, off + j * 8, none⟩) (by simp at hlt ⊢; omega)).trans Hcell.out
          have hn3 := (hb1.cell (p := ⟨b, off + q * 8 + 2, none⟩) (by simp at hlt ⊢; omega)).trans Hval.out
          go_quiet (fail)
          go_wp2
          go_ret2
          exact ⟨rfl, below_drewN (hB0.trans (hb1.mono (by simp; omega))) _⟩
    · have hidx : nameIdx l 1 number = firstIdx (nameP 1 number) l := if_neg (fun hh => hnl hh.2.1)
      unfold nameAns
      rw [hidx]
      clear hidx
      generalize firstIdx (nameP 1 number) l = k at hc hk ⊢
      have Hc := Lib.hid hc
      clear hc
      have hn3 : ¬ number ≥ -(l.length : Int) := by omega
      have hn4 : decide (-(l.length : Int) ≤ number) = false := by simpa using hnl
      rcases hk with rfl | ⟨k0, k1⟩
      · clear h
        go_enter Tryd.func18, Tryd.ntmps18
        go_wp2_with (go_at_call 30; refine Hc.out.mono ?_; rintro e w1 ⟨rfl, hb1⟩)
        have m1 := (bA.below hb1 (by simp; omega)).cell 0
        have m2 := (bN.below hb1 (by simp)).cell 0
        simp only [List.getElem?_toArray, List.getElem?_cons_zero] at m1 m2
        go_quiet (fail)
        go_wp2
        go_ret2
        exact ⟨rfl, below_drewN (hB0.trans (hb1.mono (by simp; omega))) _⟩
      · rcases h with rfl | ⟨b, off, rfl, hlt, hr⟩
        · simp at k1; omega
        obtain ⟨j, rfl⟩ := Int.eq_ofNat_of_zero_le k0
        have hj : j < l.length := by omega
        rw [if_neg (by omega)]
        have hcell := hr.nameCell hj
        have e1 : (Int.toNat (j : Int)) = j := Int.toNat_natCast j
        rw [e1]
        generalize (l[j]!).name = nm at hcell ⊢
        have Hcell := Lib.hid hcell
        clear hcell hr e1
        have k0' : (0 : Int) ≤ (j : Int) := by omega
        have k1' : (j : Int) < (l.length : Int) := by omega
        generalize l.length = n at *
        go_enter Tryd.func18, Tryd.ntmps18
        go_wp2_with (go_at_call 30; refine Hc.out.mono ?_; rintro e w1 ⟨rfl, hb1⟩)
        have m1 := (bA.below hb1 (by simp; omega)).cell 0
        have m2 := (bN.below hb1 (by simp)).cell 0
        simp only [List.getElem?_toArray, List.getElem?_cons_zero] at m1 m2
        have hn1 := (hb1.cell (p := ⟨b, off + j * 8, none⟩) (by simp at hlt ⊢; omega)).trans Hcell.out
        go_quiet (fail)
        go_wp2
        go_ret2
        exact ⟨rfl, below_drewN (hB0.trans (hb1.mono (by simp; omega))) _⟩

set_option maxRecDepth 100000 in
set_option maxHeartbeats 1000000 in
theorem name_2 (number : Int) (sv : Value) (l : List SRow) (w : World) (hbig : l.length ≤ 1000000) (hR : RowsV w sv l) :
    Calls Tryd.prog 18 #[sv, .int .i64 2, .int .i64 number] w fun e w' => e = .returned (nameAns l 2 number) ∧ Below w.heap.size w w' := by
  have hB0 : Below w.heap.size w ((w.alloc (.cells #[.int .i64 2] 3)).alloc (.cells #[.int .i64 number] 3)) := ((Below.refl _ w).alloc (Nat.le_refl _) _).alloc (by simp) _
  have hR0 := hR.below hB0
  have hc := indexFunc_any (nameP 2 number) 31 #[.pointer (some ⟨w.heap.size, 0, none⟩), .pointer (some ⟨w.heap.size + 1, 0, none⟩)] (enters_of Tryd.func31 (by kernel_rfl) rfl) sv l _
    (fun W x hb => name1_2 number w.heap.size (w.heap.size + 1) x W (((Blk.new w 3 #[.int .i64 2]).alloc (.cells #[.int .i64 number] 3)).below hb (by simp; omega)) (by
      have b2 := Blk.new (w.alloc (.cells #[.int .i64 2] 3)) 3 #[.int .i64 number]
      simp only [World.size_alloc] at b2
      exact b2.below hb (by simp))) (by omega) hR0
  have hk := firstIdx_range (nameP 2 number) l
  have bA := (Blk.new w 3 #[.int .i64 2]).alloc (.cells #[.int .i64 number] 3)
  have bN := Blk.new (w.alloc (.cells #[.int .i64 2] 3)) 3 #[.int .i64 number]
  simp only [World.size_alloc] at bN
  obtain ⟨a, c, rfl, h⟩ := hR0
  clear hR
  by_cases hn0 : 0 ≤ number
  · have hidx : nameIdx l 2 number = firstIdx (nameP 2 number) l := if_neg (by omega)
    unfold nameAns
    rw [hidx]
    clear hidx
    generalize firstIdx (nameP 2 number) l = k at hc hk ⊢
    have Hc := Lib.hid hc
    clear hc
    have hn1 : ¬ number < 0 := by omega
    have hn2 : decide (number < 0) = false := by simpa using hn0
    rcases hk with rfl | ⟨k0, k1⟩
    · clear h
      go_enter Tryd.func18, Tryd.ntmps18
      go_wp2_with (go_at_call 30; refine Hc.out.mono ?_; rintro e w1 ⟨rfl, hb1⟩)
      have m1 := (bA.below hb1 (by simp; omega)).cell 0
      have m2 := (bN.below hb1 (by simp)).cell 0
      simp only [List.getElem?_toArray, List.getElem?_cons_zero] at m1 m2
      go_quiet (fail)
      go_wp2
      go_ret2
      exact ⟨rfl, below_drewN (hB0.trans (hb1.mono (by simp; omega))) _⟩
    · rcases h with rfl | ⟨b, off, rfl, hlt, hr⟩
      · simp at k1; omega
      obtain ⟨j, rfl⟩ := Int.eq_ofNat_of_zero_le k0
      have hj : j < l.length := by omega
      rw [if_neg (by omega)]
      have hcell := hr.nameCell hj
      have e1 : (Int.toNat (j : Int)) = j := Int.toNat_natCast j
      rw [e1]
      generalize (l[j]!).name = nm at hcell ⊢
      have Hcell := Lib.hid hcell
      clear hcell hr e1
      have k0' : (0 : Int) ≤ (j : Int) := by omega
      have k1' : (j : Int) < (l.length : Int) := by omega
      generalize l.length = n at *
      go_enter Tryd.func18, Tryd.ntmps18
      go_wp2_with (go_at_call 30; refine Hc.out.mono ?_; rintro e w1 ⟨rfl, hb1⟩)
      have m1 := (bA.below hb1 (by simp; omega)).cell 0
      have m2 := (bN.below hb1 (by simp)).cell 0
      simp only [List.getElem?_toArray, List.getElem?_cons_zero] at m1 m2
      have hn1 := (hb1.cell (p := ⟨b, off + j * 8, none⟩) (by simp at hlt ⊢; omega)).trans Hcell.out
      go_quiet (fail)
      go_wp2
      go_ret2
      exact ⟨rfl, below_drewN (hB0.trans (hb1.mono (by simp; omega))) _⟩
  · have hlt0 : number < 0 := by omega
    have hn2 : decide (number < 0) = true := by simpa using hlt0
    by_cases hnl : -(l.length : Int) ≤ number
    · obtain ⟨b, off, rfl, hlt, hr⟩ : ∃ b off, a = some ⟨b, off, none⟩ ∧ b < ((w.alloc (.cells #[.int .i64 2] 3)).alloc (.cells #[.int .i64 number] 3)).heap.size ∧ RowsAt ((w.alloc (.cells #[.int .i64 2] 3)).alloc (.cells #[.int .i64 number] 3)) b off l := by
        rcases h with h | h
        · rw [h] at hnl; simp at hnl; omega
        · exact h
      clear h
      obtain ⟨q, hqi⟩ := Int.eq_ofNat_of_zero_le (show 0 ≤ -1 - number by omega)
      have hq1 : q < l.length := by omega
      have hqt : (-1 - number).toNat = q := by rw [hqi]; exact Int.toNat_natCast q
      have hval := hr q hq1 3 _ rfl
      have q0' : (0 : Int) ≤ (q : Int) := by omega
      have q1' : (q : Int) < (l.length : Int) := by omega
      by_cases hit : (l[q]!).num 2 = -1
      · have hidx : nameIdx l 2 number = (q : Int) := by
          unfold nameIdx
          rw [if_pos ⟨hlt0, hnl, by rw [hqt]; exact hit⟩, hqi]
        have hit' : (l[q]!).n2 = -1 := hit
        rw [hit'] at hval
        unfold nameAns
        rw [hidx, if_neg (by omega), show (Int.toNat (q : Int)) = q from Int.toNat_natCast q]
        have hcell := hr.nameCell hq1
        generalize (l[q]!).name = nm at hcell ⊢
        have Hcell := Lib.hid hcell
        have Hval := Lib.hid hval
        have Hc := Lib.hid hc
        clear hcell hval hit hit' hidx hr hqt hk hc
        generalize l.length = n at *
        go_enter Tryd.func18, Tryd.ntmps18
        go_wp2_with (go_at_call 30; refine Hc.out.mono ?_; rintro e w1 ⟨rfl, hb1⟩)
        have m1 := (bA.below hb1 (by simp; omega)).cell 0
        have m2 := (bN.below hb1 (by simp)).cell 0
        simp only [List.getElem?_toArray, List.getElem?_cons_zero] at m1 m2
        have hn1 := (hb1.cell (p := ⟨b, off + q * 8, none⟩) (by simp at hlt ⊢; omega)).trans Hcell.out
        have hn3 := (hb1.cell (p := ⟨b, off + q * 8 + 3, none⟩) (by simp at hlt ⊢; omega)).trans Hval.out
        go_quiet (fail)
        go_wp2
        go_ret2
        exact ⟨rfl, below_drewN (hB0.trans (hb1.mono (by simp; omega))) _⟩
      · have hidx : nameIdx l 2 number = firstIdx (nameP 2 number) l := if_neg (fun hh => hit (by rw [← hqt]; exact hh.2.2))
        have hit' : ¬ (l[q]!).n2 = -1 := hit
        unfold nameAns
        rw [hidx]
        clear hidx
        generalize firstIdx (nameP 2 number) l = k at hc hk ⊢
        generalize (l[q]!).n2 = v at hval hit'
        have hit2 : (v == -1) = false := by simpa using hit'
        have Hc := Lib.hid hc
        have Hval := Lib.hid hval
        clear hc hval hit hqt
        rcases hk with rfl | ⟨k0, k1⟩
        · clear hr
          generalize l.length = n at *
          go_enter Tryd.func18, Tryd.ntmps18
          go_wp2_with (go_at_call 30; refine Hc.out.mono ?_; rintro e w1 ⟨rfl, hb1⟩)
          have m1 := (bA.below hb1 (by simp; omega)).cell 0
          have m2 := (bN.below hb1 (by simp)).cell 0
          simp only [List.getElem?_toArray, List.getElem?_cons_zero] at m1 m2
          have hn3 := (hb1.cell (p := ⟨b, off + q * 8 + 3, none⟩) (by simp at hlt ⊢; omega)).trans Hval.out
          go_quiet (fail)
          go_wp2
          go_ret2
          exact ⟨rfl, below_drewN (hB0.trans (hb1.mono (by simp; omega))) _⟩
        · obtain ⟨j, rfl⟩ := Int.eq_ofNat_of_zero_le k0
          have hj : j < l.length := by omega
          rw [if_neg (by omega)]
          have hcell := hr.nameCell hj
          have e1 : (Int.toNat (j : Int)) = j := Int.toNat_natCast j
          rw [e1]
          generalize (l[j]!).name = nm at hcell ⊢
          have Hcell := Lib.hid hcell
          clear hcell hr e1
          have k0' : (0 : Int) ≤ (j : Int) := by omega
          have k1' : (j : Int) < (l.length : Int) := by omega
          generalize l.length = n at *
          go_enter Tryd.func18, Tryd.ntmps18
          go_wp2_with (go_at_call 30; refine Hc.out.mono ?_; rintro e w1 ⟨rfl, hb1⟩)
          have m1 := (bA.below hb1 (by simp; omega)).cell 0
          have m2 := (bN.below hb1 (by simp)).cell 0
          simp only [List.getElem?_toArray, List.getElem?_cons_zero] at m1 m2
          have hn1 := (hb1.cell (p := ⟨b, off + j * 8, none⟩) (by simp at hlt ⊢; omega)).trans Hcell.out
          have hn3 := (hb1.cell (p := ⟨b, off + q * 8 + 3, none⟩) (by simp at hlt ⊢; omega)).trans Hval.out
          go_quiet (fail)
          go_wp2
          go_ret2
          exact ⟨rfl, below_drewN (hB0.trans (hb1.mono (by simp; omega))) _⟩
    · have hidx : nameIdx l 2 number = firstIdx (nameP 2 number) l := if_neg (fun hh => hnl hh.2.1)
      unfold nameAns
      rw [hidx]
      clear hidx
      generalize firstIdx (nameP 2 number) l = k at hc hk ⊢
      have Hc := Lib.hid hc
      clear hc
      have hn3 : ¬ number ≥ -(l.length : Int) := by omega
      have hn4 : decide (-(l.length : Int) ≤ number) = false := by simpa using hnl
      rcases hk with rfl | ⟨k0, k1⟩
      · clear h
        go_enter Tryd.func18, Tryd.ntmps18
        go_wp2_with (go_at_call 30; refine Hc.out.mono ?_; rintro e w1 ⟨rfl, hb1⟩)
        have m1 := (bA.below hb1 (by simp; omega)).cell 0
        have m2 := (bN.below hb1 (by simp)).cell 0
        simp only [List.getElem?_toArray, List.getElem?_cons_zero] at m1 m2
        go_quiet (fail)
        go_wp2
        go_ret2
        exact ⟨rfl, below_drewN (hB0.trans (hb1.mono (by simp; omega))) _⟩
      · rcases h with rfl | ⟨b, off, rfl, hlt, hr⟩
        · simp at k1; omega
        obtain ⟨j, rfl⟩ := Int.eq_ofNat_of_zero_le k0
        have hj : j < l.length := by omega
        rw [if_neg (by omega)]
        have hcell := hr.nameCell hj
        have e1 : (Int.toNat (j : Int)) = j := Int.toNat_natCast j
        rw [e1]
        generalize (l[j]!).name = nm at hcell ⊢
        have Hcell := Lib.hid hcell
        clear hcell hr e1
        have k0' : (0 : Int) ≤ (j : Int) := by omega
        have k1' : (j : Int) < (l.length : Int) := by omega
        generalize l.length = n at *
        go_enter Tryd.func18, Tryd.ntmps18
        go_wp2_with (go_at_call 30; refine Hc.out.mono ?_; rintro e w1 ⟨rfl, hb1⟩)
        have m1 := (bA.below hb1 (by simp; omega)).cell 0
        have m2 := (bN.below hb1 (by simp)).cell 0
        simp only [List.getElem?_toArray, List.getElem?_cons_zero] at m1 m2
        have hn1 := (hb1.cell (p := ⟨b, off + j * 8, none⟩) (by simp at hlt ⊢; omega)).trans Hcell.out
        go_quiet (fail)
        go_wp2
        go_ret2
        exact ⟨rfl, below_drewN (hB0.trans (hb1.mono (by simp; omega))) _⟩

set_option maxRecDepth 100000 in
set_option maxHeartbeats 1000000 in
theorem name_3 (number : Int) (sv : Value) (l : List SRow) (w : World) (hbig : l.length ≤ 1000000) (hR : RowsV w sv l) :
    Calls Tryd.prog 18 #[sv, .int .i64 3, .int .i64 number] w fun e w' => e = .returned (nameAns l 3 number) ∧ Below w.heap.size w w' := by
  have hB0 : Below w.heap.size w ((w.alloc (.cells #[.int .i64 3] 3)).alloc (.cells #[.int .i64 number] 3)) := ((Below.refl _ w).alloc (Nat.le_refl _) _).alloc (by simp) _
  have hR0 := hR.below hB0
  have hc := indexFunc_any (nameP 3 number) 31 #[.pointer (some ⟨w.heap.size, 0, none⟩), .pointer (some ⟨w.heap.size + 1, 0, none⟩)] (enters_of Tryd.func31 (by kernel_rfl) rfl) sv l _
    (fun W x hb => name1_3 number w.heap.size (w.heap.size + 1) x W (((Blk.new w 3 #[.int .i64 3]).alloc (.cells #[.int .i64 number] 3)).below hb (by simp; omega)) (by
      have b2 := Blk.new (w.alloc (.cells #[.int .i64 3] 3)) 3 #[.int .i64 number]
      simp only [World.size_alloc] at b2
      exact b2.below hb (by simp))) (by omega) hR0
  have hk := firstIdx_range (nameP 3 number) l
  have bA := (Blk.new w 3 #[.int .i64 3]).alloc (.cells #[.int .i64 number] 3)
  have bN := Blk.new (w.alloc (.cells #[.int .i64 3] 3)) 3 #[.int .i64 number]
  simp only [World.size_alloc] at bN
  obtain ⟨a, c, rfl, h⟩ := hR0
  clear hR
  by_cases hn0 : 0 ≤ number
  · have hidx : nameIdx l 3 number = firstIdx (nameP 3 number) l := if_neg (by omega)
    unfold nameAns
    rw [hidx]
    clear hidx
    generalize firstIdx (nameP 3 number) l = k at hc hk ⊢
    have Hc := Lib.hid hc
    clear hc
    have hn1 : ¬ number < 0 := by omega
    have hn2 : decide (number < 0) = false := by simpa using hn0
    rcases hk with rfl | ⟨k0, k1⟩
    · clear h
      go_enter Tryd.func18, Tryd.ntmps18
      go_wp2_with (go_at_call 30; refine Hc.out.mono ?_; rintro e w1 ⟨rfl, hb1⟩)
      have m1 := (bA.below hb1 (by simp; omega)).cell 0
      have m2 := (bN.below hb1 (by simp)).cell 0
      simp only [List.getElem?_toArray, List.getElem?_cons_zero] at m1 m2
      go_quiet (fail)
      go_wp2
      go_ret2
      exact ⟨rfl, below_drewN (hB0.trans (hb1.mono (by simp; omega))) _⟩
    · rcases h with rfl | ⟨b, off, rfl, hlt, hr⟩
      · simp at k1; omega
      obtain ⟨j, rfl⟩ := Int.eq_ofNat_of_zero_le k0
      have hj : j < l.length := by omega
      rw [if_neg (by omega)]
      have hcell := hr.nameCell hj
      have e1 : (Int.toNat (j : Int)) = j := Int.toNat_natCast j
      rw [e1]
      generalize (l[j]!).name = nm at hcell ⊢
      have Hcell := Lib.hid hcell
      clear hcell hr e1
      have k0' : (0 : Int) ≤ (j : Int) := by omega
      have k1' : (j : Int) < (l.length : Int) := by omega
      generalize l.length = n at *
      go_enter Tryd.func18, Tryd.ntmps18
      go_wp2_with (go_at_call 30; refine Hc.out.mono ?_; rintro e w1 ⟨rfl, hb1⟩)
      have m1 := (bA.below hb1 (by simp; omega)).cell 0
      have m2 := (bN.below hb1 (by simp)).cell 0
      simp only [List.getElem?_toArray, List.getElem?_cons_zero] at m1 m2
      have hn1 := (hb1.cell (p := ⟨b, off + j * 8, none⟩) (by simp at hlt ⊢; omega)).trans Hcell.out
      go_quiet (fail)
      go_wp2
      go_ret2
      exact ⟨rfl, below_drewN (hB0.trans (hb1.mono (by simp; omega))) _⟩
  · have hlt0 : number < 0 := by omega
    have hn2 : decide (number < 0) = true := by simpa using hlt0
    by_cases hnl : -(l.length : Int) ≤ number
    · obtain ⟨b, off, rfl, hlt, hr⟩ : ∃ b off, a = some ⟨b, off, none⟩ ∧ b < ((w.alloc (.cells #[.int .i64 3] 3)).alloc (.cells #[.int .i64 number] 3)).heap.size ∧ RowsAt ((w.alloc (.cells #[.int .i64 3] 3)).alloc (.cells #[.int .i64 number] 3)) b off l := by
        rcases h with h | h
        · rw [h] at hnl; simp at hnl; omega
        · exact h
      clear h
      obtain ⟨q, hqi⟩ := Int.eq_ofNat_of_zero_le (show 0 ≤ -1 - number by omega)
      have hq1 : q < l.length := by omega
      have hqt : (-1 - number).toNat = q := by rw [hqi]; exact Int.toNat_natCast q
      have hval := hr q hq1 4 _ rfl
      have q0' : (0 : Int) ≤ (q : Int) := by omega
      have q1' : (q : Int) < (l.length : Int) := by omega
      by_cases hit : (l[q]!).num 3 = -1
      · have hidx : nameIdx l 3 number = (q : Int) := by
          unfold nameIdx
          rw [if_pos ⟨hlt0, hnl, by rw [hqt]; exact hit⟩, hqi]
        have hit' : (l[q]!).n3 = -1 := hit
        rw [hit'] at hval
        unfold nameAns
        rw [hidx, if_neg (by omega), show (Int.toNat (q : Int)) = q from Int.toNat_natCast q]
        have hcell := hr.nameCell hq1
        generalize (l[q]!).name = nm at hcell ⊢
        have Hcell := Lib.hid hcell
        have Hval := Lib.hid hval
        have Hc := Lib.hid hc
        clear hcell hval hit hit' hidx hr hqt hk hc
        generalize l.length = n at *
        go_enter Tryd.func18, Tryd.ntmps18
        go_wp2_with (go_at_call 30; refine Hc.out.mono ?_; rintro e w1 ⟨rfl, hb1⟩)
        have m1 := (bA.below hb1 (by simp; omega)).cell 0
        have m2 := (bN.below hb1 (by simp)).cell 0
        simp only [List.getElem?_toArray, List.getElem?_cons_zero] at m1 m2
        have hn1 := (hb1.cell (p := ⟨b, off + q * 8, none⟩) (by simp at hlt ⊢; omega)).trans Hcell.out
        have hn3 := (hb1.cell (p := ⟨b, off + q * 8 + 4, none⟩) (by simp at hlt ⊢; omega)).trans Hval.out
        go_quiet (fail)
        go_wp2
        go_ret2
        exact ⟨rfl, below_drewN (hB0.trans (hb1.mono (by simp; omega))) _⟩
      · have hidx : nameIdx l 3 number = firstIdx (nameP 3 number) l := if_neg (fun hh => hit (by rw [← hqt]; exact hh.2.2))
        have hit' : ¬ (l[q]!).n3 = -1 := hit
        unfold nameAns
        rw [hidx]
        clear hidx
        generalize firstIdx (nameP 3 number) l = k at hc hk ⊢
        generalize (l[q]!).n3 = v at hval hit'
        have hit2 : (v == -1) = false := by simpa using hit'
        have Hc := Lib.hid hc
        have Hval := Lib.hid hval
        clear hc hval hit hqt
        rcases hk with rfl | ⟨k0, k1⟩
        · clear hr
          generalize l.length = n at *
          go_enter Tryd.func18, Tryd.ntmps18
          go_wp2_with (go_at_call 30; refine Hc.out.mono ?_; rintro e w1 ⟨rfl, hb1⟩)
          have m1 := (bA.below hb1 (by simp; omega)).cell 0
          have m2 := (bN.below hb1 (by simp)).cell 0
          simp only [List.getElem?_toArray, List.getElem?_cons_zero] at m1 m2
          have hn3 := (hb1.cell (p := ⟨b, off + q * 8 + 4, none⟩) (by simp at hlt ⊢; omega)).trans Hval.out
          go_quiet (fail)
          go_wp2
          go_ret2
          exact ⟨rfl, below_drewN (hB0.trans (hb1.mono (by simp; omega))) _⟩
        · obtain ⟨j, rfl⟩ := Int.eq_ofNat_of_zero_le k0
          have hj : j < l.length := by omega
          rw [if_neg (by omega)]
          have hcell := hr.nameCell hj
          have e1 : (Int.toNat (j : Int)) = j := Int.toNat_natCast j
          rw [e1]
          generalize (l[j]!).name = nm at hcell ⊢
          have Hcell := Lib.hid hcell
          clear hcell hr e1
          have k0' : (0 : Int) ≤ (j : Int) := by omega
          have k1' : (j : Int) < (l.length : Int) := by omega
          generalize l.length = n at *
          go_enter Tryd.func18, Tryd.ntmps18
          go_wp2_with (go_at_call 30; refine Hc.out.mono ?_; rintro e w1 ⟨rfl, hb1⟩)
          have m1 := (bA.below hb1 (by simp; omega)).cell 0
          have m2 := (bN.below hb1 (by simp)).cell 0
          simp only [List.getElem?_toArray, List.getElem?_cons_zero] at m1 m2
          have hn1 := (hb1.cell (p := ⟨b, off + j * 8, none⟩) (by simp at hlt ⊢; omega)).trans Hcell.out
          have hn3 := (hb1.cell (p := ⟨b, off + q * 8 + 4, none⟩) (by simp at hlt ⊢; omega)).trans Hval.out
          go_quiet (fail)
          go_wp2
          go_ret2
          exact ⟨rfl, below_drewN (hB0.trans (hb1.mono (by simp; omega))) _⟩
    · have hidx : nameIdx l 3 number = firstIdx (nameP 3 number) l := if_neg (fun hh => hnl hh.2.1)
      unfold nameAns
      rw [hidx]
      clear hidx
      generalize firstIdx (nameP 3 number) l = k at hc hk ⊢
      have Hc := Lib.hid hc
      clear hc
      have hn3 : ¬ number ≥ -(l.length : Int) := by omega
      have hn4 : decide (-(l.length : Int) ≤ number) = false := by simpa using hnl
      rcases hk with rfl | ⟨k0, k1⟩
      · clear h
        go_enter Tryd.func18, Tryd.ntmps18
        go_wp2_with (go_at_call 30; refine Hc.out.mono ?_; rintro e w1 ⟨rfl, hb1⟩)
        have m1 := (bA.below hb1 (by simp; omega)).cell 0
        have m2 := (bN.below hb1 (by simp)).cell 0
        simp only [List.getElem?_toArray, List.getElem?_cons_zero] at m1 m2
        go_quiet (fail)
        go_wp2
        go_ret2
        exact ⟨rfl, below_drewN (hB0.trans (hb1.mono (by simp; omega))) _⟩
      · rcases h with rfl | ⟨b, off, rfl, hlt, hr⟩
        · simp at k1; omega
        obtain ⟨j, rfl⟩ := Int.eq_ofNat_of_zero_le k0
        have hj : j < l.length := by omega
        rw [if_neg (by omega)]
        have hcell := hr.nameCell hj
        have e1 : (Int.toNat (j : Int)) = j := Int.toNat_natCast j
        rw [e1]
        generalize (l[j]!).name = nm at hcell ⊢
        have Hcell := Lib.hid hcell
        clear hcell hr e1
        have k0' : (0 : Int) ≤ (j : Int) := by omega
        have k1' : (j : Int) < (l.length : Int) := by omega
        generalize l.length = n at *
        go_enter Tryd.func18, Tryd.ntmps18
        go_wp2_with (go_at_call 30; refine Hc.out.mono ?_; rintro e w1 ⟨rfl, hb1⟩)
        have m1 := (bA.below hb1 (by simp; omega)).cell 0
        have m2 := (bN.below hb1 (by simp)).cell 0
        simp only [List.getElem?_toArray, List.getElem?_cons_zero] at m1 m2
        have hn1 := (hb1.cell (p := ⟨b, off + j * 8, none⟩) (by simp at hlt ⊢; omega)).trans Hcell.out
        go_quiet (fail)
        go_wp2
        go_ret2
        exact ⟨rfl, below_drewN (hB0.trans (hb1.mono (by simp; omega))) _⟩

set_option maxRecDepth 100000 in
set_option maxHeartbeats 1000000 in
theorem name_4 (number : Int) (sv : Value) (l : List SRow) (w : World) (hbig : l.length ≤ 1000000) (hR : RowsV w sv l) :
    Calls Tryd.prog 18 #[sv, .int .i64 4, .int .i64 number] w fun e w' => e = .returned (nameAns l 4 number) ∧ Below w.heap.size w w' := by
  have hB0 : Below w.heap.size w ((w.alloc (.cells #[.int .i64 4] 3)).alloc (.cells #[.int .i64 number] 3)) := ((Below.refl _ w).alloc (Nat.le_refl _) _).alloc (by simp) _
  have hR0 := hR.below hB0
  have hc := indexFunc_any (nameP 4 number) 31 #[.pointer (some ⟨w.heap.size, 0, none⟩), .pointer (some ⟨w.heap.size + 1, 0, none⟩)] (enters_of Tryd.func31 (by kernel_rfl) rfl) sv l _
    (fun W x hb => name1_4 number w.heap.size (w.heap.size + 1) x W (((Blk.new w 3 #[.int .i64 4]).alloc (.cells #[.int .i64 number] 3)).below hb (by simp; omega)) (by
      have b2 := Blk.new (w.alloc (.cells #[.int .i64 4] 3)) 3 #[.int .i64 number]
      simp only [World.size_alloc] at b2
      exact b2.below hb (by simp))) (by omega) hR0
  have hk := firstIdx_range (nameP 4 number) l
  have bA := (Blk.new w 3 #[.int .i64 4]).alloc (.cells #[.int .i64 number] 3)
  have bN := Blk.new (w.alloc (.cells #[.int .i64 4] 3)) 3 #[.int .i64 number]
  simp only [World.size_alloc] at bN
  obtain ⟨a, c, rfl, h⟩ := hR0
  clear hR
  by_cases hn0 : 0 ≤ number
  · have hidx : nameIdx l 4 number = firstIdx (nameP 4 number) l := if_neg (by omega)
    unfold nameAns
    rw [hidx]
    clear hidx
    generalize firstIdx (nameP 4 number) l = k at hc hk ⊢
    have Hc := Lib.hid hc
    clear hc
    have hn1 : ¬ number < 0 := by omega
    have hn2 : decide (number < 0) = false := by simpa using hn0
    rcases hk with rfl | ⟨k0, k1⟩
    · clear h
      go_enter Tryd.func18, Tryd.ntmps18
      go_wp2_with (go_at_call 30; refine Hc.out.mono ?_; rintro e w1 ⟨rfl, hb1⟩)
      have m1 := (bA.below hb1 (by simp; omega)).cell 0
      have m2 := (bN.below hb1 (by simp)).cell 0
      simp only [List.getElem?_toArray, List.getElem?_cons_zero] at m1 m2
      go_quiet (fail)
      go_wp2
      go_ret2
      exact ⟨rfl, below_drewN (hB0.trans (hb1.mono (by simp; omega))) _⟩
    · rcases h with rfl | ⟨b, off, rfl, hlt, hr⟩
      · simp at k1; omega
      obtain ⟨j, rfl⟩ := Int.eq_ofNat_of_zero_le k0
      have hj : j < l.length := by omega
      rw [if_neg (by omega)]
      have hcell := hr.nameCell hj
      have e1 : (Int.toNat (j : Int)) = j := Int.toNat_natCast j
      rw [e1]
      generalize (l[j]!).name = nm at hcell ⊢
      have Hcell := Lib.hid hcell
      clear hcell hr e1
      have k0' : (0 : Int) ≤ (j : Int) := by omega
      have k1' : (j : Int) < (l.length : Int) := by omega
      generalize l.length = n at *
      go_enter Tryd.func18, Tryd.ntmps18
      go_wp2_with (go_at_call 30; refine Hc.out.mono ?_; rintro e w1 ⟨rfl, hb1⟩)
      have m1 := (bA.below hb1 (by simp; omega)).cell 0
      have m2 := (bN.below hb1 (by simp)).cell 0
      simp only [List.getElem?_toArray, List.getElem?_cons_zero] at m1 m2
      have hn1 := (hb1.cell (p := ⟨b, off + j * 8, none⟩) (by simp at hlt ⊢; omega)).trans Hcell.out
      go_quiet (fail)
      go_wp2
      go_ret2
      exact ⟨rfl, below_drewN (hB0.trans (hb1.mono (by simp; omega))) _⟩
  · have hlt0 : number < 0 := by omega
    have hn2 : decide (number < 0) = true := by simpa using hlt0
    by_cases hnl : -(l.length : Int) ≤ number
    · obtain ⟨b, off, rfl, hlt, hr⟩ : ∃ b off, a = some ⟨b, off, none⟩ ∧ b < ((w.alloc (.cells #[.int .i64 4] 3)).alloc (.cells #[.int .i64 number] 3)).heap.size ∧ RowsAt ((w.alloc (.cells #[.int .i64 4] 3)).alloc (.cells #[.int .i64 number] 3)) b off l := by
        rcases h with h | h
        · rw [h] at hnl; simp at hnl; omega
        · exact h
      clear h
      obtain ⟨q, hqi⟩ := Int.eq_ofNat_of_zero_le (show 0 ≤ -1 - number by omega)
      have hq1 : q < l.length := by omega
      have hqt : (-1 - number).toNat = q := by rw [hqi]; exact Int.toNat_natCast q
      have hval := hr q hq1 5 _ rfl
      have q0' : (0 : Int) ≤ (q : Int) := by omega
      have q1' : (q : Int) < (l.length : Int) := by omega
      by_cases hit : (l[q]!).num 4 = -1
      · have hidx : nameIdx l 4 number = (q : Int) := by
          unfold nameIdx
          rw [if_pos ⟨hlt0, hnl, by rw [hqt]; exact hit⟩, hqi]
        have hit' : (l[q]!).n4 = -1 := hit
        rw [hit'] at hval
        unfold nameAns
        rw [hidx, if_neg (by omega), show (Int.toNat (q : Int)) = q from Int.toNat_natCast q]
        have hcell := hr.nameCell hq1
        generalize (l[q]!).name = nm at hcell ⊢
        have Hcell := Lib.hid hcell
        have Hval := Lib.hid hval
        have Hc := Lib.hid hc
        clear hcell hval hit hit' hidx hr hqt hk hc
        generalize l.length = n at *
        go_enter Tryd.func18, Tryd.ntmps18
        go_wp2_with (go_at_call 30; refine Hc.out.mono ?_; rintro e w1 ⟨rfl, hb1⟩)
        have m1 := (bA.below hb1 (by simp; omega)).cell 0
        have m2 := (bN.below hb1 (by simp)).cell 0
        simp only [List.getElem?_toArray, List.getElem?_cons_zero] at m1 m2
        have hn1 := (hb1.cell (p := ⟨b, off + q * 8, none⟩) (by simp at hlt ⊢; omega)).trans Hcell.out
        have hn3 := (hb1.cell (p := ⟨b, off + q * 8 + 5, none⟩) (by simp at hlt ⊢; omega)).trans Hval.out
        go_quiet (fail)
        go_wp2
        go_ret2
        exact ⟨rfl, below_drewN (hB0.trans (hb1.mono (by simp; omega))) _⟩
      · have hidx : nameIdx l 4 number = firstIdx (nameP 4 number) l := if_neg (fun hh => hit (by rw [← hqt]; exact hh.2.2))
        have hit' : ¬ (l[q]!).n4 = -1 := hit
        unfold nameAns
        rw [hidx]
        clear hidx
        generalize firstIdx (nameP 4 number) l = k at hc hk ⊢
        generalize (l[q]!).n4 = v at hval hit'
        have hit2 : (v == -1) = false := by simpa using hit'
        have Hc := Lib.hid hc
        have Hval := Lib.hid hval
        clear hc hval hit hqt
        rcases hk with rfl | ⟨k0, k1⟩
        · clear hr
          generalize l.length = n at *
          go_enter Tryd.func18, Tryd.ntmps18
          go_wp2_with (go_at_call 30; refine Hc.out.mono ?_; rintro e w1 ⟨rfl, hb1⟩)
          have m1 := (bA.below hb1 (by simp; omega)).cell 0
          have m2 := (bN.below hb1 (by simp)).cell 0
          simp only [List.getElem?_toArray, List.getElem?_cons_zero] at m1 m2
          have hn3 := (hb1.cell (p := ⟨b, off + q * 8 + 5, none⟩) (by simp at hlt ⊢; omega)).trans Hval.out
          go_quiet (fail)
          go_wp2
          go_ret2
          exact ⟨rfl, below_drewN (hB0.trans (hb1.mono (by simp; omega))) _⟩
        · obtain ⟨j, rfl⟩ := Int.eq_ofNat_of_zero_le k0
          have hj : j < l.length := by omega
          rw [if_neg (by omega)]
          have hcell := hr.nameCell hj
          have e1 : (Int.toNat (j : Int)) = j := Int.toNat_natCast j
          rw [e1]
          generalize (l[j]!).name = nm at hcell ⊢
          have Hcell := Lib.hid hcell
          clear hcell hr e1
          have k0' : (0 : Int) ≤ (j : Int) := by omega
          have k1' : (j : Int) < (l.length : Int) := by omega
          generalize l.length = n at *
          go_enter Tryd.func18, Tryd.ntmps18
          go_wp2_with (go_at_call 30; refine Hc.out.mono ?_; rintro e w1 ⟨rfl, hb1⟩)
          have m1 := (bA.below hb1 (by simp; omega)).cell 0
          have m2 := (bN.below hb1 (by simp)).cell 0
          simp only [List.getElem?_toArray, List.getElem?_cons_zero] at m1 m2
          have hn1 := (hb1.cell (p := ⟨b, off + j * 8, none⟩) (by simp at hlt ⊢; omega)).trans Hcell.out
          have hn3 := (hb1.cell (p := ⟨b, off + q * 8 + 5, none⟩) (by simp at hlt ⊢; omega)).trans Hval.out
          go_quiet (fail)
          go_wp2
          go_ret2
          exact ⟨rfl, below_drewN (hB0.trans (hb1.mono (by simp; omega))) _⟩
    · have hidx : nameIdx l 4 number = firstIdx (nameP 4 number) l := if_neg (fun hh => hnl hh.2.1)
      unfold nameAns
      rw [hidx]
      clear hidx
      generalize firstIdx (nameP 4 number) l = k at hc hk ⊢
      have Hc := Lib.hid hc
      clear hc
      have hn3 : ¬ number ≥ -(l.length : Int) := by omega
      have hn4 : decide (-(l.length : Int) ≤ number) = false := by simpa using hnl
      rcases hk with rfl | ⟨k0, k1⟩
      · clear h
        go_enter Tryd.func18, Tryd.ntmps18
        go_wp2_with (go_at_call 30; refine Hc.out.mono ?_; rintro e w1 ⟨rfl, hb1⟩)
        have m1 := (bA.below hb1 (by simp; omega)).cell 0
        have m2 := (bN.below hb1 (by simp)).cell 0
        simp only [List.getElem?_toArray, List.getElem?_cons_zero] at m1 m2
        go_quiet (fail)
        go_wp2
        go_ret2
        exact ⟨rfl, below_drewN (hB0.trans (hb1.mono (by simp; omega))) _⟩
      · rcases h with rfl | ⟨b, off, rfl, hlt, hr⟩
        · simp at k1; omega
        obtain ⟨j, rfl⟩ := Int.eq_ofNat_of_zero_le k0
        have hj : j < l.length := by omega
        rw [if_neg (by omega)]
        have hcell := hr.nameCell hj
        have e1 : (Int.toNat (j : Int)) = j := Int.toNat_natCast j
        rw [e1]
        generalize (l[j]!).name = nm at hcell ⊢
        have Hcell := Lib.hid hcell
        clear hcell hr e1
        have k0' : (0 : Int) ≤ (j : Int) := by omega
        have k1' : (j : Int) < (l.length : Int) := by omega
        generalize l.length = n at *
        go_enter Tryd.func18, Tryd.ntmps18
        go_wp2_with (go_at_call 30; refine Hc.out.mono ?_; rintro e w1 ⟨rfl, hb1⟩)
        have m1 := (bA.below hb1 (by simp; omega)).cell 0
        have m2 := (bN.below hb1 (by simp)).cell 0
        simp only [List.getElem?_toArray, List.getElem?_cons_zero] at m1 m2
        have hn1 := (hb1.cell (p := ⟨b, off + j * 8, none⟩) (by simp at hlt ⊢; omega)).trans Hcell.out
        go_quiet (fail)
        go_wp2
        go_ret2
        exact ⟨rfl, below_drewN (hB0.trans (hb1.mono (by simp; omega))) _⟩

/-- Outside the ABIs there is no name. -/
theorem name_out (sv : Value) (a number : Int) (ha : a < 0 ∨ 5 ≤ a) (w : World) :
    Calls Tryd.prog 18 #[sv, .int .i64 a, .int .i64 number] w fun e w' => e = .returned (.tuple #[.string ⟨#[]⟩, .int .i64 16]) ∧ Below w.heap.size w w' := by
  rcases ha with h | h
  · go_enter Tryd.func18, Tryd.ntmps18
    go_wp2
    go_ret2
    exact ⟨rfl, ((Below.refl _ w).alloc (Nat.le_refl _) _).alloc (by simp) _⟩
  · have h0 : ¬ a < 0 := by omega
    go_enter Tryd.func18, Tryd.ntmps18
    go_wp2
    go_ret2
    exact ⟨rfl, ((Below.refl _ w).alloc (Nat.le_refl _) _).alloc (by simp) _⟩

theorem name_any (sv : Value) (l : List SRow) (a : Nat) (ha : a < 5) (number : Int) (w : World) (hbig : l.length ≤ 1000000) (hR : RowsV w sv l) :
    Calls Tryd.prog 18 #[sv, .int .i64 a, .int .i64 number] w fun e w' => e = .returned (nameAns l a number) ∧ Below w.heap.size w w' := by
  rcases a with _ | _ | _ | _ | _ | a
  · exact name_0 number sv l w hbig hR
  · exact name_1 number sv l w hbig hR
  · exact name_2 number sv l w hbig hR
  · exact name_3 number sv l w hbig hR
  · exact name_4 number sv l w hbig hR
  · omega

end Go.Proofs.YtakmbmlpgmppiaaDoor
