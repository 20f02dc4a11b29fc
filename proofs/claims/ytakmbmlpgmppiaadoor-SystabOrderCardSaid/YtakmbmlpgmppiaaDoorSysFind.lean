/- systab.Sub and systab.Find: what they answer. -/
import Derived.Test.YtakmbmlpgmppiaaDoorSysRows
import Derived.Lib.Bytealg
namespace Go.Proofs.YtakmbmlpgmppiaaDoor
open Go Go.Proofs Go.RowKit

def subP (mux sub : Int) (r : SRow) : Bool := r.mux == mux && r.sub == sub && mux != 0

set_option maxRecDepth 100000 in
set_option maxHeartbeats 1000000 in
theorem sub1_any (mux sub : Int) (B1 B2 : Nat) (r : SRow) (w : World) (h1 : Blk w B1 3 #[.int .i64 mux]) (h2 : Blk w B2 3 #[.int .i64 sub]) :
    Calls Tryd.prog 32 #[.agg #[.string r.name, .int .i64 r.n0, .int .i64 r.n1, .int .i64 r.n2, .int .i64 r.n3, .int .i64 r.n4, .int .i64 r.mux, .int .i64 r.sub], .pointer (some ⟨B1, 0, none⟩), .pointer (some ⟨B2, 0, none⟩)] w
      fun e w' => e = .returned (.bool (subP mux sub r)) ∧ Below w.heap.size w w' := by
  obtain ⟨nm, a0, a1, a2, a3, a4, mx, sb⟩ := r
  dsimp only
  by_cases hm : mx = mux
  · subst hm
    by_cases hs : sb = sub
    · subst hs
      by_cases hz : mx = 0
      · subst hz
        have k1 := (h1.alloc (.cells #[.string nm, .int .i64 a0, .int .i64 a1, .int .i64 a2, .int .i64 a3, .int .i64 a4, .int .i64 0, .int .i64 sb] 36)).cell 0
        have k2 := (h2.alloc (.cells #[.string nm, .int .i64 a0, .int .i64 a1, .int .i64 a2, .int .i64 a3, .int .i64 a4, .int .i64 0, .int .i64 sb] 36)).cell 0
        simp only [List.getElem?_toArray, List.getElem?_cons_zero] at k1 k2
        clear h1 h2
        go_enter Tryd.func32, Tryd.ntmps32
        go_wp2
        go_ret
        exact ⟨retB (by simp [subP, *]), (Below.refl _ w).alloc (Nat.le_refl _) _⟩
      · have hz' : (mx != 0) = true := by simpa using hz
        have k1 := (h1.alloc (.cells #[.string nm, .int .i64 a0, .int .i64 a1, .int .i64 a2, .int .i64 a3, .int .i64 a4, .int .i64 mx, .int .i64 sb] 36)).cell 0
        have k2 := (h2.alloc (.cells #[.string nm, .int .i64 a0, .int .i64 a1, .int .i64 a2, .int .i64 a3, .int .i64 a4, .int .i64 mx, .int .i64 sb] 36)).cell 0
        simp only [List.getElem?_toArray, List.getElem?_cons_zero] at k1 k2
        clear h1 h2
        go_enter Tryd.func32, Tryd.ntmps32
        go_wp2
        go_ret
        exact ⟨retB (by simp [subP, *]), (Below.refl _ w).alloc (Nat.le_refl _) _⟩
    · have hs' : (sb == sub) = false := by simpa using hs
      have k1 := (h1.alloc (.cells #[.string nm, .int .i64 a0, .int .i64 a1, .int .i64 a2, .int .i64 a3, .int .i64 a4, .int .i64 mx, .int .i64 sb] 36)).cell 0
      have k2 := (h2.alloc (.cells #[.string nm, .int .i64 a0, .int .i64 a1, .int .i64 a2, .int .i64 a3, .int .i64 a4, .int .i64 mx, .int .i64 sb] 36)).cell 0
      simp only [List.getElem?_toArray, List.getElem?_cons_zero] at k1 k2
      clear h1 h2
      go_enter Tryd.func32, Tryd.ntmps32
      go_wp2
      go_ret
      exact ⟨retB (by simp [subP, *]), (Below.refl _ w).alloc (Nat.le_refl _) _⟩
  · have hm' : (mx == mux) = false := by simpa using hm
    have k1 := (h1.alloc (.cells #[.string nm, .int .i64 a0, .int .i64 a1, .int .i64 a2, .int .i64 a3, .int .i64 a4, .int .i64 mx, .int .i64 sb] 36)).cell 0
    have k2 := (h2.alloc (.cells #[.string nm, .int .i64 a0, .int .i64 a1, .int .i64 a2, .int .i64 a3, .int .i64 a4, .int .i64 mx, .int .i64 sb] 36)).cell 0
    simp only [List.getElem?_toArray, List.getElem?_cons_zero] at k1 k2
    clear h1 h2
    go_enter Tryd.func32, Tryd.ntmps32
    go_wp2
    go_ret
    exact ⟨retB (by simp [subP, *]), (Below.refl _ w).alloc (Nat.le_refl _) _⟩

/-- What Sub answers. -/
def subAns (mux sub : Int) (l : List SRow) : Value :=
  if firstIdx (subP mux sub) l < 0 then .tuple #[.string ⟨#[]⟩, .bool false] else .tuple #[.string (l[(firstIdx (subP mux sub) l).toNat]!).name, .bool true]

theorem firstIdx_range (p : SRow → Bool) : ∀ (l : List SRow), firstIdx p l = -1 ∨ (0 ≤ firstIdx p l ∧ firstIdx p l < l.length)
  | [] => .inl rfl
  | x :: r => by
    have ih := firstIdx_range p r
    simp only [firstIdx, List.length_cons]
    split
    · right; omega
    · split
      · left; rfl
      · right; omega

theorem RowsAt.nameCell {W : World} {b off : Nat} {l : List SRow} (h : RowsAt W b off l) {j : Nat} (hj : j < l.length) : W.cell? ⟨b, off + j * 8, none⟩ = some (.string (l[j]!).name) := by
  have := h j hj 0 _ rfl
  simpa using this

set_option maxRecDepth 100000 in
set_option maxHeartbeats 1000000 in
theorem sub_any (mux sub : Int) (sv : Value) (l : List SRow) (w : World) (hbig : l.length ≤ 1000000) (hR : RowsV w sv l) :
    Calls Tryd.prog 19 #[sv, .int .i64 mux, .int .i64 sub] w fun e w' => e = .returned (subAns mux sub l) ∧ Below w.heap.size w w' := by
  have hB0 : Below w.heap.size w ((w.alloc (.cells #[.int .i64 mux] 3)).alloc (.cells #[.int .i64 sub] 3)) := ((Below.refl _ w).alloc (Nat.le_refl _) _).alloc (by simp) _
  have hR0 := hR.below hB0
  have hc := indexFunc_any (subP mux sub) 32 #[.pointer (some ⟨w.heap.size, 0, none⟩), .pointer (some ⟨w.heap.size + 1, 0, none⟩)] (enters_of Tryd.func32 (by kernel_rfl) rfl) sv l _
    (fun W x hb => sub1_any mux sub w.heap.size (w.heap.size + 1) x W (((Blk.new w 3 #[.int .i64 mux]).alloc (.cells #[.int .i64 sub] 3)).below hb (by simp; omega)) (by
      have b2 := Blk.new (w.alloc (.cells #[.int .i64 mux] 3)) 3 #[.int .i64 sub]
      simp only [World.size_alloc] at b2
      exact b2.below hb (by simp))) (by omega) hR0
  have hk := firstIdx_range (subP mux sub) l
  unfold subAns
  generalize firstIdx (subP mux sub) l = k at hc hk
  obtain ⟨a, c, rfl, h⟩ := hR
  have Hc := Lib.hid hc
  clear hc hR0
  rcases hk with rfl | ⟨k0, k1⟩
  · clear h
    go_enter Tryd.func19, Tryd.ntmps19
    go_wp2_with (go_at_call 30; refine Hc.out.mono ?_; rintro e w1 ⟨rfl, hb1⟩)
    go_ret2
    exact ⟨rfl, hB0.trans (hb1.mono (by simp; omega))⟩
  · rcases h with rfl | ⟨b, off, rfl, hlt, hr⟩
    · simp at k1; omega
    obtain ⟨j, rfl⟩ := Int.eq_ofNat_of_zero_le k0
    have hj : j < l.length := by omega
    rw [if_neg (by omega)]
    have hcell := (hr.below hB0 hlt).nameCell hj
    have e1 : (Int.toNat (j : Int)) = j := Int.toNat_natCast j
    rw [e1]
    generalize (l[j]!).name = nm at hcell
    have Hcell := Lib.hid hcell
    clear hcell hr e1
    have k0' : (0 : Int) ≤ (j : Int) := by omega
    have k1' : (j : Int) < (l.length : Int) := by omega
    generalize l.length = n at *
    go_enter Tryd.func19, Tryd.ntmps19
    go_wp2_with (go_at_call 30; refine Hc.out.mono ?_; rintro e w1 ⟨rfl, hb1⟩; have hn1 := (hb1.cell (p := ⟨b, off + j * 8, none⟩) (by simp; omega)).trans Hcell.out)
    go_ret2
    exact ⟨rfl, hB0.trans (hb1.mono (by simp; omega))⟩
end Go.Proofs.YtakmbmlpgmppiaaDoor
