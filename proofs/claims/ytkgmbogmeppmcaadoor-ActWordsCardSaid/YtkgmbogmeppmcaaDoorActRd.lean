/- act.Read: the kind that a word names; strconv.Atoi at plain digits. -/
import Derived.Test.YtkgmbogmeppmcaaDoorActPlain
import Derived.Test.YtkgmbogmeppmcaaDoorShelfB
import Derived.Shelf.Strconv.Atoi
namespace Go.Proofs.YtkgmbogmeppmcaaDoor
open Go Go.Proofs Go.RowKit

theorem atoi_ref {s : ByteArray} {n : Nat} (h : refNum s = some n) : Lib.atoi s.data.toList = some (n : Int) ∧ s.size ≤ 9 := by
  unfold refNum at h
  split at h
  · cases h
  · rename_i hc
    have h0 : ¬ s.size = 0 := fun e => hc (.inl e)
    have h9 : ¬ 9 < s.size := fun e => hc (.inr (.inl e))
    refine ⟨?_, by omega⟩
    cases hd : s.data.toList with
    | nil =>
      have : s.data.toList.length = 0 := by rw [hd]; rfl
      rw [Array.length_toList] at this
      exact absurd this h0
    | cons b r =>
      rw [hd] at h
      have hb : (Lib.digitVal b).isSome = true := (dig_ok b).1 (decFrom_some (by rw [h]; rfl) b (by simp))
      have hr : 48 ≤ b.toNat := by
        unfold Lib.digitVal at hb
        split at hb
        · rename_i h'; exact h'.1
        · cases hb
      have n1 : (b == 45) = false := by
        rw [beq_eq_false_iff_ne]; intro e; rw [e] at hr; exact absurd hr (by decide)
      have n2 : (b == 43) = false := by
        rw [beq_eq_false_iff_ne]; intro e; rw [e] at hr; exact absurd hr (by decide)
      unfold Lib.atoi Lib.decNat
      simp only [n1, n2, List.isEmpty_cons]
      simp [h]
theorem atoi_any (s : ByteArray) (n : Nat) (h : refNum s = some n) (w : World) : Calls Tryd.prog 49 #[.string s] w fun e w' => e = .returned (.tuple #[.int .i64 (n : Int), .nilIface]) ∧ Below w.heap.size w w' := by
  obtain ⟨h1, h2⟩ := atoi_ref h
  refine (Any.strconv_Atoi Tryd.lays172 s (n : Int) (by omega) h1 w).mono ?_
  rintro e w' ⟨rfl, t, rfl⟩
  exact ⟨rfl, Go.Joins.below_bytesWorld _ w _ t (Nat.le_refl _)⟩

/-- Does word s name the kind behind number j? -/
def wordB (s : ByteArray) (j : Nat) : Bool := (actWord (j + 1)).toList == s.toList
set_option maxRecDepth 100000 in
set_option maxHeartbeats 1000000 in
theorem read1_any (s : ByteArray) (k : Int) (B b off n c : Nat) (mv : Value) (w : World) (hn : 0 < n) (hB : Blk w B 52 #[.slice (some ⟨b, off, none⟩) n c]) (h0 : w.cell? ⟨b, off, none⟩ = some (.string s)) :
    Calls Tryd.prog 47 #[.agg #[.string (actWord k), .int .u32 (actCode k), mv], .pointer (some ⟨B, 0, none⟩)] w fun e w' => e = .returned (.bool ((actWord k).toList == s.toList)) ∧ Below w.heap.size w w' := by
  have hbx := Blk.new w 64 #[.string (actWord k), .int .u32 (actCode k), mv]
  have x0 := hbx.cell 0
  have y0 := (hB.alloc (.cells #[.string (actWord k), .int .u32 (actCode k), mv] 64)).cell 0
  have hb0 := (Below.refl w.heap.size w).alloc (Nat.le_refl _) (.cells #[.string (actWord k), .int .u32 (actCode k), mv] 64)
  have z0 := cellLater hb0 h0
  simp only [List.getElem?_toArray, List.getElem?_cons_zero] at x0 y0
  have hnz : (0 : Int) < (n : Int) := by omega
  have HB0 := Lib.hid hb0
  clear hbx hB hb0 h0
  go_enter Tryd.func47, Tryd.ntmps47
  go_wp2
  go_quiet (fail)
  go_wp2
  go_ret
  exact ⟨rfl, below_drewN HB0.out _⟩
end Go.Proofs.YtkgmbogmeppmcaaDoor
