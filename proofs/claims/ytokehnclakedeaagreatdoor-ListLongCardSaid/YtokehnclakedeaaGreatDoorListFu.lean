/- strconv.FormatUint at base 10. -/
import Derived.Test.YtokehnclakedeaaGreatDoorShelf
import Derived.Test.YtokehnclakedeaaGreatDoorBlk
import Derived.Lib.ItoaLen
import Derived.Lib.ItoaNum
import Derived.Lib.Hide
import Derived.Shelf.Strconv.Itoa3
import Derived.Lib.AppendIntMem
import Derived.Lib.SmallJoins
import Derived.Lib.QuietBelow
import Derived.Deep.Cut
import Derived.WalkKit
namespace Go.Proofs.YtokehnclakedeaaGreatDoor
open Go Go.Proofs Go.RowKit Go.Sort Go.Shelf

def decS (n : Nat) : ByteArray := ⟨(Lib.decDigits n).toArray⟩
/-- The library's table lies as it should. -/
def Pow10 (W : World) : Prop := Lib.TabIs Tryz.prog W "internal/strconv.uint64pow10" .u64 Lib.pow10Tab
theorem Pow10.below {W W' : World} (h : Pow10 W) (hb : Below W.heap.size W W') : Pow10 W' := by
  cases hg : Tryz.prog.globalNamed "internal/strconv.uint64pow10" with
  | none => unfold Pow10 Lib.TabIs World.var? at h; rw [hg] at h; cases h
  | some g => exact Go.Joins.tab_stays hg h hb (Nat.le_refl _)

set_option maxHeartbeats 6400000 in
set_option maxRecDepth 100000 in
theorem ifu_big (u : Nat) (hu : 100 ≤ u) (hu64 : u < 18446744073709551616) (w : World) (htab : Pow10 w) :
    Calls Tryz.prog 55 #[.int .u64 (u : Int), .int .i64 10] w fun e w' => e = .returned (.string (decS u)) ∧ Below w.heap.size w w' := by
  have hu1 : 1 ≤ u := by omega
  have hnd20 : Lib.nDigits u ≤ 20 := by have := Lib.numDigits_eq u hu1 hu64; split at this <;> omega
  have hal : Tryz.prog.arrayLen 118 = 24 := by simp [Program.arrayLen, Tryz.underlying118]
  have hsl : ∀ W, (Instr.sliceAt 118 (.pointer (some ⟨w.heap.size, 0, none⟩)) none (some (.int .i64 (Lib.nDigits u : Int))) none).run Tryz.prog W = .ok (.slice (some ⟨w.heap.size, 0, none⟩) (Lib.nDigits u) 24) W := fun W => by
    rw [run_sliceAt_array_h W 118 ⟨w.heap.size, 0, none⟩ (by simp [Program.arrayLen, Program.elem, Tryz.underlying118]) .i64 (Lib.nDigits u : Int) (by omega) (by rw [hal]; omega)]
    go_simp
  have hH0 := Lib.holds_zero0 w 118 (Lib.nDigits u) (by omega)
  have hfmt := Any.internal_strconv_formatBase10 Tryz.lays285 w.heap.size 0 24 u (Array.replicate (Lib.nDigits u) 0) (w.alloc (.cells Lib.zeros24 118)) hH0 (by rw [Array.size_replicate]; exact Lib.lt_pow_nDigits u) hu64 (by rw [Array.size_replicate]; omega)
  rw [Array.size_replicate] at hfmt
  have hnum := Any.internal_strconv_numDigits Tryz.laysm284 u hu1 hu64 _ (Lib.tabIs_alloc htab (.cells Lib.zeros24 118))
  have HH0 := Lib.hid hH0
  have HN := Lib.hid hnum
  have HF := Lib.hid hfmt
  have iu : (100 : Int) ≤ (u : Int) := by omega
  clear hH0 hal hnum hfmt htab hu64
  go_enter Tryz.func55, Tryz.ntmps55
  go_wp2_with fail
  refine HN.out.mono ?_
  rintro e w' ⟨rfl, rfl⟩
  go_wp2_with fail
  refine HF.out.mono ?_
  rintro e w' ⟨rfl, k, v', dk, rfl, hF⟩
  have hcv : (convert 41 9 (.slice (some ⟨w.heap.size, 0, none⟩) (Lib.nDigits u) 24)).run Tryz.prog ((putRow (fun (b : UInt8) => Value.int .u8 (b.toNat : Int)) (w.alloc (.cells Lib.zeros24 118)) w.heap.size 0 dk).drewN k) = .ok (.string ⟨(Lib.decDigits u).toArray⟩) ((putRow (fun (b : UInt8) => Value.int .u8 (b.toNat : Int)) (w.alloc (.cells Lib.zeros24 118)) w.heap.size 0 dk).drewN k) := by
    have h := run_convert_bytes_back (P := Tryz.prog) ((putRow (fun (b : UInt8) => Value.int .u8 (b.toNat : Int)) (w.alloc (.cells Lib.zeros24 118)) w.heap.size 0 dk).drewN k) 41 9 5 ⟨w.heap.size, 0, none⟩ 24 (Lib.decDigits u) Tryz.underlying41 Tryz.underlying5 Tryz.underlying9 (fun j hj => by
      rw [Lib.row_is_numeral hF j hj, Lib.add_plain, World.cell?_drewN]
      exact cell?_putRow (fun (b : UInt8) => Value.int .u8 (b.toNat : Int)) _ w.heap.size 0 _ dk HH0.out (by rw [hF.size, Array.size_replicate]) j (by rw [hF.size]; rw [Lib.decDigits_length] at hj; exact hj))
    rw [Lib.decDigits_length] at h
    exact h
  obtain ⟨os, eo⟩ := Lib.fin_at w (.cells Lib.zeros24 118) dk k 0
  have hnx2 : Below w.heap.size w ((putRow (fun (b : UInt8) => Value.int .u8 (b.toNat : Int)) (w.alloc (.cells Lib.zeros24 118)) w.heap.size 0 dk).drewN k) := by rw [eo]; exact Lib.below_grow _ w (Nat.le_refl _) k os
  have HX := Lib.hid hnx2
  clear eo HH0 hF hnx2 HN HF
  generalize (putRow (fun (b : UInt8) => Value.int .u8 (b.toNat : Int)) (w.alloc (.cells Lib.zeros24 118)) w.heap.size 0 dk).drewN k = W2 at *
  go_wp2
  go_ret
  exact ⟨rfl, HX.out⟩
set_option maxHeartbeats 1000000 in
set_option maxRecDepth 100000 in
theorem ifu_small (u : Nat) (hu : u < 100) (w : World) :
    Calls Tryz.prog 55 #[.int .u64 (u : Int), .int .i64 10] w fun e w' => e = .returned (.string (decS u)) ∧ Below w.heap.size w w' := by
  have iu : (u : Int) < 100 := by omega
  have hs := fun W => Any.internal_strconv_small Tryz.lays283 u hu W
  have HS := Lib.hid hs
  clear hs
  go_enter Tryz.func55, Tryz.ntmps55
  go_wp2_with fail
  refine (HS.out _).mono ?_
  rintro e w' ⟨rfl, rfl⟩
  go_wp2
  go_ret
  exact ⟨rfl, Below.refl _ _⟩
theorem ifu_any (u : Nat) (hu64 : u < 18446744073709551616) (w : World) (htab : Pow10 w) :
    Calls Tryz.prog 55 #[.int .u64 (u : Int), .int .i64 10] w fun e w' => e = .returned (.string (decS u)) ∧ Below w.heap.size w w' := by
  by_cases h : u < 100
  · exact ifu_small u h w
  · exact ifu_big u (by omega) hu64 w htab
set_option maxHeartbeats 1000000 in
set_option maxRecDepth 100000 in
theorem fu_any (u : Nat) (hu64 : u < 18446744073709551616) (w : World) (htab : Pow10 w) :
    Calls Tryz.prog 43 #[.int .u64 (u : Int), .int .i64 10] w fun e w' => e = .returned (.string (decS u)) ∧ Below w.heap.size w w' := by
  have HC := Lib.hid (ifu_any u hu64 w htab)
  go_enter Tryz.func43, Tryz.ntmps43
  go_wp2_with fail
  refine HC.out.mono ?_
  rintro e w' ⟨rfl, hb⟩
  go_wp2
  go_ret
  exact ⟨rfl, hb⟩
end Go.Proofs.YtokehnclakedeaaGreatDoor
