/- Rows that rise, and the first two of them exchanged: plain facts. -/
import Derived.Test.YtakmbmlpgmppiaaDoorSysOkB
namespace Go.Proofs.YtakmbmlpgmppiaaDoor
open Go Go.Proofs Go.RowKit

def ordRow (i : Nat) : SRow := ⟨⟨#[110, UInt8.ofNat (97 + i / 26 % 26), UInt8.ofNat (97 + i % 26)]⟩, -1, -1, -1, -1, (i : Int), 0, 0⟩
def ordL (k : Nat) : List SRow := (List.range k).map ordRow
theorem ordL_len (k : Nat) : (ordL k).length = k := by simp [ordL]
theorem ordL_get {k i : Nat} (h : i < k) : (ordL k)[i]! = ordRow i := by
  rw [getElem!_pos _ i (by rw [ordL_len]; exact h)]
  simp [ordL]
theorem ordL_succ (k : Nat) : ordL (k + 1) = ordL k ++ [ordRow k] := by
  simp [ordL, List.range_succ]
theorem ord_names : ∀ j, j < 405 → nameChk (ordRow j).name = true := by decide +kernel
theorem ord_rise : ∀ j, j < 405 → ¬ (0 < j ∧ Op.bytesLess (ordRow (j - 1)).name.toList (ordRow j).name.toList = false) := by decide +kernel
theorem ord_rng : ∀ j, j < 405 → rngOk (ordRow j) := by decide +kernel
theorem ord_mux (j : Nat) : ¬ muxNo (ordRow j) := by rintro (h | h) <;> cases h
theorem ord_apart {i j : Nat} (h : i ≠ j) : ¬ clash (ordRow i) (ordRow j) := by
  rintro (⟨a, ha, h1, h2⟩ | ⟨h1, _⟩)
  · match a, ha with
    | 0, _ => exact absurd (show (0 : Int) ≤ -1 from h1) (by decide)
    | 1, _ => exact absurd (show (0 : Int) ≤ -1 from h1) (by decide)
    | 2, _ => exact absurd (show (0 : Int) ≤ -1 from h1) (by decide)
    | 3, _ => exact absurd (show (0 : Int) ≤ -1 from h1) (by decide)
    | 4, _ => exact h (Int.ofNat.inj h2)
  · exact absurd (show (0 : Int) < 0 from h1) (by decide)
theorem ordL_ok {k : Nat} (hk : k ≤ 405) : TableOk (ordL k) := by
  intro j hj
  rw [ordL_len] at hj
  refine rs_mk ?_ ?_ ?_ ?_ ?_
  · rw [ordL_get hj]; exact nameChk_ok (ord_names j (by omega))
  · rintro ⟨h0, h⟩
    rw [ordL_get hj, ordL_get (show j - 1 < k by omega)] at h
    exact ord_rise j (by omega) ⟨h0, h⟩
  · rw [ordL_get hj]; exact ord_rng j (by omega)
  · rw [ordL_get hj]; exact ord_mux j
  · intro i hi
    rw [ordL_get hj, ordL_get (show i < k by omega)]
    exact ord_apart (by omega)
/-- The ten rows behind the exchange. -/
def swapT : List SRow := ordRow 1 :: ordRow 0 :: ((List.range 8).map (fun i => ordRow (i + 2)))
theorem swap_one : RightSaid swapT 1 15 := by
  refine .inr ⟨by decide, .inl ⟨1, by decide, rfl, by decide, ?_, ?_⟩⟩
  · exact .inr ⟨nameChk_ok (ord_names 0 (by decide)), .inl ⟨rfl, by decide, by decide +kernel⟩⟩
  · intro j hj
    obtain rfl : j = 0 := by omega
    refine rs_mk (nameChk_ok (ord_names 1 (by decide))) (fun h => absurd h.1 (by decide)) (ord_rng 1 (by decide)) (ord_mux 1) (fun k hk => absurd hk (Nat.not_lt_zero k))
end Go.Proofs.YtakmbmlpgmppiaaDoor
