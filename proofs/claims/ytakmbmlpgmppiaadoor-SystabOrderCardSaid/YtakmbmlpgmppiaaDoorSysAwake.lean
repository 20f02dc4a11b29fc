/- strainerlaw11.awake. -/
import Derived.Test.YtakmbmlpgmppiaaDoorSysLaw
namespace Go.Proofs.YtakmbmlpgmppiaaDoor
open Go Go.Proofs Go.RowKit

def openT : ByteArray := ⟨#[111, 112, 101, 110]⟩
theorem open_signs : ∀ k, k < 83 → decide (cmpR openT builtinL[k]! < 0) = decide (k < 41) := by decide +kernel
theorem open_mono : ∀ x y, x ≤ y → y < builtinL.length → cmpR openT builtinL[y]! < 0 → cmpR openT builtinL[x]! < 0 := by
  intro x y hxy hy hlt
  have hy' : y < 83 := hy
  have h1 := open_signs y hy'
  have h2 := open_signs x (by omega)
  rw [decide_eq_true hlt] at h1
  have h3 : y < 41 := of_decide_eq_true h1.symm
  rw [decide_eq_true (show x < 41 by omega)] at h2
  exact of_decide_eq_true h2
theorem open_at {i : Nat} (h : BsAns openT builtinL i) : i = 41 := by
  obtain ⟨h0, h1, h2⟩ := h
  have h0' : i ≤ 83 := h0
  by_cases hlt : i < 41
  · have := h2 i (Nat.le_refl _) (show i < 83 by omega)
    have e := open_signs i (by omega)
    rw [decide_eq_true hlt] at e
    have := of_decide_eq_true e
    omega
  · by_cases hgt : 41 < i
    · have := h1 41 hgt
      have e := open_signs 41 (by omega)
      rw [decide_eq_true this] at e
      cases e
    · omega
theorem open_hit : bsHit openT builtinL 41 = true := by decide +kernel
theorem open_num0 : numOf builtinL 0 41 = 2 := by decide +kernel
theorem open_num3 : numOf builtinL 3 41 = -42 := by decide +kernel
theorem open_number (a : Nat) (ha : a < 5) (sv : Value) (w : World) (hR : RowsV w sv builtinL) :
    Calls Tryd.prog 17 #[sv, .int .i64 a, .string ⟨#[111, 112, 101, 110]⟩] w fun e w' => e = .returned (.tuple #[.int .i64 (numOf builtinL a 41), .int .i64 0]) ∧ Below w.heap.size w w' := by
  refine (number_any openT sv builtinL a ha w (by decide) hR open_mono).mono ?_
  rintro e w' ⟨i, hA, hB, ⟨hh, rfl⟩ | ⟨hh, rfl⟩⟩
  · obtain rfl := open_at hA
    exact ⟨rfl, hB⟩
  · obtain rfl := open_at hA
    rw [open_hit] at hh
    cases hh

theorem awake_any (w : World) : Calls Tryd.prog 13 #[] w fun e w' => e = .returned (.bool true) ∧ Below w.heap.size w w' := by
  go_enter Tryd.func13, Tryd.ntmps13
  go_wp2_with fail
  refine (builtin_any _).mono ?_
  rintro e w1 ⟨v, rfl, hR, hb1⟩
  have H1 := open_number 0 (by omega) v w1 hR
  rw [open_num0] at H1
  have HR := Lib.hid hR
  clear hR
  go_wp2_with fail
  refine H1.mono ?_
  rintro e w2 ⟨rfl, hb2⟩
  clear H1
  have H2 := open_number 3 (by omega) v w2 (HR.out.below hb2)
  rw [open_num3] at H2
  go_wp2_with fail
  refine H2.mono ?_
  rintro e w3 ⟨rfl, hb3⟩
  clear H2
  have HB : Hid (Below w.heap.size w w3) := (hb1.trans (hb2.mono hb1.size)).trans (hb3.mono (Nat.le_trans hb1.size hb2.size))
  clear hb1 hb2 hb3
  go_wp2
  go_ret
  exact ⟨rfl, HB.out⟩
end Go.Proofs.YtakmbmlpgmppiaaDoor
