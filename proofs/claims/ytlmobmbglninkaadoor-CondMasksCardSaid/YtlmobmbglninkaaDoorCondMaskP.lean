/- Masks: plain facts of bits. -/
import Derived.Laws.Bits64b
namespace Go.Proofs.YtlmobmbglninkaaDoor
open Go Go.Proofs

theorem and_all (x : Int) (h0 : 0 ≤ x) (h1 : x < 18446744073709551616) : bits .and .u64 x 18446744073709551615 = x := by
  obtain ⟨n, rfl⟩ := Int.eq_ofNat_of_zero_le h0
  have hn : n < 18446744073709551616 := by omega
  have := bits_and_u64_nat n 18446744073709551615 hn (by decide)
  rw [show ((18446744073709551615 : Nat) : Int) = 18446744073709551615 from rfl] at this
  rw [this, show (18446744073709551615 : Nat) = 2 ^ 64 - 1 by decide, Nat.and_two_pow_sub_one_eq_mod, Nat.mod_eq_of_lt (by omega)]
theorem and_none (x : Int) (h0 : 0 ≤ x) (h1 : x < 18446744073709551616) : bits .and .u64 x 0 = 0 := by
  obtain ⟨n, rfl⟩ := Int.eq_ofNat_of_zero_le h0
  have hn : n < 18446744073709551616 := by omega
  have := bits_and_u64_nat n 0 hn (by decide)
  rw [show ((0 : Nat) : Int) = 0 from rfl] at this
  rw [this, Nat.and_zero]
  rfl
theorem beside (x m v : Int) (h : bits .and .u64 x m = v) : bits .andNot .u64 v m = 0 := by
  have hlt := (BitVec.ofInt 64 x &&& BitVec.ofInt 64 m).isLt
  have h1 : v = ((BitVec.ofInt 64 x &&& BitVec.ofInt 64 m).toNat : Int) := by
    rw [← h]
    show IntKind.u64.wrap ((BitVec.ofInt 64 x &&& BitVec.ofInt 64 m).toNat : Int) = _
    rw [IntKind.wrap_u64]
    omega
  have h2 : BitVec.ofInt 64 v = BitVec.ofInt 64 x &&& BitVec.ofInt 64 m := by
    rw [h1, BitVec.ofInt_natCast, BitVec.ofNat_toNat, BitVec.setWidth_eq]
  show IntKind.u64.wrap ((BitVec.ofInt 64 v &&& ~~~ BitVec.ofInt 64 m).toNat : Int) = 0
  rw [h2]
  have h3 : BitVec.ofInt 64 x &&& BitVec.ofInt 64 m &&& ~~~ BitVec.ofInt 64 m = 0#64 := by
    rw [BitVec.and_assoc]
    generalize BitVec.ofInt 64 m = M
    generalize BitVec.ofInt 64 x = X
    ext i
    simp
  rw [h3]
  rfl
end Go.Proofs.YtlmobmbglninkaaDoor
