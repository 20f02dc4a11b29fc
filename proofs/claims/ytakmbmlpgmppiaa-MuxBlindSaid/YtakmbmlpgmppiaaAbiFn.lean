/- The small functions of abi and of its reference: what each answers, in plain numbers. -/
import Derived.Test.YtakmbmlpgmppiaaAbiSel
import Derived.Laws.BitsAllLaws
import Derived.WalkLawsBesides
import Derived.WalkSpells
import Derived.Lib.Hide
namespace Go.Proofs.Ytakmbmlpgmppiaa
open Go Go.Proofs Go.RowKit Go.Shelf

theorem u32_bit (m : Int) (h0 : 0 ≤ m) (h1 : m < 4294967296) : bits .and .u32 m 1073741824 = m / 1073741824 % 2 * 1073741824 := by
  rw [u32_and m 1073741824 h0 h1 (by omega) (by omega)]
  have h := nat_bit 30 m.toNat
  rw [show (1073741824 : Int).toNat = 2 ^ 30 from rfl, h, show (2 ^ 30 : Nat) = 1073741824 from rfl]
  omega

theorem nat_clear (x : Nat) (hx : x < 4294967296) : x &&& 3221225471 = x - x / 1073741824 % 2 * 1073741824 := by
  have e : (3221225471 : Nat) = (2 ^ 32 - 2 ^ 31) ||| (2 ^ 30 - 1) := by decide
  rw [e, Nat.and_or_distrib_left, nat_midmask 32 31 x (by omega), Nat.and_two_pow_sub_one_eq_mod, nat_join 31 _ _ (Nat.mul_mod_left _ _) (Nat.lt_trans (Nat.mod_lt _ (by decide)) (by decide))]
  simp only [show (2 ^ 32 : Nat) = 4294967296 from rfl, show (2 ^ 31 : Nat) = 2147483648 from rfl, show (2 ^ 30 : Nat) = 1073741824 from rfl]
  omega

theorem u32_clear (m : Int) (h0 : 0 ≤ m) (h1 : m < 4294967296) : bits .andNot .u32 m 1073741824 = m - m / 1073741824 % 2 * 1073741824 := by
  rw [u32_andNot m 1073741824 h0 h1 (by omega) (by omega)]
  have h := nat_clear m.toNat (by omega)
  rw [show (4294967295 - (1073741824 : Int).toNat : Nat) = 3221225471 from rfl, h]
  omega

theorem u32_set (m : Int) (h0 : 0 ≤ m) (h1 : m < 1073741824) : bits .or .u32 m 1073741824 = m + 1073741824 := by
  rw [u32_or m 1073741824 h0 (by omega) (by omega) (by omega)]
  have h := nat_join30' 1073741824 m.toNat (by decide) (by omega)
  rw [show (1073741824 : Int).toNat = 1073741824 from rfl, h]
  omega

/-- The reference's Own. -/
def ownN (a m : Int) : Int := if a = 1 then m - m / 1073741824 % 2 * 1073741824 else m
/-- abi.Whole, of a number below 2^30. -/
def wholeN (a m : Int) : Int := if a = 1 then m + 1073741824 else m
/-- The reference's Select. -/
def refSel (arch number : Int) : Int :=
  if arch = 1073741827 then 2 else if arch = 3221225655 then 3 else if arch = 3221225715 then 4 else
  if arch = 3221225534 then (if number ≠ 4294967295 ∧ number / 1073741824 % 2 = 1 then 1 else 0) else -1

theorem selWith_eq (number : Int) (h0 : 0 ≤ number) (h1 : number < 4294967296) : selWith number = decide (number ≠ 4294967295 ∧ number / 1073741824 % 2 = 1) := by
  unfold selWith
  rw [u32_bit number h0 h1, Bool.eq_iff_iff]
  simp
  omega

theorem selAns_eq (arch number : Int) (h0 : 0 ≤ number) (h1 : number < 4294967296) :
    selAns arch number = .tuple #[.int .i64 (max (refSel arch number) 0), .bool (decide (0 ≤ refSel arch number))] := by
  unfold selAns refSel
  rw [selWith_eq number h0 h1]
  simp only [selFind, abiRows, List.find?, selRow, r0, r1, r2, r3, r4]
  by_cases a1 : arch = 1073741827
  · subst a1; rfl
  by_cases a2 : arch = 3221225655
  · subst a2; rfl
  by_cases a3 : arch = 3221225715
  · subst a3; rfl
  by_cases a4 : arch = 3221225534
  · subst a4
    by_cases hb : number ≠ 4294967295 ∧ number / 1073741824 % 2 = 1
    · rw [if_pos hb, decide_eq_true hb]; rfl
    · rw [if_neg hb, decide_eq_false hb]; rfl
  · simp [a1, a2, a3, a4, beq_eq_false_iff_ne.2 (Ne.symm a1), beq_eq_false_iff_ne.2 (Ne.symm a2), beq_eq_false_iff_ne.2 (Ne.symm a3), beq_eq_false_iff_ne.2 (Ne.symm a4)]
    rfl

theorem select_any (arch number : Int) (h0 : 0 ≤ number) (h1 : number < 4294967296) (w : World) :
    Calls Try.prog 36 #[.int .u32 arch, .int .u32 number] w fun e w' =>
      e = .returned (.tuple #[.int .i64 (max (refSel arch number) 0), .bool (decide (0 ≤ refSel arch number))]) ∧ Below w.heap.size w w' := by
  rw [← selAns_eq arch number h0 h1]
  exact callsIn_wide.1 (select_in Fence.wide 4 trivial trivial trivial rfl (by omega) arch number w)

theorem own_any (a m : Int) (h0 : 0 ≤ m) (h1 : m < 4294967296) (w : World) :
    Calls Try.prog 39 #[.int .i64 a, .int .u32 m] w fun e w' => e = .returned (.int .u32 (ownN a m)) ∧ w = w' := by
  by_cases ha : a = 1
  · go_enter Try.func39, Try.ntmps39
    go_wp2
    go_ret
    exact ⟨retI (by rw [u32_clear m h0 h1]; unfold ownN; rw [if_pos ha]), rfl⟩
  · go_enter Try.func39, Try.ntmps39
    go_wp2
    go_ret
    exact ⟨retI (by unfold ownN; rw [if_neg ha]), rfl⟩


theorem refOwn_any (a m : Int) (h0 : 0 ≤ m) (h1 : m < 4294967296) (w : World) :
    Calls Try.prog 41 #[.int .i64 a, .int .u32 m] w fun e w' => e = .returned (.int .u32 (ownN a m)) ∧ w = w' := by
  by_cases ha : a = 1
  · by_cases hb : m / 1073741824 % 2 = 1
    · go_enter Try.func41, Try.ntmps41
      go_wp2
      go_ret
      exact ⟨retI (by unfold ownN; rw [if_pos ha]; omega), rfl⟩
    · go_enter Try.func41, Try.ntmps41
      go_wp2
      go_ret
      exact ⟨retI (by unfold ownN; rw [if_pos ha]; omega), rfl⟩
  · go_enter Try.func41, Try.ntmps41
    go_wp2
    go_ret
    exact ⟨retI (by unfold ownN; rw [if_neg ha]), rfl⟩

set_option maxHeartbeats 1000000 in
theorem refSelect_any (arch number : Int) (h0 : 0 ≤ number) (h1 : number < 4294967296) (w : World) :
    Calls Try.prog 40 #[.int .u32 arch, .int .u32 number] w fun e w' => e = .returned (.int .i64 (refSel arch number)) ∧ w = w' := by
  by_cases hb : number ≠ 4294967295 ∧ number / 1073741824 % 2 = 1
  · obtain ⟨hb1, hb2⟩ := hb
    go_enter Try.func40, Try.ntmps40
    go_wp2
    all_goals (go_ret; exact ⟨retI (by unfold refSel; simp_all), rfl⟩)
  · by_cases hc : number = 4294967295
    · have hd : (number != 4294967295) = false := by simp [hc]
      clear hb
      go_enter Try.func40, Try.ntmps40
      go_wp2
      all_goals (go_ret; exact ⟨retI (by unfold refSel; simp_all), rfl⟩)
    · have hd : ¬ number / 1073741824 % 2 = 1 := fun h => hb ⟨hc, h⟩
      clear hb
      go_enter Try.func40, Try.ntmps40
      go_wp2
      all_goals (go_ret; exact ⟨retI (by unfold refSel; simp_all), rfl⟩)

end Go.Proofs.Ytakmbmlpgmppiaa
