/- CondNumbers: the law's walk. -/
import Derived.Test.YtlmobmbglninkaaDoorCondAwake
import Derived.Test.YtlmobmbglninkaaDoorCondDig
namespace Go.Proofs.YtlmobmbglninkaaDoor
open Go Go.Proofs Go.RowKit

theorem u64_in (x : Int) (h : 0 ≤ x ∧ x < 18446744073709551616) : IntKind.u64.wrap x = x := by rw [IntKind.wrap_u64]; omega
set_option maxRecDepth 100000 in
set_option maxHeartbeats 1000000 in
theorem digits_any : ∀ (n : Nat) (w : World), n < 18446744073709551616 → Calls Tryd.prog 16 #[.int .u64 (n : Int)] w fun e w' => e = .returned (.string (decS n)) ∧ Below w.heap.size w w' := by
  intro n
  induction n using Nat.strongRecOn with
  | _ n ih =>
    intro w hn
    by_cases h : n < 10
    · have hz : (n : Int) < 10 := by omega
      have h0 : (0 : Int) ≤ (n : Int) := by omega
      have h1 : IntKind.u64.wrap ((n : Int) + 1) = (n : Int) + 1 := u64_in _ (by omega)
      have hs := dig_slice n h
      have h2 : ((n : Int) + 1).toNat = n + 1 := by omega
      have h3 : (n : Int) + 1 ≤ 10 := by omega
      have h4 : (0 : Int) ≤ (n : Int) + 1 := by omega
      clear ih
      go_enter Tryd.func16, Tryd.ntmps16
      go_wp2
      go_ret
      exact ⟨rfl, Below.refl _ w⟩
    · have hz : ¬ (n : Int) < 10 := by omega
      have hih := fun W => ih (n / 10) (by omega) W (by omega)
      have hst := decS_step h
      obtain ⟨q, hq, hqe⟩ : ∃ q : Nat, (n : Int).tdiv 10 = (q : Int) ∧ q = n / 10 := ⟨n / 10, by rw [Int.tdiv_eq_ediv_of_nonneg (by omega)]; rfl, rfl⟩
      obtain ⟨r, hr, hre⟩ : ∃ r : Nat, (n : Int).tmod 10 = (r : Int) ∧ r = n % 10 := ⟨n % 10, by rw [Int.tmod_eq_emod_of_nonneg (by omega)]; rfl, rfl⟩
      have hr10 : r < 10 := by omega
      rw [← hqe] at hih hst
      rw [← hre] at hst
      rw [hst]
      have hs := dig_slice r hr10
      have HI := Lib.hid hih
      have hqw : IntKind.u64.wrap (q : Int) = (q : Int) := u64_in _ (by omega)
      have h0 : (0 : Int) ≤ (r : Int) := by omega
      have h1 : IntKind.u64.wrap ((r : Int) + 1) = (r : Int) + 1 := u64_in _ (by omega)
      have h2 : ((r : Int) + 1).toNat = r + 1 := by omega
      have h3 : (r : Int) + 1 ≤ 10 := by omega
      have h4 : (0 : Int) ≤ (r : Int) + 1 := by omega
      have h5 : (r : Int) ≤ (r : Int) + 1 := by omega
      have h6 : r ≤ r + 1 := by omega
      have h7 : r + 1 ≤ 10 := by omega
      have h8 : ¬ 9223372036854775807 < (decS q).size + (decS r).size := by have := decS_size q (by omega); have := decS_size r (by omega); omega
      clear ih hih hst hqe hre h
      generalize decS q = sq at *
      generalize decS r = sr at *
      go_enter Tryd.func16, Tryd.ntmps16
      go_wp2
      go_region_held3 (fun _ => True) (trivial) (first | (go_at_call 16; refine (HI.out _).mono ?_; rintro e w2 ⟨rfl, hb2⟩))
      go_wp2
      go_ret
      exact ⟨rfl, (Below.refl _ w).drew.trans hb2⟩

/-- Where the loop of hexadecimal digits stands. -/
def HexAt (n m : Nat) (s : ByteArray) : Prop := m ≤ n ∧ s.size ≤ 16 ∧ ((0 < m ∧ hexDigits n = hexDigits m ++ s.data.toList) ∨ (m = 0 ∧ n = 0 ∧ s = ⟨#[]⟩) ∨ (m = 0 ∧ s.data.toList = hexDigits n))
theorem hexAt_step {n m : Nat} {s : ByteArray} (hn : n < 18446744073709551616) (h : HexAt n m s) (hgo : 0 < m ∨ s = ⟨#[]⟩) : HexAt n (m / 16) (hexS (m % 16) ++ s) := by
  obtain ⟨h1, h2, h3⟩ := h
  have hl : (hexS (m % 16) ++ s).data.toList = hexD (m % 16) :: s.data.toList := by simp [hexS]
  have hsz : ∀ t : ByteArray, t.data.toList.length = t.size := fun t => Array.length_toList
  have hlen := hex_len 15 n (by omega)
  rcases h3 with ⟨h4, h5⟩ | ⟨rfl, rfl, rfl⟩ | ⟨rfl, h5⟩
  · by_cases h16 : m < 16
    · have e : (hexS (m % 16) ++ s).data.toList = hexDigits n := by rw [hl, h5, hexDigits, dif_pos h16, Nat.mod_eq_of_lt h16]; rfl
      refine ⟨by omega, by rw [← hsz, e]; exact hlen, .inr (.inr ⟨by omega, e⟩)⟩
    · have e : hexDigits n = hexDigits (m / 16) ++ (hexS (m % 16) ++ s).data.toList := by rw [hl, h5, hexDigits, dif_neg h16, List.append_assoc]; rfl
      refine ⟨by omega, ?_, .inl ⟨by omega, e⟩⟩
      rw [e, List.length_append, hsz] at hlen
      omega
  · refine ⟨by omega, by decide, .inr (.inr ⟨by omega, ?_⟩)⟩
    rw [hl, hexDigits, dif_pos (by omega)]
  · rcases hgo with h | rfl
    · omega
    · obtain ⟨c, r, e, _⟩ := hex_head n
      rw [e] at h5
      cases h5

set_option maxRecDepth 100000 in
set_option maxHeartbeats 2000000 in
theorem numbers_any (n : Nat) (hn : n < 18446744073709551616) (w : World) (hE : ErrV w) :
    Calls Tryd.prog 6 #[.int .u64 (n : Int)] w fun e w' => e = .returned (.bool true) ∧ Below w.heap.size w w' := by
  have hsz := decS_size n hn
  have HD := Lib.hid (fun W => digits_any n W hn)
  have hN1 := fun W hW => number_some (decS n) (by omega) (numOf_dec n hn) W hW
  have hcat : (⟨#[48]⟩ ++ decS n : ByteArray).data.toList = 48 :: Lib.decDigits n := by simp [decS]
  have hcs : (⟨#[48]⟩ ++ decS n : ByteArray).size ≤ 281474976710656 := by
    have : (⟨#[48]⟩ ++ decS n : ByteArray).size = 1 + (decS n).size := by rw [ByteArray.size_append]; rfl
    omega
  have hN3 := fun W hW => number_none (⟨#[48]⟩ ++ decS n) hcs (by rw [hcat]; exact numOf_zero n) W hW
  have HN1 := Lib.hid hN1
  have HN3 := Lib.hid hN3
  have HE := Lib.hid hE
  have HN := Lib.hid hn
  have h8 : ¬ 9223372036854775807 < 1 + (decS n).size := by omega
  clear hN1 hN3 hE hcat hcs hn
  generalize decS n = ds at *
  go_enter Tryd.func6, Tryd.ntmps6
  go_wp2_with fail
  refine (HD.out _).mono ?_
  rintro e w1 ⟨rfl, hb1⟩
  go_wp2_with fail
  refine (HN1.out _ (HE.out.below hb1)).mono ?_
  rintro e w2 ⟨rfl, hb2⟩
  have HB2 := Lib.hid (hb1.trans (hb2.mono hb1.size))
  clear hb1 hb2 HN1
  go_wp2
  go_loopg [5, 6] (n + 1) (fun gg s5 s6 wr => ∃ (m : Nat) (s : ByteArray), s5 = .string s ∧ s6 = .int .u64 m ∧ Hid (HexAt n m s) ∧ Hid (m + (if s.size = 0 then 1 else 0) ≤ gg) ∧ wr = w2)
  case atStart => exact ⟨n, ⟨#[]⟩, rfl, rfl, (show Hid _ from ⟨Nat.le_refl _, by decide, by
    by_cases h : n = 0
    · exact .inr (.inl ⟨h, h, rfl⟩)
    · exact .inl ⟨by omega, by simp⟩⟩), (show Hid _ from by show n + 1 ≤ n + 1; omega), rfl⟩
  case round =>
    obtain ⟨m, s, rfl, rfl, HA, HG, rfl⟩ := hrel
    have hm1 : m < 18446744073709551616 := by have := HA.out.1; have := HN.out; omega
    have hs16 : s.size ≤ 16 := HA.out.2.1
    by_cases hm : 0 < m
    · have hst := hexAt_step HN.out HA.out (.inl hm)
      have hmz : (0 : Int) < (m : Int) := by omega
      obtain ⟨q, hq, hqe⟩ : ∃ q : Nat, (m : Int).tdiv 16 = (q : Int) ∧ q = m / 16 := ⟨m / 16, by rw [Int.tdiv_eq_ediv_of_nonneg (by omega)]; rfl, rfl⟩
      obtain ⟨r, hr, hre⟩ : ∃ r : Nat, (m : Int).tmod 16 = (r : Int) ∧ r = m % 16 := ⟨m % 16, by rw [Int.tmod_eq_emod_of_nonneg (by omega)]; rfl, rfl⟩
      have hr16 : r < 16 := by omega
      rw [← hqe, ← hre] at hst
      have hs := hex_slice r hr16
      have hqw : IntKind.u64.wrap (q : Int) = (q : Int) := u64_in _ (by omega)
      have g0 : (0 : Int) ≤ (r : Int) := by omega
      have g1 : IntKind.u64.wrap ((r : Int) + 1) = (r : Int) + 1 := u64_in _ (by omega)
      have g2 : ((r : Int) + 1).toNat = r + 1 := by omega
      have g3 : (r : Int) + 1 ≤ 16 := by omega
      have g4 : (0 : Int) ≤ (r : Int) + 1 := by omega
      have g5 : (r : Int) ≤ (r : Int) + 1 := by omega
      have g6 : r ≤ r + 1 := by omega
      have g7 : r + 1 ≤ 16 := by omega
      have hhs : (hexS r).size = 1 := rfl
      have HST := Lib.hid hst
      have hsne : ¬ (hexS r ++ s).size = 0 := by rw [ByteArray.size_append, hhs]; omega
      have HNE := Lib.hid hsne
      have hlt : q + 0 < m + (if s.size = 0 then 1 else 0) := by split <;> omega
      have HLTT := Lib.hid hlt
      have g8 : ¬ 9223372036854775807 < (hexS r).size + s.size := by rw [hhs]; omega
      clear hst hqe hre hs16 hhs hsne hlt HA
      generalize hexS r = hr1 at *
      go_wp2
      go_roundg q
      case measure => have := HLTT.out; have := HG.out; omega
      case rel => exact ⟨q, hr1 ++ s, rfl, rfl, HST, (show Hid _ from by show q + _ ≤ q; rw [if_neg HNE.out]; omega), rfl⟩
    · have hm0 : m = 0 := by omega
      by_cases he : s = ⟨#[]⟩
      · subst hm0
        have hst := hexAt_step HN.out HA.out (.inr he)
        obtain ⟨m, hm0⟩ : ∃ m, m = 0 := ⟨0, rfl⟩
        subst he
        clear hs16 HA
        have h16 : (⟨#[48, 49, 50, 51, 52, 53, 54, 55, 56, 57, 97, 98, 99, 100, 101, 102]⟩ : ByteArray).extract 0 1 = ⟨#[48]⟩ := by decide +kernel
        have HST : Hid (HexAt n 0 ⟨#[48]⟩) := hst
        clear hst
        go_wp2
        go_roundg 0
        case measure => exact Nat.lt_of_lt_of_le (by decide : 0 < 0 + (if (⟨#[]⟩ : ByteArray).size = 0 then 1 else 0)) HG.out
        case rel => exact ⟨0, ⟨#[48]⟩, rfl, rfl, HST, (show Hid _ from by show 0 + _ ≤ 0; decide), rfl⟩
      · have hmz : ¬ (0 : Int) < (m : Int) := by omega
        have hem : s.toList.isEmpty = false := by
          rw [← decide_eq_emptyBytes]
          exact decide_eq_false he
        have hx : s.data.toList = hexDigits n := by
          obtain ⟨_, _, h⟩ := HA.out
          rcases h with ⟨h, _⟩ | ⟨_, _, h⟩ | ⟨_, h⟩
          · omega
          · exact absurd h he
          · exact h
        have hcat : (⟨#[48, 120]⟩ ++ s : ByteArray).data.toList = 48 :: 120 :: hexDigits n := by simp [hx]
        have hcz : (⟨#[48, 120]⟩ ++ s : ByteArray).size = 2 + s.size := by rw [ByteArray.size_append]; rfl
        have hN2 := fun W hW => number_some (⟨#[48, 120]⟩ ++ s) (by rw [hcz]; omega) (by rw [hcat]; exact numOf_hex n HN.out) W hW
        have HN2 := Lib.hid hN2
        have k8 : ¬ 9223372036854775807 < 2 + s.size := by omega
        subst hm0
        clear hN2 hcat hcz hx he HA hs16 hm
        go_wp2_with fail
        refine (HN2.out _ (HE.out.below HB2.out)).mono ?_
        rintro e w3 ⟨rfl, hb3⟩
        have HB3 := belB HB2 hb3
        clear hb3 HN2 HB2
        go_wp2_with fail
        refine (HD.out _).mono ?_
        rintro e w4 ⟨rfl, hb4⟩
        have HB4 := belB HB3 hb4
        clear hb4 HB3
        go_wp2_with fail
        refine (HN3.out _ (HE.out.below HB4.out)).mono ?_
        rintro e w5 ⟨rfl, hb5⟩
        have HB5 := belB HB4 hb5
        clear hb5 HB4 HN3
        go_wp2_with fail
        refine (awake10_any _ (HE.out.below HB5.out)).mono ?_
        rintro e w6 ⟨rfl, hb6⟩
        have HB6 := belB HB5 hb6
        clear hb6
        go_wp2
        go_ret
        exact ⟨rfl, HB6.out⟩
end Go.Proofs.YtlmobmbglninkaaDoor
