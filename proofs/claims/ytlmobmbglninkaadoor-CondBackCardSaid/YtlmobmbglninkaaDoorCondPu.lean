/- strconv.ParseUint at base 16 and at base 10, of digits alone. -/
import Derived.Test.YtlmobmbglninkaaDoorCondNumP
import Derived.Test.YtlmobmbglninkaaDoorShelf
import Derived.Test.YtlmobmbglninkaaDoorIn
import Derived.Shelf.Pu.Lower
import Derived.Shelf.Pu.ToErrorRange
import Derived.Shelf.Pu.ParseUintPublic10
import Derived.Lib.Strings
import Derived.Lib.ConvBytes
import Derived.Lib.AtoiAllMem
import Derived.Lib.AtoiErrMem
import Derived.Lib.ParseIntBMem
import Derived.Lib.Hide
import Derived.WalkKit
import Derived.BigCall
import Derived.BigGuard
namespace Go.Proofs.YtlmobmbglninkaaDoor
open Go Go.Proofs Go.RowKit Go.Shelf Go.Lib

theorem low_or : ∀ n : Nat, n < 256 → 97 ≤ n → n ≤ 102 → bits .or .u8 (n : Int) 32 = n := by decide +kernel
theorem hex_case {c : UInt8} (h : hexS16.contains c = true) : (48 ≤ c.toNat ∧ c.toNat ≤ 57 ∧ figV c = some (c.toNat - 48)) ∨ (97 ≤ c.toNat ∧ c.toNat ≤ 102 ∧ figV c = some (c.toNat - 87)) := by
  have hb := base_fig (.inr rfl) c
  rw [show baseS 16 = hexS16 from rfl, h] at hb
  by_cases h1 : 48 ≤ c.toNat ∧ c.toNat ≤ 57
  · exact .inl ⟨h1.1, h1.2, by unfold figV; rw [if_pos h1]⟩
  by_cases h2 : 97 ≤ c.toNat ∧ c.toNat ≤ 102
  · exact .inr ⟨h2.1, h2.2, by unfold figV; rw [if_neg h1, if_pos h2]⟩
  have hv : figV c = none := by unfold figV; rw [if_neg h1, if_neg h2]
  rw [hv] at hb
  cases hb
/-- The values and the error of what figures spell. -/
def numTuple (t : Nat) : Option Nat → Value
  | some u => .tuple #[.int .u64 u, .nilIface]
  | none => .tuple #[.int .u64 18446744073709551615, .iface t (.int .i64 1)]

set_option maxHeartbeats 32000000 in
set_option maxRecDepth 100000 in
theorem parse16_in (t : ByteArray) (hne : t.size ≠ 0) (hmax : t.size ≤ 9223372036854775806) (hall : ∀ b ∈ t.data.toList, hexS16.contains b = true) (w : World) :
    Calls Tryd.prog 46 #[.string t, .int .i64 16, .int .i64 64] w fun e w' => e = .returned (numTuple 91 (numFrom 16 0 t.data.toList)) ∧ w' = Lib.bytesWorld w 5 t := by
  have hemp : t.toList.isEmpty = false := by
    rw [← decide_eq_emptyBytes]
    exact decide_eq_false (fun h => hne (by rw [h]; rfl))
  have hcv := Lib.run_convert_string_bytes (P := Tryd.prog) w 9 79 5 t (u := .string) Tryd.underlying9 Tryd.underlying79 Tryd.underlying5
  have hB : ∀ j, j < t.size → (Lib.bytesWorld w 5 t).cell? ⟨w.heap.size, j, none⟩ = some (.int .u8 (t.data.toList.getD j 0).toNat) := fun j hj => Lib.bytesWorld_cell w 5 t j hj
  obtain ⟨W1, hW1⟩ : ∃ W1, W1 = Lib.bytesWorld w 5 t := ⟨_, rfl⟩
  rw [← hW1] at hcv hB ⊢
  clear hW1
  obtain ⟨bs, hL⟩ : ∃ bs, bs = t.data.toList := ⟨_, rfl⟩
  have hLn : bs.length = t.size := by rw [hL, Lib.size_eq]
  rw [← hL] at hB hall ⊢
  clear hL
  have hmv : IntKind.u64.wrap (IntKind.u64.wrap 18446744073709551616 - 1) = 18446744073709551615 := by
    rw [IntKind.wrap_u64, IntKind.wrap_u64]
    decide
  have Hall := Lib.hid hall
  clear hall
  go_enter Tryd.func46, Tryd.ntmps46
  go_wp2
  go_loop [12, 13, 101] (fun vu vn vi => ∃ (k acc : Nat) (a : Int), vu = .bool false ∧ vn = .int .u64 a ∧ vi = .int .i64 k ∧ k ≤ t.size ∧ Hid (a = (acc : Int) ∧ acc < 18446744073709551616 ∧ numFrom 16 0 bs = numFrom 16 acc (bs.drop k)))
    (fun _ _ vi => t.size - (RowKit.intOf vi).toNat)
  case atStart => exact ⟨0, 0, 0, rfl, rfl, rfl, by omega, rfl, by omega, rfl⟩
  case round =>
    obtain ⟨k, acc, a, rfl, rfl, rfl, hk, hh⟩ := hrel
    obtain ⟨ha, hacc, hdec⟩ := hh.out
    clear hh
    have a0 : 0 ≤ a := by omega
    have a1 : a < 18446744073709551616 := by omega
    by_cases hkn : k < t.size
    · have hc := hB k hkn
      have hdrop : bs.drop k = bs[k]'(by omega) :: bs.drop (k + 1) := List.drop_eq_getElem_cons (by omega)
      have hget : bs.getD k 0 = bs[k]'(by omega) := by simp [List.getD, List.getElem?_eq_getElem (show k < bs.length by omega)]
      have hin : hexS16.contains (bs[k]'(by omega)) = true := Hall.out _ (List.getElem_mem _)
      rw [hdrop] at hdec
      rw [hget] at hc
      generalize bs[k]'(by omega) = c at hc hdec hin
      have hc256 : c.toNat < 256 := c.toNat_lt
      clear hB hdrop hget
      rcases hex_case hin with ⟨hd0, hd1, hfig⟩ | ⟨hd0, hd1, hfig⟩
      · by_cases hcut : 1152921504606846976 ≤ acc
        · have hF : numFrom 16 acc (c :: bs.drop (k + 1)) = none := by unfold numFrom; rw [hfig]; dsimp only; rw [if_neg (by omega)]
          rw [hF] at hdec
          have icut : 1152921504606846976 ≤ a := by omega
          clear hcut hacc hF ha hfig hin
          go_wp2
          go_ret2
          first | exact ⟨rfl, rfl⟩ | exact ⟨by rw [hdec]; rfl, rfl⟩
        · have hF : numFrom 16 acc (c :: bs.drop (k + 1)) = numFrom 16 (acc * 16 + (c.toNat - 48)) (bs.drop (k + 1)) := by rw [numFrom, hfig]; dsimp only; rw [if_pos (by omega)]
          have HN : Hid (a * 16 + ((c.toNat : Int) - 48) = ((acc * 16 + (c.toNat - 48) : Nat) : Int) ∧ acc * 16 + (c.toNat - 48) < 18446744073709551616 ∧ numFrom 16 0 bs = numFrom 16 (acc * 16 + (c.toNat - 48)) (bs.drop (k + 1))) := Lib.hid ⟨by omega, by omega, hdec.trans hF⟩
          have icut : a < 1152921504606846976 := by omega
          have iov : a * 16 + ((c.toNat : Int) - 48) < 18446744073709551616 := by omega
          clear hcut hacc hF hdec ha hfig hin
          go_wp2
          refine ⟨⟨k + 1, acc * 16 + (c.toNat - 48), a * 16 + ((c.toNat : Int) - 48), rfl, (by first | rfl | (congr 1; omega)), (by first | rfl | (congr 1; omega)), by omega, HN⟩, by simp [RowKit.intOf]; omega⟩
      · have hlow := fun W => AnyPu.internal_strconv_lower (ρ := Tryd.layspu14_ren) { Tryd.layspu14 with } (c.toNat : Int) W
        rw [low_or _ hc256 hd0 hd1] at hlow
        have hlow : ∀ W, Calls Tryd.prog 58 #[.int .u8 (c.toNat : Int)] W fun e w' => e = .returned (.int .u8 (c.toNat : Int)) ∧ w' = W := hlow
        have Hlow := Lib.hid hlow
        clear hlow
        by_cases hcut : 1152921504606846976 ≤ acc
        · have hF : numFrom 16 acc (c :: bs.drop (k + 1)) = none := by unfold numFrom; rw [hfig]; dsimp only; rw [if_neg (by omega)]
          rw [hF] at hdec
          have icut : 1152921504606846976 ≤ a := by omega
          clear hcut hacc hF ha hfig hin
          go_wp2_with (go_at_call 58; refine (Hlow.out _).mono ?_; rintro e w' ⟨rfl, rfl⟩)
          go_ret2
          first | exact ⟨rfl, rfl⟩ | exact ⟨by rw [hdec]; rfl, rfl⟩
        · have hF : numFrom 16 acc (c :: bs.drop (k + 1)) = numFrom 16 (acc * 16 + (c.toNat - 87)) (bs.drop (k + 1)) := by rw [numFrom, hfig]; dsimp only; rw [if_pos (by omega)]
          have HN : Hid (a * 16 + ((c.toNat : Int) - 97 + 10) = ((acc * 16 + (c.toNat - 87) : Nat) : Int) ∧ acc * 16 + (c.toNat - 87) < 18446744073709551616 ∧ numFrom 16 0 bs = numFrom 16 (acc * 16 + (c.toNat - 87)) (bs.drop (k + 1))) := Lib.hid ⟨by omega, by omega, hdec.trans hF⟩
          have icut : a < 1152921504606846976 := by omega
          have iov : a * 16 + ((c.toNat : Int) - 97 + 10) < 18446744073709551616 := by omega
          clear hcut hacc hF hdec ha hfig hin
          go_wp2_with (go_at_call 58; refine (Hlow.out _).mono ?_; rintro e w' ⟨rfl, rfl⟩)
          refine ⟨⟨k + 1, acc * 16 + (c.toNat - 87), a * 16 + ((c.toNat : Int) - 97 + 10), rfl, (by first | rfl | (congr 1; omega)), (by first | rfl | (congr 1; omega)), by omega, HN⟩, by simp [RowKit.intOf]; omega⟩
    · have hkk : k = t.size := by omega
      subst hkk
      have hF : numFrom 16 acc (bs.drop t.size) = some acc := by rw [List.drop_eq_nil_of_le (by omega)]; rfl
      rw [hF] at hdec
      subst ha
      clear hacc hF a0 a1
      go_wp2
      go_ret2
      first | exact ⟨rfl, rfl⟩ | exact ⟨by rw [hdec]; rfl, rfl⟩
end Go.Proofs.YtlmobmbglninkaaDoor
