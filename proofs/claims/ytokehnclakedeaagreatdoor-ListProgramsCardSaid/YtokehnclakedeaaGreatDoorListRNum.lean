/- The document's number (strainerref03) at every text. -/
import Derived.Test.YtokehnclakedeaaGreatDoorListWsP
import Derived.Deep.LoopGhost
namespace Go.Proofs.YtokehnclakedeaaGreatDoor
open Go Go.Proofs Go.RowKit

theorem nodigit {c : UInt8} (h : c.toNat < 48 ∨ 57 < c.toNat) : decS10.contains c = false := by
  have h1 := base_fig (.inl rfl : (10 : Nat) = 10 ∨ 10 = 16) c
  rw [show baseS 10 = decS10 from rfl] at h1
  rw [h1]
  unfold figV
  rw [if_neg (by omega)]
  split
  · rename_i d hd
    split at hd
    · cases hd
      simp
      omega
    · cases hd
  · rfl
theorem digit_fig {c : UInt8} (h : 48 ≤ c.toNat ∧ c.toNat ≤ 57) : figV c = some (c.toNat - 48) := by
  unfold figV
  rw [if_pos h]
theorem listSize (s : ByteArray) : s.data.toList.length = s.size := Array.length_toList
def limE (l : List UInt8) (bits : Nat) (e : Ending) : Prop := ∃ v : Int, e = .returned (.tuple #[.int .i64 v, .bool (numV l bits).isSome]) ∧ ∀ n : Nat, numV l bits = some n → v = (n : Int)
theorem numV_short {l : List UInt8} {bits : Nat} (h : ¬ l.length ≤ 10) : numV l bits = none := by unfold numV; rw [if_neg h]
theorem numV_nil (bits : Nat) : numV [] bits = none := rfl
theorem numV_zero {l : List UInt8} {bits : Nat} (h : l.head? = some 48 ∧ l ≠ [48]) : numV l bits = none := by
  have h2 : numRest 10 l = none := by unfold numRest; rw [if_pos (Or.inr h)]
  unfold numV
  rw [h2]
  split <;> rfl
theorem numFrom_pow : ∀ (l : List UInt8) (a n : Nat), numFrom 10 a l = some n → n < (a + 1) * 10 ^ l.length := fun l a n h => numFrom_bound l a n h

set_option maxRecDepth 100000 in
set_option maxHeartbeats 8000000 in
theorem rnumber3_any (s : ByteArray) (bits : Nat) (hbits : bits ≤ 32) (w : World) :
    Calls Tryz.prog 19 #[.string s, .int .i64 ((2 ^ bits : Nat) : Int)] w fun e w' => limE s.data.toList bits e ∧ w = w' := by
  have hl := listSize s
  have hpow : 2 ^ bits ≤ 2 ^ 32 := Nat.pow_le_pow_right (by decide) hbits
  obtain ⟨LIM, hLIM⟩ : ∃ L, 2 ^ bits = L := ⟨_, rfl⟩
  have HLM := Lib.hid hLIM
  rw [hLIM] at hpow ⊢
  have hneg : ∀ e : Ending, e = .returned (.tuple #[.int .i64 0, .bool false]) → numV s.data.toList bits = none → limE s.data.toList bits e := fun e he hn => ⟨0, by rw [hn]; exact he, fun n h => by rw [hn] at h; cases h⟩
  have HNEG := Lib.hid hneg
  clear hneg hLIM
  by_cases h0 : s.size = 0
  · have hn : numV s.data.toList bits = none := by rw [List.eq_nil_of_length_eq_zero (by omega : s.data.toList.length = 0)]; rfl
    have HN := Lib.hid hn
    have h0z : (s.size : Int) = 0 := by omega
    clear hn hl h0 hpow
    go_enter Tryz.func19, Tryz.ntmps19
    go_wp2
    go_ret2
    exact ⟨HNEG.out _ rfl HN.out, rfl⟩
  have h0z : ¬ (s.size : Int) = 0 := by omega
  have h0p : (0 : Int) < (s.size : Int) := by omega
  have h0b : ((s.size : Int) == 0) = false := by simpa using h0z
  by_cases h10 : 10 < s.size
  · have hn : numV s.data.toList bits = none := numV_short (by omega)
    have HN := Lib.hid hn
    have h10z : (10 : Int) < (s.size : Int) := by omega
    clear hn hl h0 hpow h10
    go_enter Tryz.func19, Tryz.ntmps19
    go_wp2
    go_ret2
    exact ⟨HNEG.out _ rfl HN.out, rfl⟩
  have h10z : ¬ (10 : Int) < (s.size : Int) := by omega
  have hp0 : 0 < s.size := by omega
  have hhd := head_get s hp0
  by_cases hz : s[0]'hp0 = 48 ∧ 1 < s.size
  · have hn : numV s.data.toList bits = none := numV_zero ⟨by rw [hhd, hz.1], fun e => by have := congrArg List.length e; rw [hl] at this; simp at this; omega⟩
    have HN := Lib.hid hn
    have z1 : (((s[0]'hp0).toNat : Nat) : Int) = 48 := by rw [hz.1]; rfl
    have z2 : (1 : Int) < (s.size : Int) := by omega
    clear hn hl h0 hpow h10 hz hhd
    go_enter Tryz.func19, Tryz.ntmps19
    go_wp2
    go_ret2
    exact ⟨HNEG.out _ rfl HN.out, rfl⟩
  have hrest : numRest 10 s.data.toList = numFrom 10 0 s.data.toList := by
    unfold numRest
    rw [if_neg]
    rintro (h | ⟨h1, h2⟩)
    · rw [h] at hl; simp at hl; omega
    · rw [hhd] at h1
      refine hz ⟨Option.some.inj h1, ?_⟩
      apply Classical.byContradiction
      intro h3
      have : s.data.toList.length = 1 := by omega
      obtain ⟨a, ha⟩ := List.length_eq_one_iff.1 this
      rw [ha] at hhd h2
      simp at hhd
      exact h2 (by rw [hhd, Option.some.inj h1])
  have HREST := Lib.hid hrest
  have hdz : (((s[0]'hp0).toNat : Nat) : Int) = 48 ∧ (s.size : Int) = 1 ∨ ¬ (((s[0]'hp0).toNat : Nat) : Int) = 48 := by
    by_cases h : s[0]'hp0 = 48
    · exact .inl ⟨by rw [h]; rfl, by have : ¬ 1 < s.size := fun h2 => hz ⟨h, h2⟩; omega⟩
    · exact .inr (fun e => h (UInt8.toNat_inj.1 (by simpa using Int.ofNat.inj e)))
  have HL := Lib.hid hl
  have HPW := Lib.hid hpow
  clear hrest hz hhd hl hpow h0 h10
  go_enter Tryz.func19, Tryz.ntmps19
  rcases hdz with ⟨z1, z2⟩ | z1
  all_goals
    go_upto_region 5 with fail
    go_loopg [6, 7] (s.size + 1) (fun gg s6 s7 wr => w = wr ∧ ∃ (i a : Nat), i ≤ s.size ∧ s.size - i < gg ∧ s7 = .int .i64 i ∧ s6 = .int .i64 a ∧ Hid (numFrom 10 0 (s.data.toList.take i) = some a))
    case atStart => exact ⟨rfl, 0, 0, Nat.zero_le _, by omega, rfl, rfl, rfl⟩
    case round =>
      obtain ⟨rfl, i, a, hi, hg, rfl, rfl, HR⟩ := hrel
      have hab : a < 10000000000 := by
        have h1 := numFrom_bound _ _ _ HR.out
        rw [List.length_take, HL.out] at h1
        have h2 : 10 ^ (min i s.size) ≤ 10 ^ 10 := Nat.pow_le_pow_right (by decide) (by omega)
        omega
      by_cases hlt : i < s.size
      · have hltz : (i : Int) < (s.size : Int) := by omega
        have hi0 : (0 : Int) ≤ (i : Int) := by omega
        have hget : s.data.toList[i]? = some (s[i]'hlt) := by rw [List.getElem?_eq_getElem (by rw [HL.out]; exact hlt)]; rfl
        obtain ⟨C, hC⟩ : ∃ C, s[i]'hlt = C := ⟨_, rfl⟩
        have hmem : C ∈ s.data.toList := by rw [← hC]; exact List.mem_of_getElem? hget
        have htk : s.data.toList.take (i + 1) = s.data.toList.take i ++ [C] := by rw [List.take_add_one, hget, hC]; rfl
        have HCC := Lib.hid hC
        by_cases hd : 48 ≤ C.toNat ∧ C.toNat ≤ 57
        · have HR2 : Hid (numFrom 10 0 (s.data.toList.take (i + 1)) = some (a * 10 + (C.toNat - 48))) := by
            show _ = _
            rw [htk, numFrom_snoc, HR.out, digit_fig hd]
            show (if C.toNat - 48 < 10 ∧ a * 10 + (C.toNat - 48) < 18446744073709551616 then _ else _) = _
            rw [if_pos ⟨by omega, by omega⟩]
          have e1 : ¬ (((s[i]'hlt).toNat : Nat) : Int) < 48 := by rw [hC]; omega
          have e2 : ¬ (57 : Int) < (((s[i]'hlt).toNat : Nat) : Int) := by rw [hC]; omega
          have e3 : IntKind.u8.wrap ((((s[i]'hlt).toNat : Nat) : Int) - 48) = (((s[i]'hlt).toNat : Nat) : Int) - 48 := IntWalk.u8_in _ (by rw [hC]; omega)
          have HD := Lib.hid hd
          clear hC hd hget hmem htk HR
          go_wp2
          go_roundg (s.size - i)
          case measure => omega
          case rel =>
            refine ⟨rfl, i + 1, _, by omega, by omega, by go_num, ?_, HR2⟩
            have h1 := HD.out.1
            have h2 := HCC.out
            rw [h2]
            congr 1
            first
              | omega
              | (rw [IntWalk.i64_in _ (by omega)]; omega)
        · have hbad : numFrom 10 0 s.data.toList = none := numFrom_bad (.inl rfl) _ _ ⟨C, hmem, nodigit (by omega)⟩
          have HN : Hid (numV s.data.toList bits = none) := by
            show _ = _
            unfold numV
            rw [HREST.out, hbad]
            split <;> rfl
          have hd2 : (((s[i]'hlt).toNat : Nat) : Int) < 48 ∨ (¬ (((s[i]'hlt).toNat : Nat) : Int) < 48 ∧ (57 : Int) < (((s[i]'hlt).toNat : Nat) : Int)) := by rw [hC]; omega
          clear hC hd hget hmem htk HR hbad
          rcases hd2 with e1 | ⟨e1, e2⟩
          all_goals
            go_wp2
            go_ret2
            exact ⟨HNEG.out _ rfl HN.out, rfl⟩
      · obtain rfl : i = s.size := by omega
        have hv : numV s.data.toList bits = if a < LIM then some a else none := by
          have hall : s.data.toList.take s.size = s.data.toList := List.take_of_length_le (by rw [HL.out]; exact Nat.le_refl _)
          have h1 := HR.out
          rw [hall] at h1
          unfold numV
          rw [if_pos (by have := HL.out; omega), HREST.out, h1, ← HLM.out]
          rfl
        have HV := Lib.hid hv
        clear hv HR
        by_cases hlim : a < LIM
        · have e1 : (a : Int) < (LIM : Int) := by omega
          have HV2 : Hid (numV s.data.toList bits = some a) := by show _ = _; rw [HV.out, if_pos hlim]
          clear HV hlim
          go_wp2
          go_ret2
          exact ⟨⟨a, by rw [HV2.out]; rfl, fun n h => by rw [HV2.out] at h; cases h; rfl⟩, rfl⟩
        · have e1 : ¬ (a : Int) < (LIM : Int) := by omega
          have HV2 : Hid (numV s.data.toList bits = none) := by show _ = _; rw [HV.out, if_neg hlim]
          clear HV hlim
          go_wp2
          go_ret2
          exact ⟨⟨a, by rw [HV2.out]; rfl, fun n h => by rw [HV2.out] at h; cases h⟩, rfl⟩
end Go.Proofs.YtokehnclakedeaaGreatDoor
