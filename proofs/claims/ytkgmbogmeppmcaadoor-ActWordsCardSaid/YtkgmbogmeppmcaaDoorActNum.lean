/- strainerref09.Number: plain digits. -/
import Derived.Test.YtkgmbogmeppmcaaDoorActTxt
import Derived.Lib.Atoi
namespace Go.Proofs.YtkgmbogmeppmcaaDoor
open Go Go.Proofs Go.RowKit

/-- The number that plain digits spell; none: they are none. -/
def refNum (s : ByteArray) : Option Nat :=
  if s.size = 0 ∨ 9 < s.size ∨ (s.data.toList.head? = some 48 ∧ 1 < s.size) then none else Lib.decFrom 0 s.data.toList
theorem decFrom_bad : ∀ (l : List UInt8) (k acc : Nat) (b : UInt8), l[k]? = some b → Lib.digitVal b = none → Lib.decFrom acc l = none
  | [], k, _, b, h, _ => by simp at h
  | x :: r, 0, acc, b, h, hb => by
    simp only [List.getElem?_cons_zero, Option.some.injEq] at h
    subst h
    simp [Lib.decFrom, hb]
  | x :: r, k + 1, acc, b, h, hb => by
    simp only [List.getElem?_cons_succ] at h
    unfold Lib.decFrom
    split
    · exact decFrom_bad r k _ b h hb
    · rfl
def numV (s : ByteArray) : Value := .tuple #[.int .i64 (((refNum s).getD 0 : Nat) : Int), .bool (refNum s).isSome]
theorem byte_get (s : ByteArray) (j : Nat) (h : j < s.size) : s.data.toList[j]? = some (s[j]'h) := by
  have h' : j < s.data.toList.length := by rw [Array.length_toList]; exact h
  rw [List.getElem?_eq_getElem h']
  rfl

set_option maxRecDepth 100000 in
set_option maxHeartbeats 1000000 in
theorem refNumber_any (s : ByteArray) (w : World) : Calls Tryd.prog 50 #[.string s] w fun e w' => e = .returned (numV s) ∧ w = w' := by
  by_cases h0 : s.size = 0
  · have hv : numV s = .tuple #[.int .i64 0, .bool false] := by unfold numV refNum; rw [if_pos (.inl h0)]; rfl
    rw [hv]
    have hz : ((s.size : Int) == 0) = true := by simp [h0]
    clear hv
    go_enter Tryd.func50, Tryd.ntmps50
    go_wp2
    go_ret2
    exact ⟨rfl, rfl⟩
  have hz : ((s.size : Int) == 0) = false := by simpa using h0
  by_cases h9 : 9 < s.size
  · have hv : numV s = .tuple #[.int .i64 0, .bool false] := by unfold numV refNum; rw [if_pos (.inr (.inl h9))]; rfl
    rw [hv]
    have h9z : (9 : Int) < (s.size : Int) := by omega
    clear hv
    go_enter Tryd.func50, Tryd.ntmps50
    go_wp2
    go_ret2
    exact ⟨rfl, rfl⟩
  have h9z : ¬ (9 : Int) < (s.size : Int) := by omega
  have h00 : 0 < s.size := by omega
  have h00z : (0 : Int) < (s.size : Int) := by omega
  have hhd : s.data.toList.head? = some (s[0]'h00) := by rw [List.head?_eq_getElem?]; exact byte_get s 0 h00
  by_cases hc : (s[0]'h00) = 48 ∧ 1 < s.size
  · have hv : numV s = .tuple #[.int .i64 0, .bool false] := by unfold numV refNum; rw [if_pos (.inr (.inr ⟨by rw [hhd, hc.1], hc.2⟩))]; rfl
    rw [hv]
    have hb : ((((s[0]'h00).toNat : Nat) : Int) == 48) = true := by rw [hc.1]; rfl
    have h1z : (1 : Int) < (s.size : Int) := by omega
    clear hv hhd hc
    go_enter Tryd.func50, Tryd.ntmps50
    go_wp2
    go_ret2
    exact ⟨rfl, rfl⟩
  have hv : refNum s = Lib.decFrom 0 s.data.toList := by
    unfold refNum
    rw [if_neg]
    rintro (h | h | ⟨h, h'⟩)
    · exact h0 h
    · exact h9 h
    · rw [hhd] at h; exact hc ⟨Option.some.inj h, h'⟩
  have hloop : (((((s[0]'h00).toNat : Nat) : Int) == 48) = false ∧ ¬ (((s[0]'h00).toNat : Nat) : Int) = 48) ∨ (((((s[0]'h00).toNat : Nat) : Int) == 48) = true ∧ (((s[0]'h00).toNat : Nat) : Int) = 48 ∧ ¬ (1 : Int) < (s.size : Int)) := by
    by_cases hb : (s[0]'h00) = 48
    · right; exact ⟨by rw [hb]; rfl, by rw [hb]; rfl, fun h => hc ⟨hb, by omega⟩⟩
    · left
      have hn : ¬ (((s[0]'h00).toNat : Nat) : Int) = 48 := fun e => hb (UInt8.toNat_inj.1 (by simpa using Int.ofNat.inj e))
      exact ⟨by simpa using hn, hn⟩
  have HV := Lib.hid hv
  clear hv hhd hc h0
  rcases hloop with ⟨hb, hb2⟩ | ⟨hb, hb2, h1z⟩
  all_goals
    go_enter Tryd.func50, Tryd.ntmps50
    go_upto_region 5 with fail
    clear hb hb2
    go_loopg [4, 5] s.size (fun gg s4 s5 wr => w = wr ∧ ∃ kk n : Nat, kk ≤ s.size ∧ s.size - kk ≤ gg ∧ s5 = .int .i64 kk ∧ s4 = .int .i64 n ∧ n < 10 ^ kk ∧ Hid (Lib.decFrom 0 (s.data.toList.take kk) = some n))
    case atStart => exact ⟨rfl, 0, 0, Nat.zero_le _, by omega, rfl, rfl, by decide, rfl⟩
    case round =>
      obtain ⟨rfl, kk, n, hkk, hg, rfl, rfl, hpow, A⟩ := hrel
      have hp9 : (10 : Nat) ^ kk ≤ 10 ^ 9 := Nat.pow_le_pow_right (by decide) (by omega)
      have hn9 : n < 1000000000 := Nat.lt_of_lt_of_le hpow hp9
      by_cases hlt : kk < s.size
      · have hltz : (kk : Int) < (s.size : Int) := by omega
        have hltz0 : (0 : Int) ≤ (kk : Int) := by omega
        have hget := byte_get s kk hlt
        have hcb := (s[kk]'hlt).toNat_lt
        by_cases d0 : 48 ≤ (s[kk]'hlt).toNat
        · have d0z : ¬ (((s[kk]'hlt).toNat : Nat) : Int) < 48 := by omega
          by_cases d1 : (s[kk]'hlt).toNat ≤ 57
          · have d1z : ¬ (57 : Int) < (((s[kk]'hlt).toNat : Nat) : Int) := by omega
            have hdv : Lib.digitVal (s[kk]'hlt) = some ((s[kk]'hlt).toNat - 48) := by unfold Lib.digitVal; rw [if_pos ⟨d0, d1⟩]
            have hst := Lib.decFrom_take _ kk 0 n _ _ A.out hget hdv
            have HST := Lib.hid hst
            have w1 : IntKind.i64.wrap (10 * (n : Int)) = 10 * (n : Int) := IntWalk.i64_in _ (by omega)
            have w2 : IntKind.u8.wrap ((((s[kk]'hlt).toNat : Nat) : Int) - 48) = (((s[kk]'hlt).toNat : Nat) : Int) - 48 := by show (_ : Int) % 256 = _; omega
            have w3 : IntKind.i64.wrap ((((s[kk]'hlt).toNat : Nat) : Int) - 48) = (((s[kk]'hlt).toNat : Nat) : Int) - 48 := IntWalk.i64_in _ (by omega)
            have w4 : IntKind.i64.wrap (10 * (n : Int) + ((((s[kk]'hlt).toNat : Nat) : Int) - 48)) = 10 * (n : Int) + ((((s[kk]'hlt).toNat : Nat) : Int) - 48) := IntWalk.i64_in _ (by omega)
            clear hst hget hdv A
            go_wp2
            go_roundg (s.size - (kk + 1))
            case measure => omega
            case rel =>
              refine ⟨rfl, kk + 1, n * 10 + ((s[kk]'hlt).toNat - 48), by omega, by omega, by go_num, ?_, ?_, HST⟩
              · congr 1; push_cast; omega
              · rw [Nat.pow_succ]; omega
          · have d1z : (57 : Int) < (((s[kk]'hlt).toNat : Nat) : Int) := by omega
            have hbad := decFrom_bad s.data.toList kk 0 _ hget (by unfold Lib.digitVal; rw [if_neg (fun h => d1 h.2)])
            have HB : Hid (numV s = .tuple #[.int .i64 0, .bool false]) := by show numV s = _; unfold numV; rw [HV.out, hbad]; rfl
            clear hbad hget A
            go_wp2
            go_ret2
            exact ⟨congrArg Ending.returned HB.out.symm, rfl⟩
        · have d0z : (((s[kk]'hlt).toNat : Nat) : Int) < 48 := by omega
          have hbad := decFrom_bad s.data.toList kk 0 _ hget (by unfold Lib.digitVal; rw [if_neg (fun h => d0 h.1)])
          have HB : Hid (numV s = .tuple #[.int .i64 0, .bool false]) := by show numV s = _; unfold numV; rw [HV.out, hbad]; rfl
          clear hbad hget A
          go_wp2
          go_ret2
          exact ⟨congrArg Ending.returned HB.out.symm, rfl⟩
      · have hltz : ¬ (kk : Int) < (s.size : Int) := by omega
        have hall : Lib.decFrom 0 s.data.toList = some n := by
          have := A.out
          rw [List.take_of_length_le (by rw [Array.length_toList]; show s.size ≤ kk; omega)] at this
          exact this
        have HB : Hid (numV s = .tuple #[.int .i64 n, .bool true]) := by show numV s = _; unfold numV; rw [HV.out, hall]; rfl
        clear hall A
        go_wp2
        go_ret2
        exact ⟨congrArg Ending.returned HB.out.symm, rfl⟩
end Go.Proofs.YtkgmbogmeppmcaaDoor
