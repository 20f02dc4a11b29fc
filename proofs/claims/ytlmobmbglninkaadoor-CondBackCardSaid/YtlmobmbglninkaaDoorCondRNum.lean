/- The document's Number, at every text. -/
import Derived.Test.YtlmobmbglninkaaDoorCondNumP
import Derived.Test.YtlmobmbglninkaaDoorCondNum
import Derived.Test.YtlmobmbglninkaaDoorIn
import Derived.Lib.Strings
import Derived.Lib.Hide
import Derived.WalkKit
import Derived.BigQuiet
import Derived.Deep.LoopGhost
namespace Go.Proofs.YtlmobmbglninkaaDoor
open Go Go.Proofs Go.RowKit

set_option maxRecDepth 100000 in
theorem digit_any (c : UInt8) (w : World) : Calls Tryd.prog 27 #[.int .u8 ((c.toNat : Nat) : Int)] w fun e w' => e = .returned (.int .u64 ((((figV c).getD 16 : Nat)) : Int)) ∧ Below w.heap.size w w' := by
  have h256 := c.toNat_lt
  by_cases h1 : 48 ≤ c.toNat ∧ c.toNat ≤ 57
  · have hv : figV c = some (c.toNat - 48) := by unfold figV; rw [if_pos h1]
    have hE : ((((figV c).getD 16 : Nat)) : Int) = ((c.toNat : Nat) : Int) - 48 := by rw [hv]; show ((c.toNat - 48 : Nat) : Int) = _; omega
    rw [hE]
    clear hv hE
    generalize c.toNat = k at *
    have a1 : (48 : Int) ≤ (k : Int) := by omega
    have a2 : (k : Int) ≤ 57 := by omega
    clear h1
    go_enter Tryd.func27, Tryd.ntmps27
    go_wp2
    go_ret
    exact ⟨rfl, Below.refl _ _⟩
  by_cases h2 : 97 ≤ c.toNat ∧ c.toNat ≤ 102
  · have hv : figV c = some (c.toNat - 87) := by unfold figV; rw [if_neg h1, if_pos h2]
    have hE : ((((figV c).getD 16 : Nat)) : Int) = ((c.toNat : Nat) : Int) - 97 + 10 := by rw [hv]; show ((c.toNat - 87 : Nat) : Int) = _; omega
    rw [hE]
    clear hv hE
    generalize c.toNat = k at *
    have a0 : (48 : Int) ≤ (k : Int) := by omega
    have a1 : (97 : Int) ≤ (k : Int) := by omega
    have a2 : (k : Int) ≤ 102 := by omega
    have a3 : ¬ (k : Int) ≤ 57 := by omega
    clear h1 h2
    go_enter Tryd.func27, Tryd.ntmps27
    go_wp2
    go_ret
    exact ⟨rfl, Below.refl _ _⟩
  · have hv : figV c = none := by unfold figV; rw [if_neg h1, if_neg h2]
    have hE : ((((figV c).getD 16 : Nat)) : Int) = 16 := by rw [hv]; rfl
    rw [hE]
    clear hv hE
    generalize c.toNat = k at *
    have hc : (k : Int) < 48 ∨ (57 < (k : Int) ∧ (k : Int) < 97) ∨ (102 < (k : Int)) := by omega
    clear h1 h2
    rcases hc with a1 | ⟨a1, a2⟩ | a1
    · have b1 : ¬ (48 : Int) ≤ (k : Int) := by omega
      have b2 : ¬ (97 : Int) ≤ (k : Int) := by omega
      go_enter Tryd.func27, Tryd.ntmps27
      go_wp2
      go_ret
      exact ⟨rfl, Below.refl _ _⟩
    · have b0 : (48 : Int) ≤ (k : Int) := by omega
      have b1 : ¬ (k : Int) ≤ 57 := by omega
      have b2 : ¬ (97 : Int) ≤ (k : Int) := by omega
      go_enter Tryd.func27, Tryd.ntmps27
      go_wp2
      go_ret
      exact ⟨rfl, Below.refl _ _⟩
    · have b0 : (48 : Int) ≤ (k : Int) := by omega
      have b1 : ¬ (k : Int) ≤ 57 := by omega
      have b2 : (97 : Int) ≤ (k : Int) := by omega
      have b3 : ¬ (k : Int) ≤ 102 := by omega
      go_enter Tryd.func27, Tryd.ntmps27
      go_wp2
      go_ret
      exact ⟨rfl, Below.refl _ _⟩

theorem figV_lt {c : UInt8} {x : Nat} (h : figV c = some x) : x < 16 := by
  unfold figV at h
  by_cases h1 : 48 ≤ c.toNat ∧ c.toNat ≤ 57
  · rw [if_pos h1] at h; have := Option.some.inj h; omega
  · rw [if_neg h1] at h
    by_cases h2 : 97 ≤ c.toNat ∧ c.toNat ≤ 102
    · rw [if_pos h2] at h; have := Option.some.inj h; omega
    · rw [if_neg h2] at h; cases h
theorem belB' {a W W' : World} (h : Hid (Below a.heap.size a W)) (hb : Below W.heap.size W W') : Hid (Below a.heap.size a W') := h.out.trans (hb.mono h.out.size)
theorem nrest {B : Nat} {r : ByteArray} (h0 : 0 < r.size) (h : ¬ (r[0]'h0 = 48 ∧ 1 < r.size)) : numRest B r.data.toList = numFrom B 0 r.data.toList := by
  unfold numRest
  rw [if_neg]
  have hl : r.data.toList.length = r.size := Array.length_toList
  rintro (h1 | ⟨h1, h2⟩)
  · rw [h1] at hl; simp at hl; omega
  · rw [head_get r h0] at h1
    have e := Option.some.inj h1
    refine h ⟨e, ?_⟩
    refine Classical.byContradiction fun h3 => h2 ?_
    have : r.size = 1 := by omega
    rw [this] at hl
    match hd : r.data.toList, hl with
    | [x], _ =>
      have := head_get r h0
      rw [hd] at this
      simp at this
      rw [this, e]


set_option maxRecDepth 100000 in
set_option maxHeartbeats 8000000 in
theorem refNum10 (r : ByteArray) (hs : r.size ≤ 1000000) (hp : 2 < r.size → ((r.extract 0 2).toList == [48, 120]) = false) (w : World) :
    Calls Tryd.prog 12 #[.string r] w fun e w' => e = .returned (.tuple #[.int .u64 (((numRest 10 r.data.toList).getD 0 : Nat) : Int), .bool (numRest 10 r.data.toList).isSome]) ∧ Below w.heap.size w w' := by
  have HBS : ∀ _ : Nat, Hid (Below w.heap.size w w) := fun _ => Below.refl _ w
  by_cases h2 : 2 < r.size
  · have h2z : (2 : Int) < (r.size : Int) := by omega
    have h2p := hp h2
    have h2q : ¬ (r.extract 0 2).toList = [48, 120] := by simpa using h2p
    have h2l : (2 : Int) ≤ (r.size : Int) := by omega
    clear hp
    have h00 : 0 < r.size := by omega
    have h00z : ¬ (r.size : Int) = 0 := by omega
    have h00b : ((r.size : Int) == 0) = false := by simpa using h00z
    have h00p : (0 : Int) < (r.size : Int) := by omega
    by_cases h48 : r[0]'h00 = 48
    · have hq2 : (((r[0]'h00).toNat : Nat) : Int) = 48 := by rw [h48]; rfl
      by_cases h1 : 1 < r.size
      · have h1z : (1 : Int) < (r.size : Int) := by omega
        have hN : numRest 10 r.data.toList = none := by
          unfold numRest
          rw [if_pos (.inr ⟨by rw [head_get r h00, h48], fun e => by have := congrArg List.length e; rw [Array.length_toList] at this; have e2 : r.size = 1 := this; omega⟩)]
        have HF := Lib.hid hN
        clear hN h48
        go_enter Tryd.func12, Tryd.ntmps12
        go_wp2
        go_ret2
        exact ⟨by rw [HF.out]; rfl, (HBS 0).out⟩
      · exact absurd (by omega : 1 < r.size) h1
    · have HNR := Lib.hid (nrest (B := 10) h00 (fun h => h48 h.1))
      have hq2 : ¬ (((r[0]'h00).toNat : Nat) : Int) = 48 := fun e => h48 (UInt8.toNat_inj.1 (by simpa using Int.ofNat.inj e))
      go_enter Tryd.func12, Tryd.ntmps12
      go_wp2
      go_loopg [5, 6] (r.size + 1) (fun gg s5 s6 wr => ∃ (k acc : Nat) (a : Int), s5 = .int .u64 a ∧ s6 = .int .i64 k ∧ k ≤ r.size ∧ r.size - k < gg ∧ Hid (a = (acc : Int) ∧ acc < 18446744073709551616 ∧ numFrom 10 0 r.data.toList = numFrom 10 acc (r.data.toList.drop k)) ∧ Hid (Below w.heap.size w wr))
      case atStart => exact ⟨0, 0, 0, rfl, rfl, by omega, by omega, (show Hid _ from ⟨rfl, by decide, rfl⟩), HBS 0⟩
      case round =>
        obtain ⟨k, acc, a, rfl, rfl, hk, hg, HA, HB⟩ := hrel
        obtain ⟨ha, hacc, hdec⟩ := HA.out
        have a0 : 0 ≤ a := by omega
        have a1 : a < 18446744073709551616 := by omega
        have hmx : (r.size : Int) ≤ 9223372036854775807 := by omega
        by_cases hlt : k < r.size
        · have hdr : r.data.toList.drop k = (r[k]'hlt) :: r.data.toList.drop (k + 1) := by
            rw [List.drop_eq_getElem_cons (by rw [Array.length_toList]; exact hlt)]
            rfl
          have hz : (k : Int) < (r.size : Int) := by omega
          have hz0 : (0 : Int) ≤ (k : Int) := by omega
          rw [hdr] at hdec
          have hdig := fun W => digit_any (r[k]'hlt) W
          obtain ⟨d, hd⟩ : ∃ d, (figV (r[k]'hlt)).getD 16 = d := ⟨_, rfl⟩
          rw [hd] at hdig
          have hd16 : d ≤ 16 := by
            cases hf : figV (r[k]'hlt) with
            | none => rw [hf] at hd; have : 16 = d := hd; omega
            | some x => rw [hf] at hd; have : x = d := hd; have := figV_lt hf; omega
          have HDG := Lib.hid hdig
          clear hdig hdr HA
          by_cases hB : 10 ≤ d
          · have hF : numRest 10 r.data.toList = none := by
              rw [HNR.out, hdec]
              unfold numFrom
              cases hf : figV (r[k]'hlt) with
              | none => rfl
              | some x => rw [hf] at hd; have : x = d := hd; dsimp only; rw [if_neg (by omega)]
            have hBz : (10 : Int) ≤ (d : Int) := by omega
            have HF := Lib.hid hF
            clear hF hdec hd ha hacc
            go_wp2_with fail
            refine (HDG.out _).mono ?_
            rintro e w2 ⟨rfl, hb2⟩
            go_wp2
            go_ret2
            exact ⟨by rw [HF.out]; rfl, (belB' HB hb2).out⟩
          · have hf : figV (r[k]'hlt) = some d := by
              cases hf : figV (r[k]'hlt) with
              | none => rw [hf] at hd; have : 16 = d := hd; omega
              | some x => rw [hf] at hd; have : x = d := hd; rw [this]
            have hBz : ¬ (10 : Int) ≤ (d : Int) := by omega
            have hw1 : IntKind.u64.wrap (18446744073709551615 - (d : Int)) = 18446744073709551615 - (d : Int) := by rw [IntKind.wrap_u64]; omega
            obtain ⟨Q, hQ, hQe⟩ : ∃ Q : Int, (18446744073709551615 - (d : Int)).tdiv 10 = Q ∧ Q = (18446744073709551615 - (d : Int)) / 10 := ⟨_, rfl, Int.tdiv_eq_ediv_of_nonneg (by omega)⟩
            have hQw : IntKind.u64.wrap Q = Q := by rw [IntKind.wrap_u64]; omega
            by_cases hov : Q < a
            · have hF : numRest 10 r.data.toList = none := by
                rw [HNR.out, hdec]
                unfold numFrom
                rw [hf]
                dsimp only
                rw [if_neg (by omega)]
              have HF := Lib.hid hF
              clear hF hdec hd ha hacc hQe hf
              go_wp2_with fail
              refine (HDG.out _).mono ?_
              rintro e w2 ⟨rfl, hb2⟩
              go_wp2
              go_ret2
              exact ⟨by rw [HF.out]; rfl, (belB' HB hb2).out⟩
            · have hfit : a * 10 + (d : Int) < 18446744073709551616 := by omega
              have hF : Hid (a * 10 + (d : Int) = ((acc * 10 + d : Nat) : Int) ∧ acc * 10 + d < 18446744073709551616 ∧ numFrom 10 0 r.data.toList = numFrom 10 (acc * 10 + d) (r.data.toList.drop (k + 1))) := by
                refine ⟨by omega, by omega, ?_⟩
                rw [hdec, numFrom, hf]
                dsimp only
                rw [if_pos (by omega)]
              have hm1 : IntKind.u64.wrap (a * 10) = a * 10 := by rw [IntKind.wrap_u64]; omega
              have hm2 : IntKind.u64.wrap (a * 10 + (d : Int)) = a * 10 + (d : Int) := by rw [IntKind.wrap_u64]; omega
              clear hdec hd ha hacc hQe hf
              go_wp2_with fail
              refine (HDG.out _).mono ?_
              rintro e w2 ⟨rfl, hb2⟩
              have HB2 := belB' HB hb2
              clear hb2 HB HDG
              go_wp2
              go_roundg (r.size - k)
              case measure => omega
              case rel => exact ⟨k + 1, acc * 10 + d, a * 10 + (d : Int), rfl, by first | rfl | go_num, by omega, by omega, hF, HB2⟩
        · obtain rfl : k = r.size := by omega
          have hN : numRest 10 r.data.toList = some acc := by
            rw [HNR.out, hdec, List.drop_eq_nil_of_le (by rw [Array.length_toList]; exact Nat.le_refl _)]
            rfl
          have HN' := Lib.hid hN
          subst ha
          clear hN hdec
          go_wp2
          go_ret2
          exact ⟨by rw [HN'.out]; rfl, HB.out⟩
  · have h2z : ¬ (2 : Int) < (r.size : Int) := by omega
    clear hp
    by_cases h0 : r.size = 0
    · have hN : numRest 10 r.data.toList = none := by
          unfold numRest
          exact if_pos (.inl (size_nil h0))
      have HF := Lib.hid hN
      have h00z : (r.size : Int) = 0 := by omega
      have h00b : ((r.size : Int) == 0) = true := by simpa using h00z
      clear hN h0
      go_enter Tryd.func12, Tryd.ntmps12
      go_wp2
      go_ret2
      exact ⟨by rw [HF.out]; rfl, (HBS 0).out⟩
    have h00 : 0 < r.size := by omega
    have h00z : ¬ (r.size : Int) = 0 := by omega
    have h00b : ((r.size : Int) == 0) = false := by simpa using h00z
    have h00p : (0 : Int) < (r.size : Int) := by omega
    by_cases h48 : r[0]'h00 = 48
    · have hq2 : (((r[0]'h00).toNat : Nat) : Int) = 48 := by rw [h48]; rfl
      by_cases h1 : 1 < r.size
      · have h1z : (1 : Int) < (r.size : Int) := by omega
        have hN : numRest 10 r.data.toList = none := by
          unfold numRest
          rw [if_pos (.inr ⟨by rw [head_get r h00, h48], fun e => by have := congrArg List.length e; rw [Array.length_toList] at this; have e2 : r.size = 1 := this; omega⟩)]
        have HF := Lib.hid hN
        clear hN h48
        go_enter Tryd.func12, Tryd.ntmps12
        go_wp2
        go_ret2
        exact ⟨by rw [HF.out]; rfl, (HBS 0).out⟩
      · have h1z : ¬ (1 : Int) < (r.size : Int) := by omega
        have HNR := Lib.hid (nrest (B := 10) h00 (fun h => h1 h.2))
        go_enter Tryd.func12, Tryd.ntmps12
        go_wp2
        go_loopg [5, 6] (r.size + 1) (fun gg s5 s6 wr => ∃ (k acc : Nat) (a : Int), s5 = .int .u64 a ∧ s6 = .int .i64 k ∧ k ≤ r.size ∧ r.size - k < gg ∧ Hid (a = (acc : Int) ∧ acc < 18446744073709551616 ∧ numFrom 10 0 r.data.toList = numFrom 10 acc (r.data.toList.drop k)) ∧ Hid (Below w.heap.size w wr))
        case atStart => exact ⟨0, 0, 0, rfl, rfl, by omega, by omega, (show Hid _ from ⟨rfl, by decide, rfl⟩), HBS 0⟩
        case round =>
          obtain ⟨k, acc, a, rfl, rfl, hk, hg, HA, HB⟩ := hrel
          obtain ⟨ha, hacc, hdec⟩ := HA.out
          have a0 : 0 ≤ a := by omega
          have a1 : a < 18446744073709551616 := by omega
          have hmx : (r.size : Int) ≤ 9223372036854775807 := by omega
          by_cases hlt : k < r.size
          · have hdr : r.data.toList.drop k = (r[k]'hlt) :: r.data.toList.drop (k + 1) := by
              rw [List.drop_eq_getElem_cons (by rw [Array.length_toList]; exact hlt)]
              rfl
            have hz : (k : Int) < (r.size : Int) := by omega
            have hz0 : (0 : Int) ≤ (k : Int) := by omega
            rw [hdr] at hdec
            have hdig := fun W => digit_any (r[k]'hlt) W
            obtain ⟨d, hd⟩ : ∃ d, (figV (r[k]'hlt)).getD 16 = d := ⟨_, rfl⟩
            rw [hd] at hdig
            have hd16 : d ≤ 16 := by
              cases hf : figV (r[k]'hlt) with
              | none => rw [hf] at hd; have : 16 = d := hd; omega
              | some x => rw [hf] at hd; have : x = d := hd; have := figV_lt hf; omega
            have HDG := Lib.hid hdig
            clear hdig hdr HA
            by_cases hB : 10 ≤ d
            · have hF : numRest 10 r.data.toList = none := by
                rw [HNR.out, hdec]
                unfold numFrom
                cases hf : figV (r[k]'hlt) with
                | none => rfl
                | some x => rw [hf] at hd; have : x = d := hd; dsimp only; rw [if_neg (by omega)]
              have hBz : (10 : Int) ≤ (d : Int) := by omega
              have HF := Lib.hid hF
              clear hF hdec hd ha hacc
              go_wp2_with fail
              refine (HDG.out _).mono ?_
              rintro e w2 ⟨rfl, hb2⟩
              go_wp2
              go_ret2
              exact ⟨by rw [HF.out]; rfl, (belB' HB hb2).out⟩
            · have hf : figV (r[k]'hlt) = some d := by
                cases hf : figV (r[k]'hlt) with
                | none => rw [hf] at hd; have : 16 = d := hd; omega
                | some x => rw [hf] at hd; have : x = d := hd; rw [this]
              have hBz : ¬ (10 : Int) ≤ (d : Int) := by omega
              have hw1 : IntKind.u64.wrap (18446744073709551615 - (d : Int)) = 18446744073709551615 - (d : Int) := by rw [IntKind.wrap_u64]; omega
              obtain ⟨Q, hQ, hQe⟩ : ∃ Q : Int, (18446744073709551615 - (d : Int)).tdiv 10 = Q ∧ Q = (18446744073709551615 - (d : Int)) / 10 := ⟨_, rfl, Int.tdiv_eq_ediv_of_nonneg (by omega)⟩
              have hQw : IntKind.u64.wrap Q = Q := by rw [IntKind.wrap_u64]; omega
              by_cases hov : Q < a
              · have hF : numRest 10 r.data.toList = none := by
                  rw [HNR.out, hdec]
                  unfold numFrom
                  rw [hf]
                  dsimp only
                  rw [if_neg (by omega)]
                have HF := Lib.hid hF
                clear hF hdec hd ha hacc hQe hf
                go_wp2_with fail
                refine (HDG.out _).mono ?_
                rintro e w2 ⟨rfl, hb2⟩
                go_wp2
                go_ret2
                exact ⟨by rw [HF.out]; rfl, (belB' HB hb2).out⟩
              · have hfit : a * 10 + (d : Int) < 18446744073709551616 := by omega
                have hF : Hid (a * 10 + (d : Int) = ((acc * 10 + d : Nat) : Int) ∧ acc * 10 + d < 18446744073709551616 ∧ numFrom 10 0 r.data.toList = numFrom 10 (acc * 10 + d) (r.data.toList.drop (k + 1))) := by
                  refine ⟨by omega, by omega, ?_⟩
                  rw [hdec, numFrom, hf]
                  dsimp only
                  rw [if_pos (by omega)]
                have hm1 : IntKind.u64.wrap (a * 10) = a * 10 := by rw [IntKind.wrap_u64]; omega
                have hm2 : IntKind.u64.wrap (a * 10 + (d : Int)) = a * 10 + (d : Int) := by rw [IntKind.wrap_u64]; omega
                clear hdec hd ha hacc hQe hf
                go_wp2_with fail
                refine (HDG.out _).mono ?_
                rintro e w2 ⟨rfl, hb2⟩
                have HB2 := belB' HB hb2
                clear hb2 HB HDG
                go_wp2
                go_roundg (r.size - k)
                case measure => omega
                case rel => exact ⟨k + 1, acc * 10 + d, a * 10 + (d : Int), rfl, by first | rfl | go_num, by omega, by omega, hF, HB2⟩
          · obtain rfl : k = r.size := by omega
            have hN : numRest 10 r.data.toList = some acc := by
              rw [HNR.out, hdec, List.drop_eq_nil_of_le (by rw [Array.length_toList]; exact Nat.le_refl _)]
              rfl
            have HN' := Lib.hid hN
            subst ha
            clear hN hdec
            go_wp2
            go_ret2
            exact ⟨by rw [HN'.out]; rfl, HB.out⟩
    · have HNR := Lib.hid (nrest (B := 10) h00 (fun h => h48 h.1))
      have hq2 : ¬ (((r[0]'h00).toNat : Nat) : Int) = 48 := fun e => h48 (UInt8.toNat_inj.1 (by simpa using Int.ofNat.inj e))
      go_enter Tryd.func12, Tryd.ntmps12
      go_wp2
      go_loopg [5, 6] (r.size + 1) (fun gg s5 s6 wr => ∃ (k acc : Nat) (a : Int), s5 = .int .u64 a ∧ s6 = .int .i64 k ∧ k ≤ r.size ∧ r.size - k < gg ∧ Hid (a = (acc : Int) ∧ acc < 18446744073709551616 ∧ numFrom 10 0 r.data.toList = numFrom 10 acc (r.data.toList.drop k)) ∧ Hid (Below w.heap.size w wr))
      case atStart => exact ⟨0, 0, 0, rfl, rfl, by omega, by omega, (show Hid _ from ⟨rfl, by decide, rfl⟩), HBS 0⟩
      case round =>
        obtain ⟨k, acc, a, rfl, rfl, hk, hg, HA, HB⟩ := hrel
        obtain ⟨ha, hacc, hdec⟩ := HA.out
        have a0 : 0 ≤ a := by omega
        have a1 : a < 18446744073709551616 := by omega
        have hmx : (r.size : Int) ≤ 9223372036854775807 := by omega
        by_cases hlt : k < r.size
        · have hdr : r.data.toList.drop k = (r[k]'hlt) :: r.data.toList.drop (k + 1) := by
            rw [List.drop_eq_getElem_cons (by rw [Array.length_toList]; exact hlt)]
            rfl
          have hz : (k : Int) < (r.size : Int) := by omega
          have hz0 : (0 : Int) ≤ (k : Int) := by omega
          rw [hdr] at hdec
          have hdig := fun W => digit_any (r[k]'hlt) W
          obtain ⟨d, hd⟩ : ∃ d, (figV (r[k]'hlt)).getD 16 = d := ⟨_, rfl⟩
          rw [hd] at hdig
          have hd16 : d ≤ 16 := by
            cases hf : figV (r[k]'hlt) with
            | none => rw [hf] at hd; have : 16 = d := hd; omega
            | some x => rw [hf] at hd; have : x = d := hd; have := figV_lt hf; omega
          have HDG := Lib.hid hdig
          clear hdig hdr HA
          by_cases hB : 10 ≤ d
          · have hF : numRest 10 r.data.toList = none := by
              rw [HNR.out, hdec]
              unfold numFrom
              cases hf : figV (r[k]'hlt) with
              | none => rfl
              | some x => rw [hf] at hd; have : x = d := hd; dsimp only; rw [if_neg (by omega)]
            have hBz : (10 : Int) ≤ (d : Int) := by omega
            have HF := Lib.hid hF
            clear hF hdec hd ha hacc
            go_wp2_with fail
            refine (HDG.out _).mono ?_
            rintro e w2 ⟨rfl, hb2⟩
            go_wp2
            go_ret2
            exact ⟨by rw [HF.out]; rfl, (belB' HB hb2).out⟩
          · have hf : figV (r[k]'hlt) = some d := by
              cases hf : figV (r[k]'hlt) with
              | none => rw [hf] at hd; have : 16 = d := hd; omega
              | some x => rw [hf] at hd; have : x = d := hd; rw [this]
            have hBz : ¬ (10 : Int) ≤ (d : Int) := by omega
            have hw1 : IntKind.u64.wrap (18446744073709551615 - (d : Int)) = 18446744073709551615 - (d : Int) := by rw [IntKind.wrap_u64]; omega
            obtain ⟨Q, hQ, hQe⟩ : ∃ Q : Int, (18446744073709551615 - (d : Int)).tdiv 10 = Q ∧ Q = (18446744073709551615 - (d : Int)) / 10 := ⟨_, rfl, Int.tdiv_eq_ediv_of_nonneg (by omega)⟩
            have hQw : IntKind.u64.wrap Q = Q := by rw [IntKind.wrap_u64]; omega
            by_cases hov : Q < a
            · have hF : numRest 10 r.data.toList = none := by
                rw [HNR.out, hdec]
                unfold numFrom
                rw [hf]
                dsimp only
                rw [if_neg (by omega)]
              have HF := Lib.hid hF
              clear hF hdec hd ha hacc hQe hf
              go_wp2_with fail
              refine (HDG.out _).mono ?_
              rintro e w2 ⟨rfl, hb2⟩
              go_wp2
              go_ret2
              exact ⟨by rw [HF.out]; rfl, (belB' HB hb2).out⟩
            · have hfit : a * 10 + (d : Int) < 18446744073709551616 := by omega
              have hF : Hid (a * 10 + (d : Int) = ((acc * 10 + d : Nat) : Int) ∧ acc * 10 + d < 18446744073709551616 ∧ numFrom 10 0 r.data.toList = numFrom 10 (acc * 10 + d) (r.data.toList.drop (k + 1))) := by
                refine ⟨by omega, by omega, ?_⟩
                rw [hdec, numFrom, hf]
                dsimp only
                rw [if_pos (by omega)]
              have hm1 : IntKind.u64.wrap (a * 10) = a * 10 := by rw [IntKind.wrap_u64]; omega
              have hm2 : IntKind.u64.wrap (a * 10 + (d : Int)) = a * 10 + (d : Int) := by rw [IntKind.wrap_u64]; omega
              clear hdec hd ha hacc hQe hf
              go_wp2_with fail
              refine (HDG.out _).mono ?_
              rintro e w2 ⟨rfl, hb2⟩
              have HB2 := belB' HB hb2
              clear hb2 HB HDG
              go_wp2
              go_roundg (r.size - k)
              case measure => omega
              case rel => exact ⟨k + 1, acc * 10 + d, a * 10 + (d : Int), rfl, by first | rfl | go_num, by omega, by omega, hF, HB2⟩
        · obtain rfl : k = r.size := by omega
          have hN : numRest 10 r.data.toList = some acc := by
            rw [HNR.out, hdec, List.drop_eq_nil_of_le (by rw [Array.length_toList]; exact Nat.le_refl _)]
            rfl
          have HN' := Lib.hid hN
          subst ha
          clear hN hdec
          go_wp2
          go_ret2
          exact ⟨by rw [HN'.out]; rfl, HB.out⟩

set_option maxRecDepth 100000 in
set_option maxHeartbeats 8000000 in
theorem refNum16 (s r : ByteArray) (hs : r.size ≤ 1000000) (hss : s.size ≤ 1000000) (h2 : 2 < s.size) (h2p : ((s.extract 0 2).toList == [48, 120]) = true) (hr : s.extract 2 s.size = r) (hr0 : 0 < r.size) (w : World) :
    Calls Tryd.prog 12 #[.string s] w fun e w' => e = .returned (.tuple #[.int .u64 (((numRest 16 r.data.toList).getD 0 : Nat) : Int), .bool (numRest 16 r.data.toList).isSome]) ∧ Below w.heap.size w w' := by
  have HBR := Below.refl w.heap.size w
  have HBS : ∀ q : Nat, Hid (Below w.heap.size w (w.drewN q)) := fun q => ⟨HBR.os, HBR.tape, HBR.output, HBR.size, HBR.block⟩
  have h2z : (2 : Int) < (s.size : Int) := by omega
  have h2q : (s.extract 0 2).toList = [48, 120] := by simpa using h2p
  have h2l : (2 : Int) ≤ (s.size : Int) := by omega
  have h00 : 0 < r.size := by omega
  have h00z : ¬ (r.size : Int) = 0 := by omega
  have h00b : ((r.size : Int) == 0) = false := by simpa using h00z
  have h00p : (0 : Int) < (r.size : Int) := by omega
  by_cases h48 : r[0]'h00 = 48
  · have hq2 : (((r[0]'h00).toNat : Nat) : Int) = 48 := by rw [h48]; rfl
    by_cases h1 : 1 < r.size
    · have h1z : (1 : Int) < (r.size : Int) := by omega
      have hN : numRest 16 r.data.toList = none := by
        unfold numRest
        rw [if_pos (.inr ⟨by rw [head_get r h00, h48], fun e => by have := congrArg List.length e; rw [Array.length_toList] at this; have e2 : r.size = 1 := this; omega⟩)]
      have HF := Lib.hid hN
      clear hN h48
      go_enter Tryd.func12, Tryd.ntmps12
      go_wp2
      go_quiet (fail)
      go_wp2
      go_ret2
      exact ⟨by rw [HF.out]; rfl, (HBS _).out⟩
    · have h1z : ¬ (1 : Int) < (r.size : Int) := by omega
      have HNR := Lib.hid (nrest (B := 16) h00 (fun h => h1 h.2))
      go_enter Tryd.func12, Tryd.ntmps12
      go_wp2
      go_quiet (fail)
      go_wp2
      go_loopg [5, 6] (r.size + 1) (fun gg s5 s6 wr => ∃ (k acc : Nat) (a : Int), s5 = .int .u64 a ∧ s6 = .int .i64 k ∧ k ≤ r.size ∧ r.size - k < gg ∧ Hid (a = (acc : Int) ∧ acc < 18446744073709551616 ∧ numFrom 16 0 r.data.toList = numFrom 16 acc (r.data.toList.drop k)) ∧ Hid (Below w.heap.size w wr))
      case atStart => exact ⟨0, 0, 0, rfl, rfl, by omega, by omega, (show Hid _ from ⟨rfl, by decide, rfl⟩), HBS _⟩
      case round =>
        obtain ⟨k, acc, a, rfl, rfl, hk, hg, HA, HB⟩ := hrel
        obtain ⟨ha, hacc, hdec⟩ := HA.out
        have a0 : 0 ≤ a := by omega
        have a1 : a < 18446744073709551616 := by omega
        have hmx : (r.size : Int) ≤ 9223372036854775807 := by omega
        by_cases hlt : k < r.size
        · have hdr : r.data.toList.drop k = (r[k]'hlt) :: r.data.toList.drop (k + 1) := by
            rw [List.drop_eq_getElem_cons (by rw [Array.length_toList]; exact hlt)]
            rfl
          have hz : (k : Int) < (r.size : Int) := by omega
          have hz0 : (0 : Int) ≤ (k : Int) := by omega
          rw [hdr] at hdec
          have hdig := fun W => digit_any (r[k]'hlt) W
          obtain ⟨d, hd⟩ : ∃ d, (figV (r[k]'hlt)).getD 16 = d := ⟨_, rfl⟩
          rw [hd] at hdig
          have hd16 : d ≤ 16 := by
            cases hf : figV (r[k]'hlt) with
            | none => rw [hf] at hd; have : 16 = d := hd; omega
            | some x => rw [hf] at hd; have : x = d := hd; have := figV_lt hf; omega
          have HDG := Lib.hid hdig
          clear hdig hdr HA
          by_cases hB : 16 ≤ d
          · have hF : numRest 16 r.data.toList = none := by
              rw [HNR.out, hdec]
              unfold numFrom
              cases hf : figV (r[k]'hlt) with
              | none => rfl
              | some x => rw [hf] at hd; have : x = d := hd; dsimp only; rw [if_neg (by omega)]
            have hBz : (16 : Int) ≤ (d : Int) := by omega
            have HF := Lib.hid hF
            clear hF hdec hd ha hacc
            go_wp2_with fail
            refine (HDG.out _).mono ?_
            rintro e w2 ⟨rfl, hb2⟩
            go_wp2
            go_ret2
            exact ⟨by rw [HF.out]; rfl, (belB' HB hb2).out⟩
          · have hf : figV (r[k]'hlt) = some d := by
              cases hf : figV (r[k]'hlt) with
              | none => rw [hf] at hd; have : 16 = d := hd; omega
              | some x => rw [hf] at hd; have : x = d := hd; rw [this]
            have hBz : ¬ (16 : Int) ≤ (d : Int) := by omega
            have hw1 : IntKind.u64.wrap (18446744073709551615 - (d : Int)) = 18446744073709551615 - (d : Int) := by rw [IntKind.wrap_u64]; omega
            obtain ⟨Q, hQ, hQe⟩ : ∃ Q : Int, (18446744073709551615 - (d : Int)).tdiv 16 = Q ∧ Q = (18446744073709551615 - (d : Int)) / 16 := ⟨_, rfl, Int.tdiv_eq_ediv_of_nonneg (by omega)⟩
            have hQw : IntKind.u64.wrap Q = Q := by rw [IntKind.wrap_u64]; omega
            by_cases hov : Q < a
            · have hF : numRest 16 r.data.toList = none := by
                rw [HNR.out, hdec]
                unfold numFrom
                rw [hf]
                dsimp only
                rw [if_neg (by omega)]
              have HF := Lib.hid hF
              clear hF hdec hd ha hacc hQe hf
              go_wp2_with fail
              refine (HDG.out _).mono ?_
              rintro e w2 ⟨rfl, hb2⟩
              go_wp2
              go_ret2
              exact ⟨by rw [HF.out]; rfl, (belB' HB hb2).out⟩
            · have hfit : a * 16 + (d : Int) < 18446744073709551616 := by omega
              have hF : Hid (a * 16 + (d : Int) = ((acc * 16 + d : Nat) : Int) ∧ acc * 16 + d < 18446744073709551616 ∧ numFrom 16 0 r.data.toList = numFrom 16 (acc * 16 + d) (r.data.toList.drop (k + 1))) := by
                refine ⟨by omega, by omega, ?_⟩
                rw [hdec, numFrom, hf]
                dsimp only
                rw [if_pos (by omega)]
              have hm1 : IntKind.u64.wrap (a * 16) = a * 16 := by rw [IntKind.wrap_u64]; omega
              have hm2 : IntKind.u64.wrap (a * 16 + (d : Int)) = a * 16 + (d : Int) := by rw [IntKind.wrap_u64]; omega
              clear hdec hd ha hacc hQe hf
              go_wp2_with fail
              refine (HDG.out _).mono ?_
              rintro e w2 ⟨rfl, hb2⟩
              have HB2 := belB' HB hb2
              clear hb2 HB HDG
              go_wp2
              go_roundg (r.size - k)
              case measure => omega
              case rel => exact ⟨k + 1, acc * 16 + d, a * 16 + (d : Int), rfl, by first | rfl | go_num, by omega, by omega, hF, HB2⟩
        · obtain rfl : k = r.size := by omega
          have hN : numRest 16 r.data.toList = some acc := by
            rw [HNR.out, hdec, List.drop_eq_nil_of_le (by rw [Array.length_toList]; exact Nat.le_refl _)]
            rfl
          have HN' := Lib.hid hN
          subst ha
          clear hN hdec
          go_wp2
          go_ret2
          exact ⟨by rw [HN'.out]; rfl, HB.out⟩
  · have HNR := Lib.hid (nrest (B := 16) h00 (fun h => h48 h.1))
    have hq2 : ¬ (((r[0]'h00).toNat : Nat) : Int) = 48 := fun e => h48 (UInt8.toNat_inj.1 (by simpa using Int.ofNat.inj e))
    go_enter Tryd.func12, Tryd.ntmps12
    go_wp2
    go_quiet (fail)
    go_wp2
    go_loopg [5, 6] (r.size + 1) (fun gg s5 s6 wr => ∃ (k acc : Nat) (a : Int), s5 = .int .u64 a ∧ s6 = .int .i64 k ∧ k ≤ r.size ∧ r.size - k < gg ∧ Hid (a = (acc : Int) ∧ acc < 18446744073709551616 ∧ numFrom 16 0 r.data.toList = numFrom 16 acc (r.data.toList.drop k)) ∧ Hid (Below w.heap.size w wr))
    case atStart => exact ⟨0, 0, 0, rfl, rfl, by omega, by omega, (show Hid _ from ⟨rfl, by decide, rfl⟩), HBS _⟩
    case round =>
      obtain ⟨k, acc, a, rfl, rfl, hk, hg, HA, HB⟩ := hrel
      obtain ⟨ha, hacc, hdec⟩ := HA.out
      have a0 : 0 ≤ a := by omega
      have a1 : a < 18446744073709551616 := by omega
      have hmx : (r.size : Int) ≤ 9223372036854775807 := by omega
      by_cases hlt : k < r.size
      · have hdr : r.data.toList.drop k = (r[k]'hlt) :: r.data.toList.drop (k + 1) := by
          rw [List.drop_eq_getElem_cons (by rw [Array.length_toList]; exact hlt)]
          rfl
        have hz : (k : Int) < (r.size : Int) := by omega
        have hz0 : (0 : Int) ≤ (k : Int) := by omega
        rw [hdr] at hdec
        have hdig := fun W => digit_any (r[k]'hlt) W
        obtain ⟨d, hd⟩ : ∃ d, (figV (r[k]'hlt)).getD 16 = d := ⟨_, rfl⟩
        rw [hd] at hdig
        have hd16 : d ≤ 16 := by
          cases hf : figV (r[k]'hlt) with
          | none => rw [hf] at hd; have : 16 = d := hd; omega
          | some x => rw [hf] at hd; have : x = d := hd; have := figV_lt hf; omega
        have HDG := Lib.hid hdig
        clear hdig hdr HA
        by_cases hB : 16 ≤ d
        · have hF : numRest 16 r.data.toList = none := by
            rw [HNR.out, hdec]
            unfold numFrom
            cases hf : figV (r[k]'hlt) with
            | none => rfl
            | some x => rw [hf] at hd; have : x = d := hd; dsimp only; rw [if_neg (by omega)]
          have hBz : (16 : Int) ≤ (d : Int) := by omega
          have HF := Lib.hid hF
          clear hF hdec hd ha hacc
          go_wp2_with fail
          refine (HDG.out _).mono ?_
          rintro e w2 ⟨rfl, hb2⟩
          go_wp2
          go_ret2
          exact ⟨by rw [HF.out]; rfl, (belB' HB hb2).out⟩
        · have hf : figV (r[k]'hlt) = some d := by
            cases hf : figV (r[k]'hlt) with
            | none => rw [hf] at hd; have : 16 = d := hd; omega
            | some x => rw [hf] at hd; have : x = d := hd; rw [this]
          have hBz : ¬ (16 : Int) ≤ (d : Int) := by omega
          have hw1 : IntKind.u64.wrap (18446744073709551615 - (d : Int)) = 18446744073709551615 - (d : Int) := by rw [IntKind.wrap_u64]; omega
          obtain ⟨Q, hQ, hQe⟩ : ∃ Q : Int, (18446744073709551615 - (d : Int)).tdiv 16 = Q ∧ Q = (18446744073709551615 - (d : Int)) / 16 := ⟨_, rfl, Int.tdiv_eq_ediv_of_nonneg (by omega)⟩
          have hQw : IntKind.u64.wrap Q = Q := by rw [IntKind.wrap_u64]; omega
          by_cases hov : Q < a
          · have hF : numRest 16 r.data.toList = none := by
              rw [HNR.out, hdec]
              unfold numFrom
              rw [hf]
              dsimp only
              rw [if_neg (by omega)]
            have HF := Lib.hid hF
            clear hF hdec hd ha hacc hQe hf
            go_wp2_with fail
            refine (HDG.out _).mono ?_
            rintro e w2 ⟨rfl, hb2⟩
            go_wp2
            go_ret2
            exact ⟨by rw [HF.out]; rfl, (belB' HB hb2).out⟩
          · have hfit : a * 16 + (d : Int) < 18446744073709551616 := by omega
            have hF : Hid (a * 16 + (d : Int) = ((acc * 16 + d : Nat) : Int) ∧ acc * 16 + d < 18446744073709551616 ∧ numFrom 16 0 r.data.toList = numFrom 16 (acc * 16 + d) (r.data.toList.drop (k + 1))) := by
              refine ⟨by omega, by omega, ?_⟩
              rw [hdec, numFrom, hf]
              dsimp only
              rw [if_pos (by omega)]
            have hm1 : IntKind.u64.wrap (a * 16) = a * 16 := by rw [IntKind.wrap_u64]; omega
            have hm2 : IntKind.u64.wrap (a * 16 + (d : Int)) = a * 16 + (d : Int) := by rw [IntKind.wrap_u64]; omega
            clear hdec hd ha hacc hQe hf
            go_wp2_with fail
            refine (HDG.out _).mono ?_
            rintro e w2 ⟨rfl, hb2⟩
            have HB2 := belB' HB hb2
            clear hb2 HB HDG
            go_wp2
            go_roundg (r.size - k)
            case measure => omega
            case rel => exact ⟨k + 1, acc * 16 + d, a * 16 + (d : Int), rfl, by first | rfl | go_num, by omega, by omega, hF, HB2⟩
      · obtain rfl : k = r.size := by omega
        have hN : numRest 16 r.data.toList = some acc := by
          rw [HNR.out, hdec, List.drop_eq_nil_of_le (by rw [Array.length_toList]; exact Nat.le_refl _)]
          rfl
        have HN' := Lib.hid hN
        subst ha
        clear hN hdec
        go_wp2
        go_ret2
        exact ⟨by rw [HN'.out]; rfl, HB.out⟩
end Go.Proofs.YtlmobmbglninkaaDoor
