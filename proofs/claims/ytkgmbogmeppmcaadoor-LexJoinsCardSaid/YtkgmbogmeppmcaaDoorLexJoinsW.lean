/- strainerlaw13.LexJoins: the walk. -/
import Derived.Test.YtkgmbogmeppmcaaDoorLexJoinsP
import Derived.Test.YtkgmbogmeppmcaaDoorLexMoreW
namespace Go.Proofs.YtkgmbogmeppmcaaDoor
open Go Go.Proofs Go.RowKit

theorem lexGo_cases : ∀ (ps : List (List UInt8)) (n : Nat) (acc : List Ln), (∃ m, lexGo ps n acc = ([], m, 13)) ∨ (∃ a, lexGo ps n acc = (a, 0, 0))
  | [], _, acc => .inr ⟨acc, rfl⟩
  | p :: r, n, acc => by
    show (∃ m, (match lineOf p with | none => ([], n, 13) | some ws => lexGo r (n + 1) (addLn n ws acc)) = ([], m, 13)) ∨ (∃ a, (match lineOf p with | none => ([], n, 13) | some ws => lexGo r (n + 1) (addLn n ws acc)) = (a, 0, 0))
    cases lineOf p with
    | none => exact .inl ⟨n, rfl⟩
    | some ws => exact lexGo_cases r (n + 1) _
theorem lexAns_cases {t : ByteArray} (h : t.size ≤ 65536) : (∃ m, lexAns t = ([], m, 13)) ∨ (∃ a, lexAns t = (a, 0, 0)) := by
  rw [lexAns_of h]
  exact lexGo_cases _ _ _

set_option maxRecDepth 100000 in
set_option maxHeartbeats 4000000 in
theorem lexjoins_law (t : ByteArray) (w : World) : Calls Tryd.prog 7 #[.string t] w fun e w' => e = .returned (.bool true) ∧ Below w.heap.size w w' := by
  by_cases h1 : 2000 < t.size
  · have h1z : (2000 : Int) < (t.size : Int) := by omega
    go_enter Tryd.func7, Tryd.ntmps7
    go_wp2
    go_ret
    exact ⟨rfl, Below.refl _ _⟩
  have h1z : ¬ (2000 : Int) < (t.size : Int) := by omega
  have hL1 := fun W => lexLines_any t W
  rcases lexAns_cases (t := t) (by omega) with ⟨m, hA⟩ | ⟨a, hA⟩
  · rw [hA] at hL1
    have HL1 := Lib.hid hL1
    clear hL1 hA
    go_enter Tryd.func7, Tryd.ntmps7
    go_wp2_with fail
    refine (HL1.out _).mono ?_
    rintro e1 w1 ⟨v1, rfl, hl1, hb1⟩
    obtain ⟨ad1, c1, rfl⟩ := hl1.slice
    have HB1 := Lib.hid hb1
    clear hl1 hb1 HL1
    go_wp2_with fail
    refine (awake13_any _).mono ?_
    rintro e4 w4 ⟨rfl, hb4⟩
    have HB4 := Lib.hid (HB1.out.trans (hb4.mono HB1.out.size))
    clear hb4
    go_wp2
    go_ret
    exact ⟨rfl, HB4.out⟩
  have hfa := lexAns_fit (t := t) (by omega)
  have hwd := lexAns_wd (t := t)
  have hjt := joinL_text t
  rw [hA] at hL1 hfa hwd hjt
  dsimp only at hL1 hfa hwd hjt
  obtain ⟨S, hS⟩ : ∃ S, (⟨(joinL a).toArray⟩ : ByteArray) = S := ⟨_, rfl⟩
  have hAS := lexAns_joined hwd (by omega)
  rw [hS] at hAS
  have hSs : S.size ≤ 4000 := by rw [← hS]; show (joinL a).toArray.size ≤ _; rw [List.size_toArray]; omega
  have hff := lexAns_fit (t := S) (by omega)
  have hL2 := fun W => lexLines_any S W
  rw [hAS] at hL2 hff
  dsimp only at hL2 hff
  have hS2 : (⟨(joinL (renum 1 a)).toArray⟩ : ByteArray) = S := by rw [joinL_renum]; exact hS
  have hrl := renum_length 1 a
  obtain ⟨n, hn⟩ : ∃ n, a.length = n := ⟨_, rfl⟩
  rw [hn] at hrl
  have hat := fun i x h => renum_at a 1 i x h
  have HAT := Lib.hid hat
  have HN := Lib.hid hn
  have HRL := Lib.hid hrl
  have HS := Lib.hid hS
  have HS2 := Lib.hid hS2
  have HL1 := Lib.hid hL1
  have HL2 := Lib.hid hL2
  have HFA := Lib.hid hfa
  have HFF := Lib.hid hff
  have hn5 : n ≤ 5001 := by have := hfa.2; omega
  have HSS := Lib.hid hSs
  clear hat hn hrl hS hS2 hL1 hL2 hfa hff hA hAS hjt hwd hSs
  generalize renum 1 a = b at *
  go_enter Tryd.func7, Tryd.ntmps7
  go_wp2_with fail
  refine (HL1.out _).mono ?_
  rintro e1 w1 ⟨v1, rfl, hl1, hb1⟩
  obtain ⟨ad1, c1, rfl⟩ := hl1.slice
  rw [HN.out] at hl1 ⊢
  have H1 := Lib.hid hl1
  have HB1 := Lib.hid hb1
  clear hl1 hb1 HL1
  go_wp2_with fail
  refine (join_fit _ _ _ HFA.out.1 S HS.out _ H1.out).mono ?_
  rintro e2 w2 ⟨rfl, hb2⟩
  have H12 := Lib.hid (H1.out.below hb2)
  have HB2 := Lib.hid (HB1.out.trans (hb2.mono HB1.out.size))
  clear hb2 H1 HB1
  go_wp2_with fail
  refine (HL2.out _).mono ?_
  rintro e3 w3 ⟨v2, rfl, hl2, hb3⟩
  obtain ⟨ad2, c2, rfl⟩ := hl2.slice
  rw [HRL.out] at hl2 ⊢
  have H13 := Lib.hid (H12.out.below hb3)
  have H23 := Lib.hid hl2
  have HB3 := Lib.hid (HB2.out.trans (hb3.mono HB2.out.size))
  clear hb3 hl2 H12 HB2 HL2
  go_wp2_with fail
  refine (join_fit _ _ _ HFF.out.1 S HS2.out _ H23.out).mono ?_
  rintro e4 w4 ⟨rfl, hb4⟩
  have H1 := Lib.hid (H13.out.below hb4)
  have H2 := Lib.hid (H23.out.below hb4)
  have HB4 := Lib.hid (HB3.out.trans (hb4.mono HB3.out.size))
  clear hb4 H13 H23 HB3
  go_wp2
  go_loopw [10, 11] (fun iv _ wr => ∃ i : Nat, i ≤ n ∧ iv = .int .i64 i ∧ Hid (Below w4.heap.size w4 wr)) (fun iv _ _ => n - (intOf iv).toNat)
  case atStart => exact ⟨0, Nat.zero_le _, rfl, Below.refl _ _⟩
  case round =>
    obtain ⟨i, hin, rfl, HB⟩ := hrel
    by_cases hlt : i < n
    · have hltz : (i : Int) < (n : Int) := by omega
      have i0 : (0 : Int) ≤ (i : Int) := by omega
      have i1 : IntKind.i64.wrap ((i : Int) + 1) = (i : Int) + 1 := IntWalk.i64_in _ (by omega)
      obtain ⟨x, hx⟩ : ∃ x, a[i]? = some x := ⟨_, List.getElem?_eq_getElem (by rw [HN.out]; exact hlt)⟩
      have hx2 := HAT.out i x hx
      obtain ⟨g1, ua1, uc1, rfl, d1, e1, hg1, _, f1⟩ := lines_at H1.out hx
      obtain ⟨g2, ua2, uc2, rfl, d2, e2, hg2, _, f2⟩ := lines_at H2.out hx2
      obtain ⟨xn, ws⟩ := x
      dsimp only at d1 e1 d2 e2 f1 f2
      have hcast : ((1 + i : Nat) : Int) = (i : Int) + 1 := by omega
      rw [hcast] at d2
      have hm := (HFA.out.1.2.1 _ (List.mem_of_getElem? hx)).1
      dsimp only at hm
      obtain ⟨m, hmm⟩ : ∃ m, ws.length = m := ⟨_, rfl⟩
      rw [hmm] at e1 e2 hm
      have HM := Lib.hid hmm
      have F1 := Lib.hid f1
      have F2 := Lib.hid f2
      have E1 := Lib.hid e1
      have E2 := Lib.hid e2
      have q2 := bel_cell HB.out e1 hg1
      have q3 := bel_cell HB.out d2 hg2
      have q4 := bel_cell HB.out e2 hg2
      clear hx hx2 f1 f2 hmm d1 d2 e1 e2 hcast
      go_wp2
      go_quiet (fail)
      have HBq : Hid (Below w4.heap.size w4 (wr.drewN nq)) := below_drewN' HB.out nq
      clear q2 q3 q4 i1
      go_wp2
      generalize wr.drewN nq = wo at *
      go_loopw [11] (fun kv wr2 => ∃ k : Nat, k ≤ m ∧ kv = .int .i64 k ∧ Hid (Below w4.heap.size w4 wr2)) (fun kv _ => m - (intOf kv).toNat)
      case atStart => exact ⟨0, Nat.zero_le _, rfl, HBq⟩
      case round =>
        obtain ⟨k, hkm, rfl, HB2⟩ := hrel
        have q2 := bel_cell HB2.out E1.out hg1
        have q4 := bel_cell HB2.out E2.out hg2
        by_cases hk : k < m
        · have hkz : (k : Int) < (m : Int) := by omega
          have k0 : (0 : Int) ≤ (k : Int) := by omega
          obtain ⟨s, hs⟩ : ∃ s, ws[k]? = some s := ⟨_, List.getElem?_eq_getElem (by rw [HM.out]; exact hk)⟩
          obtain ⟨gu1, rfl, r1, hu1⟩ := F1.out k s hs
          obtain ⟨gu2, rfl, r2, hu2⟩ := F2.out k s hs
          have p1 := bel_cell HB2.out r1 hu1
          have p2 := bel_cell HB2.out r2 hu2
          clear hs r1 r2
          go_wp2
          go_quiet (fail)
          have HBq2 : Hid (Below w4.heap.size w4 (wr.drewN nq)) := below_drewN' HB2.out nq
          clear p1 p2 q2 q4
          go_wp2
          go_roundw
          case rel => exact ⟨k + 1, by omega, by go_num, HBq2⟩
          case measure => simp [intOf]; omega
        · have hkz : ¬ (k : Int) < (m : Int) := by omega
          go_wp2
          go_roundw
          case rel => exact ⟨i + 1, by omega, by go_num, HB2⟩
          case measure => simp [intOf]; omega
    · have hltz : ¬ (i : Int) < (n : Int) := by omega
      go_wp2_with fail
      refine (awake13_any _).mono ?_
      rintro e4 w5 ⟨rfl, hb5⟩
      have HB5 := Lib.hid ((HB4.out.trans (HB.out.mono HB4.out.size)).trans (hb5.mono (HB4.out.trans (HB.out.mono HB4.out.size)).size))
      clear hb5
      go_wp2
      go_ret
      exact ⟨rfl, HB5.out⟩
end Go.Proofs.YtkgmbogmeppmcaaDoor
