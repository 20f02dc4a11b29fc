/- The document's Read (strainerref03) at every text, without .code: the walk. -/
import Derived.Test.YtokehnclakedeaaGreatDoorListRRead2
namespace Go.Proofs.YtokehnclakedeaaGreatDoor
open Go Go.Proofs Go.RowKit

theorem lineWs_len (c jt jf k : Nat) : ∃ x t, lineWs c jt jf k = x :: t := by
  cases h : lineWs c jt jf k with
  | nil => exact absurd h (lineWs_ne c jt jf k)
  | cons x t => exact ⟨x, t, rfl⟩
theorem drewN_bel {n : Nat} {a w : World} (k : Nat) (h : Below n a w) : Below n a (w.drewN k) := ⟨h.os, h.tape, h.output, h.size, h.block⟩
theorem drewN_blk {W : World} {B : Nat} {t : TypeId} {cs : Array Value} (k : Nat) (h : Blk W B t cs) : Blk (W.drewN k) B t cs := h

set_option maxRecDepth 100000 in
set_option maxHeartbeats 32000000 in
theorem rread_forms (s : ByteArray) (hs : s.size ≤ 1000000) (w0 : ByteArray) (r : List ByteArray) (hws : lineWords s.data.toList = w0 :: r) (hq : ¬ (w0.toList == dotCode) = true) (w : World) :
    Calls Tryz.prog 8 #[.string s] w fun e w' => e = .returned (ansV (listAnsW (w0 :: r))) ∧ Below w.heap.size w w' := by
  have HP := Lib.hid (Blk.new w 29 #[.int .u16 0, .int .u8 0, .int .u8 0, .int .u32 0])
  have HB := Lib.hid ((Below.refl w.heap.size w).alloc (Nat.le_refl _) (.cells #[.int .u16 0, .int .u8 0, .int .u8 0, .int .u32 0] 29))
  have hwd := fun W => rwords3_any s hs W
  rw [hws] at hwd
  have HWD := Lib.hid hwd
  have hct := lineWords_ct (l := s.data.toList) (by have e : s.data.toList.length = s.size := Array.length_toList; omega)
  have hsz := lineWords_sz (l := s.data.toList) (by have e : s.data.toList.length = s.size := Array.length_toList; omega)
  rw [hws] at hct hsz
  have HCT := Lib.hid hct
  have HSZ := Lib.hid hsz
  have hqf : (w0.toList == [46, 99, 111, 100, 101]) = false := by have : (w0.toList == [46, 99, 111, 100, 101]) ≠ true := hq; simpa using this
  have hq2 : ¬ w0.toList = [46, 99, 111, 100, 101] := by simpa using hqf
  obtain ⟨V, hV⟩ : ∃ V, ansV (listAnsW (w0 :: r)) = V := ⟨_, rfl⟩
  rw [hV]
  have HBAD : Hid (rdJ r = none → Ending.returned (.tuple #[.agg #[.int .u16 0, .int .u8 0, .int .u8 0, .int .u32 0], .int .i64 13]) = .returned V) := fun h => by rw [← hV, reads_bad hq h]; rfl
  have HNONE : Hid (∀ jt jf, rdJ r = some (jt, jf) → (∀ c, c < 256 → lineWs c jt jf (rdK r) ≠ w0 :: r) → Ending.returned (.tuple #[.agg #[.int .u16 0, .int .u8 0, .int .u8 0, .int .u32 0], .int .i64 13]) = .returned V) := fun jt jf h1 h2 => by rw [← hV, reads_none hq h1 h2]; rfl
  have HFND : Hid (∀ c jt jf, c < 256 → rdJ r = some (jt, jf) → lineWs c jt jf (rdK r) = w0 :: r → Ending.returned (.tuple #[.agg #[.int .u16 (c : Int), .int .u8 (jt : Int), .int .u8 (jf : Int), .int .u32 (rdK r : Int)], .int .i64 0]) = .returned V) := fun c jt jf h1 h2 h3 => by rw [← hV, reads_found h1 h2 h3]; rfl
  have HQ := Lib.hid hq
  obtain ⟨K, hK⟩ : ∃ K, rdK r = K := ⟨_, rfl⟩
  have hKlt := rdK_lt r
  rw [hK] at hKlt HNONE HFND
  have HK := Lib.hid hK
  have bK : IntKind.u32.wrap (K : Int) = (K : Int) := IntWalk.u32_in _ ⟨by omega, by omega⟩
  obtain ⟨n, hn⟩ : ∃ n, r.length + 1 = n := ⟨_, rfl⟩
  have hn0 : ¬ (n : Int) = 0 := by omega
  have hn0b : ((n : Int) == 0) = false := by simpa using hn0
  have HN := Lib.hid hn
  have hnp : 0 < n := by omega
  have hnb : n ≤ 1000001 := by have h1 : (w0 :: r).length = r.length + 1 := rfl; omega
  clear hwd hct hsz hws hs hq hn hV hK
  go_enter Tryz.func8, Tryz.ntmps8
  go_wp2_with fail
  refine (HWD.out _).mono ?_
  rintro e w1 ⟨v, rfl, HR, HB1⟩
  obtain ⟨g, cap, rfl⟩ := ownsRow_succ (k := r.length) HR.out
  have HC := Lib.hid (words_cells (ws := w0 :: r) HR.out rfl)
  have HP1 := blkH HP HB1.out
  have HBw := belB HB HB1.out
  clear HP HB HR HWD
  have t0 := HC.out 0 w0 rfl
  rw [HN.out]
  have HCB : Hid (∀ W, Below w1.heap.size w1 W → ∀ (j : Nat) (x : ByteArray), (w0 :: r)[j]? = some x → W.cell? ⟨g, j, none⟩ = some (.string x)) := fun W hW j x hj => lcellF hW (HC.out j x hj)
  have HQ1 := Lib.hid (Blk.new w1 29 #[.int .u16 0, .int .u8 0, .int .u8 0, .int .u32 0])
  have HX1 := Lib.hid ((Below.refl w1.heap.size w1).alloc (Nat.le_refl _) (.cells #[.int .u16 0, .int .u8 0, .int .u8 0, .int .u32 0] 29))
  go_upto_if 92 with fail
  clear hn0 hn0b hqf hq2 t0
  generalize w1.alloc (.cells #[.int .u16 0, .int .u8 0, .int .u8 0, .int .u32 0] 29) = W0 at *
  go_cut [14] (fun _ wx => Hid (Blk wx w1.heap.size 29 #[.int .u16 0, .int .u8 0, .int .u8 0, .int .u32 (K : Int)]) ∧ Hid (Below w1.heap.size w1 wx))
  case first =>
    match r, HN, HSZ, HCB, HK with
    | [], HN, HSZ, HCB, HK =>
      obtain rfl : n = 1 := HN.out.symm
      obtain rfl : K = 0 := HK.out.symm
      go_wp2_with fail
      go_meet
      exact ⟨HQ1, HX1⟩
    | x1 :: r', HN, HSZ, HCB, HK =>
      have hge : (2 : Int) ≤ (n : Int) := by have h1 : (x1 :: r').length + 1 = n := HN.out; simp at h1; omega
      have hdg : decide ((2 : Int) ≤ (n : Int)) = true := by simpa using hge
      have n1z : (1 : Int) < (n : Int) := by omega
      have n1n : 1 < n := by omega
      have hx1 : x1.size ≤ 1000000 := HSZ.out x1 (by simp)
      have HD := Lib.hid (fun W => digits3d_any x1 hx1 W)
      have t1 := HCB.out _ HX1.out 1 x1 rfl
      have HK2 : Hid ((numV (digitsV x1.data.toList) 32).getD 0 = K) := HK.out
      obtain ⟨D, hD⟩ : ∃ D : ByteArray, (⟨(digitsV x1.data.toList).toArray⟩ : ByteArray) = D := ⟨_, rfl⟩
      have hDl : digitsV x1.data.toList = D.data.toList := by rw [← hD]
      rw [hDl] at HK2
      rw [hD] at HD
      cases hN1 : numV D.data.toList 32 with
      | none =>
        rw [hN1] at HK2
        obtain rfl : K = 0 := HK2.out.symm
        have HM := Lib.hid (rnum32 D none hN1)
        clear hD hDl hN1 hx1 HK2
        simp only [hdg]
        go_wp2_with fail
        refine (HD.out _).mono ?_
        rintro e _ ⟨rfl, rfl⟩
        go_wp2_with fail
        refine (HM.out _).mono ?_
        rintro e _ ⟨⟨v1, rfl, H1⟩, rfl⟩
        go_wp2_with fail
        go_meet
        exact ⟨HQ1, HX1⟩
      | some k =>
        rw [hN1] at HK2
        obtain rfl : K = k := HK2.out.symm
        have HM := Lib.hid (rnum32 D (some K) hN1)
        have z3 := HQ1.out.frozen 3
        have y3 := HQ1.out.cell 3
        simp only [List.getElem?_toArray, List.getElem?_cons_zero, List.getElem?_cons_succ] at y3
        clear hD hDl hN1 hx1 HK2
        simp only [hdg]
        go_wp2_with fail
        refine (HD.out _).mono ?_
        rintro e _ ⟨rfl, rfl⟩
        go_wp2_with fail
        refine (HM.out _).mono ?_
        rintro e _ ⟨⟨v1, rfl, H1⟩, rfl⟩
        obtain rfl : v1 = (K : Int) := H1.out K rfl
        clear H1 HM HD
        go_wp2_with fail
        go_meet
        exact ⟨HQ1.out.set 3 (.int .u32 (K : Int)), HX1.out.setCell (p := ⟨w1.heap.size, 3, none⟩) (Nat.le_refl _) _⟩
  case rest =>
    obtain ⟨HQ2, HX2⟩ := hcut
    clear HQ1 HX1
    cases hJ : rdJ r with
    | none =>
      have h3 : r.length = 3 := by
        unfold rdJ at hJ
        split at hJ
        · assumption
        · cases hJ
      obtain ⟨x1, x2, x3, rfl⟩ := len4 (show r.length + 1 = 4 by omega)
      obtain rfl : n = 4 := HN.out.symm
      have HF := Lib.hid (HBAD.out hJ)
      have hbad : numV x2.data.toList 8 = none ∨ ∃ a, numV x2.data.toList 8 = some a ∧ numV x3.data.toList 8 = none := by
        unfold rdJ at hJ
        rw [if_pos h3] at hJ
        show numV (([x1, x2, x3] : List ByteArray).getD 1 ⟨#[]⟩).data.toList 8 = none ∨ ∃ a, numV (([x1, x2, x3] : List ByteArray).getD 1 ⟨#[]⟩).data.toList 8 = some a ∧ numV (([x1, x2, x3] : List ByteArray).getD 2 ⟨#[]⟩).data.toList 8 = none
        cases ha : numV (([x1, x2, x3] : List ByteArray).getD 1 ⟨#[]⟩).data.toList 8 with
        | none => exact .inl rfl
        | some a =>
          cases hb : numV (([x1, x2, x3] : List ByteArray).getD 2 ⟨#[]⟩).data.toList 8 with
          | none => exact .inr ⟨a, rfl, rfl⟩
          | some b => rw [ha, hb] at hJ; cases hJ
      have HP2 := blkH HP1 HX2.out
      have HB2 := belB HBw HX2.out
      have t2 := HCB.out _ HX2.out 2 x2 rfl
      have t3 := HCB.out _ HX2.out 3 x3 rfl
      clear hJ h3
      have z0 := HP2.out.frozen 0
      have z1 := HP2.out.frozen 1
      have z2 := HP2.out.frozen 2
      have z3 := HP2.out.frozen 3
      have y0 := HP2.out.cell 0
      have y1 := HP2.out.cell 1
      have y2 := HP2.out.cell 2
      have y3 := HP2.out.cell 3
      simp only [List.getElem?_toArray, List.getElem?_cons_zero, List.getElem?_cons_succ] at y0 y1 y2 y3
      rcases hbad with h1 | ⟨a, h1, h2⟩
      · have K1 := Lib.hid (rnum8 x2 none h1)
        obtain ⟨N2, hN2⟩ : ∃ N, numV x3.data.toList 8 = N := ⟨_, rfl⟩
        have K2 := Lib.hid (rnum8 x3 N2 hN2)
        clear h1 hN2
        go_wp2_with fail
        refine (K1.out _).mono ?_
        rintro e _ ⟨⟨v1, rfl, H1⟩, rfl⟩
        go_wp2_with fail
        refine (K2.out _).mono ?_
        rintro e _ ⟨⟨v2, rfl, H2⟩, rfl⟩
        clear K1 K2 H1 H2
        go_wp2
        have bF := ((((HP2.out.set 0 (.int .u16 0)).set 1 (.int .u8 0)).set 2 (.int .u8 0)).set 3 (.int .u32 0))
        have hF := (((HB2.out.setCell (p := ⟨w.heap.size, 0, none⟩) (Nat.le_refl _) (.int .u16 0)).setCell (p := ⟨w.heap.size, 1, none⟩) (Nat.le_refl _) (.int .u8 0)).setCell (p := ⟨w.heap.size, 2, none⟩) (Nat.le_refl _) (.int .u8 0)).setCell (p := ⟨w.heap.size, 3, none⟩) (Nat.le_refl _) (.int .u32 0)
        have e0 := bF.cell 0
        have e1 := bF.cell 1
        have e2 := bF.cell 2
        have e3 := bF.cell 3
        simp at e0 e1 e2 e3
        exact bodyPost_ret (v := .tuple #[.agg #[.int .u16 0, .int .u8 0, .int .u8 0, .int .u32 0], .int .i64 13]) (by simp [results, Tryz.results8, go_sem, e0, e1, e2, e3]) rfl ⟨HF.out, hF⟩
      · have K1 := Lib.hid (rnum8 x2 (some a) h1)
        have K2 := Lib.hid (rnum8 x3 none h2)
        clear h1 h2
        go_wp2_with fail
        refine (K1.out _).mono ?_
        rintro e _ ⟨⟨v1, rfl, H1⟩, rfl⟩
        go_wp2_with fail
        refine (K2.out _).mono ?_
        rintro e _ ⟨⟨v2, rfl, H2⟩, rfl⟩
        clear K1 K2 H1 H2
        go_wp2
        have bF := ((((HP2.out.set 0 (.int .u16 0)).set 1 (.int .u8 0)).set 2 (.int .u8 0)).set 3 (.int .u32 0))
        have hF := (((HB2.out.setCell (p := ⟨w.heap.size, 0, none⟩) (Nat.le_refl _) (.int .u16 0)).setCell (p := ⟨w.heap.size, 1, none⟩) (Nat.le_refl _) (.int .u8 0)).setCell (p := ⟨w.heap.size, 2, none⟩) (Nat.le_refl _) (.int .u8 0)).setCell (p := ⟨w.heap.size, 3, none⟩) (Nat.le_refl _) (.int .u32 0)
        have e0 := bF.cell 0
        have e1 := bF.cell 1
        have e2 := bF.cell 2
        have e3 := bF.cell 3
        simp at e0 e1 e2 e3
        exact bodyPost_ret (v := .tuple #[.agg #[.int .u16 0, .int .u8 0, .int .u8 0, .int .u32 0], .int .i64 13]) (by simp [results, Tryz.results8, go_sem, e0, e1, e2, e3]) rfl ⟨HF.out, hF⟩
    | some J =>
      obtain ⟨jt, jf⟩ := J
      have HNO : Hid ((∀ c, c < 256 → lineWs c jt jf K ≠ w0 :: r) → Ending.returned (.tuple #[.agg #[.int .u16 0, .int .u8 0, .int .u8 0, .int .u32 0], .int .i64 13]) = .returned V) := fun h => HNONE.out jt jf hJ h
      have HFD : Hid (∀ c, c < 256 → lineWs c jt jf K = w0 :: r → Ending.returned (.tuple #[.agg #[.int .u16 (c : Int), .int .u8 (jt : Int), .int .u8 (jf : Int), .int .u32 (K : Int)], .int .i64 0]) = .returned V) := fun c h1 h2 => HFND.out c jt jf h1 hJ h2
      obtain ⟨hjt, hjf⟩ := rdJ_lt hJ
      have bjt : IntKind.u8.wrap (jt : Int) = (jt : Int) := IntWalk.u8_in _ ⟨by omega, by omega⟩
      have bjf : IntKind.u8.wrap (jf : Int) = (jf : Int) := IntWalk.u8_in _ ⟨by omega, by omega⟩
      clear HNONE HFND HBAD
      have HJ := Lib.hid hJ
      clear hJ
      go_upto_if 107 with fail
      go_cut [16] (fun _ wx => Hid (Blk wx w1.heap.size 29 #[.int .u16 0, .int .u8 (jt : Int), .int .u8 (jf : Int), .int .u32 (K : Int)]) ∧ Hid (Below w1.heap.size w1 wx))
      case first =>
        by_cases h3 : r.length = 3
        · obtain ⟨x1, x2, x3, rfl⟩ := len4 (show r.length + 1 = 4 by omega)
          obtain rfl : n = 4 := HN.out.symm
          have hab : numV x2.data.toList 8 = some jt ∧ numV x3.data.toList 8 = some jf := by
            have hJ := HJ.out
            unfold rdJ at hJ
            rw [if_pos h3] at hJ
            show numV (([x1, x2, x3] : List ByteArray).getD 1 ⟨#[]⟩).data.toList 8 = some jt ∧ numV (([x1, x2, x3] : List ByteArray).getD 2 ⟨#[]⟩).data.toList 8 = some jf
            cases ha : numV (([x1, x2, x3] : List ByteArray).getD 1 ⟨#[]⟩).data.toList 8 with
            | none => rw [ha] at hJ; cases hJ
            | some a =>
              cases hb : numV (([x1, x2, x3] : List ByteArray).getD 2 ⟨#[]⟩).data.toList 8 with
              | none => rw [ha, hb] at hJ; cases hJ
              | some b => rw [ha, hb] at hJ; cases hJ; exact ⟨rfl, rfl⟩
          have K1 := Lib.hid (rnum8 x2 (some jt) hab.1)
          have K2 := Lib.hid (rnum8 x3 (some jf) hab.2)
          have t2 := HCB.out _ HX2.out 2 x2 rfl
          have t3 := HCB.out _ HX2.out 3 x3 rfl
          have z1 := HQ2.out.frozen 1
          have z2 := HQ2.out.frozen 2
          have y1 := HQ2.out.cell 1
          have y2 := HQ2.out.cell 2
          simp only [List.getElem?_toArray, List.getElem?_cons_zero, List.getElem?_cons_succ] at y1 y2
          clear hab h3
          go_wp2_with fail
          refine (K1.out _).mono ?_
          rintro e _ ⟨⟨v1, rfl, H1⟩, rfl⟩
          obtain rfl : v1 = (jt : Int) := H1.out jt rfl
          clear K1 H1
          go_wp2_with fail
          refine (K2.out _).mono ?_
          rintro e _ ⟨⟨v2, rfl, H2⟩, rfl⟩
          obtain rfl : v2 = (jf : Int) := H2.out jf rfl
          clear K2 H2
          go_wp2_with fail
          go_meet
          exact ⟨(HQ2.out.set 1 (.int .u8 (jt : Int))).set 2 (.int .u8 (jf : Int)), (HX2.out.setCell (p := ⟨w1.heap.size, 1, none⟩) (Nat.le_refl _) _).setCell (p := ⟨w1.heap.size, 2, none⟩) (Nat.le_refl _) _⟩
        · have hn4 : ¬ (n : Int) = 4 := by have := HN.out; omega
          have hn4b : ((n : Int) == 4) = false := by simpa using hn4
          have hz : jt = 0 ∧ jf = 0 := by
            have hJ := HJ.out
            unfold rdJ at hJ
            rw [if_neg h3] at hJ
            cases hJ
            exact ⟨rfl, rfl⟩
          obtain ⟨rfl, rfl⟩ := hz
          clear h3
          go_wp2_with fail
          go_meet
          exact ⟨HQ2, HX2⟩
      case rest =>
        obtain ⟨HQ3, HX3⟩ := hcut
        clear HQ2 HX2 HJ
        go_upto_region 26 with fail
        go_loopw [20] (fun s20 wr => ∃ (c : Nat) (x : Int), c ≤ 256 ∧ s20 = .int .i64 c ∧ Hid (Blk wr w1.heap.size 29 #[.int .u16 x, .int .u8 (jt : Int), .int .u8 (jf : Int), .int .u32 (K : Int)]) ∧ Hid (Below w1.heap.size w1 wr) ∧ Hid (∀ c', c' < c → lineWs c' jt jf K ≠ w0 :: r)) (fun s20 _ => 256 - (intOf s20).toNat)
        case atStart => exact ⟨0, 0, by omega, rfl, HQ3, HX3, (show Hid _ from fun c' h => absurd h (Nat.not_lt_zero _))⟩
        case round =>
          obtain ⟨c, x, hc, rfl, HQ4, HX4, HNE⟩ := hrel
          clear HQ3 HX3
          by_cases hlt : c < 256
          · have hltz : (c : Int) < 256 := by omega
            have hc0 : (0 : Int) ≤ (c : Int) := by omega
            have bc : IntKind.u16.wrap (c : Int) = (c : Int) := IntWalk.u16_in _ ⟨by omega, by omega⟩
            have HRL := Lib.hid (fun W => rline_any c jt jf K (by omega) hjt hjf hKlt W)
            have hrw := fun W => rwords3_any (lineS c jt jf K) (Nat.le_trans (lineS_size3 c jt jf K (by omega) hjt hjf hKlt) (by decide)) W
            rw [lineS_words] at hrw
            have HRW := Lib.hid hrw
            have HSM := Lib.hid (lineWs_small3 c jt jf K (by omega) hjt hjf hKlt).2
            obtain ⟨X0, XT, hXT⟩ := lineWs_len c jt jf K
            rw [hXT] at HRW HSM
            have HXT := Lib.hid hXT
            have z0 := HQ4.out.frozen 0
            have y0 := HQ4.out.cell 0
            have y1 := HQ4.out.cell 1
            have y2 := HQ4.out.cell 2
            have y3 := HQ4.out.cell 3
            simp only [List.getElem?_toArray, List.getElem?_cons_zero, List.getElem?_cons_succ] at y0 y1 y2 y3
            clear hrw hXT
            generalize lineS c jt jf K = LS at *
            go_wp2_with fail
            refine (HRL.out _).mono ?_
            rintro e w3 ⟨rfl, hb3⟩
            simp only [World.size_setCell] at hb3
            have hset : Below w1.heap.size w1 (wr.setCell ⟨w1.heap.size, 0, none⟩ (.int .u16 (c : Int))) := HX4.out.setCell (p := ⟨w1.heap.size, 0, none⟩) (Nat.le_refl _) _
            have HQ5 := Lib.hid ((HQ4.out.set 0 (.int .u16 (c : Int))).below hb3 HQ4.out.lt)
            have HX5 := Lib.hid (hset.trans (hb3.mono HX4.out.size))
            clear HQ4 HX4 hset hb3 z0 y0 y1 y2 y3 HRL
            go_wp2_with fail
            refine (HRW.out _).mono ?_
            rintro e w4 ⟨v2, rfl, HR2, HB4⟩
            obtain ⟨g2, cap2, rfl⟩ := ownsRow_succ (k := XT.length) HR2.out
            have HC2 := Lib.hid (words_cells (ws := X0 :: XT) HR2.out rfl)
            have HQ6 : Hid (Blk w4 w1.heap.size 29 #[.int .u16 (c : Int), .int .u8 (jt : Int), .int .u8 (jf : Int), .int .u32 (K : Int)]) := HQ5.out.below HB4.out HQ5.out.lt
            have HX6 := belB HX5 HB4.out
            clear HQ5 HX5 HR2 HB4 HRW
            have u0 := HC2.out 0 X0 rfl
            obtain ⟨m, hm⟩ : ∃ m, XT.length + 1 = m := ⟨_, rfl⟩
            have hm0 : 0 < m := by omega
            have hm5 : m ≤ 5 := by have h1 : (X0 :: XT).length = XT.length + 1 := rfl; have := HSM.out; omega
            rw [hm]
            have HM := Lib.hid hm
            clear hm
            -- what slot 22 holds, and its meaning
            obtain ⟨B0, hB0, hcase⟩ : ∃ B0 : Bool, sameUpto (X0 :: XT) (w0 :: r) 0 B0 ∧ ((m ≠ n ∧ B0 = false) ∨ (m = n ∧ (X0.toList == dotCode) = true ∧ B0 = false) ∨ (m = n ∧ ¬ (X0.toList == dotCode) = true ∧ B0 = true)) := by
              by_cases h1 : m = n
              · by_cases h2 : (X0.toList == dotCode) = true
                · refine ⟨false, ⟨fun h => (by cases h), fun _ e => ?_⟩, .inr (.inl ⟨h1, h2, rfl⟩)⟩
                  rw [(List.cons.inj e).1] at h2
                  exact HQ.out h2
                · exact ⟨true, ⟨fun _ => ⟨by have := HM.out; have := HN.out; simp; omega, fun j hj => absurd hj (Nat.not_lt_zero _)⟩, fun h => by cases h⟩, .inr (.inr ⟨h1, h2, rfl⟩)⟩
              · refine ⟨false, ⟨fun h => (by cases h), fun _ e => ?_⟩, .inl ⟨h1, rfl⟩⟩
                have := congrArg List.length e
                have h3 := HM.out
                have h4 := HN.out
                simp at this
                omega
            have HS0 := Lib.hid hB0
            clear hB0
            go_upto_region 30 with fail
            go_cut [22] (fun s22 wx => s22 = .bool B0 ∧ w4 = wx)
            case first =>
              rcases hcase with ⟨h1, rfl⟩ | ⟨rfl, h2, rfl⟩ | ⟨rfl, h2, rfl⟩
              · have h1z : ¬ (m : Int) = (n : Int) := by omega
                have h1b : ((m : Int) == (n : Int)) = false := by simpa using h1z
                clear h1
                go_wp2_with fail
                go_meet
                exact ⟨rfl, rfl⟩
              · have hx1 : (X0.toList == [46, 99, 111, 100, 101]) = true := h2
                have hx2 : X0.toList = [46, 99, 111, 100, 101] := by simpa using hx1
                clear h2
                go_wp2_with fail
                go_meet
                exact ⟨rfl, rfl⟩
              · have hx1 : (X0.toList == [46, 99, 111, 100, 101]) = false := by have : (X0.toList == [46, 99, 111, 100, 101]) ≠ true := h2; simpa using this
                have hx2 : ¬ X0.toList = [46, 99, 111, 100, 101] := by simpa using hx1
                clear h2
                go_wp2_with fail
                go_meet
                exact ⟨rfl, rfl⟩
            case rest =>
              obtain ⟨rfl, rfl⟩ := hcut
              clear hcase u0
              go_upto_region 32 with fail
              go_loopw [22, 23] (fun s22 s23 wx => ∃ (i : Nat) (B : Bool), i ≤ n ∧ s22 = .bool B ∧ s23 = .int .i64 i ∧ Hid (sameUpto (X0 :: XT) (w0 :: r) i B) ∧ Hid (Below w4.heap.size w4 wx)) (fun _ s23 _ => n - (intOf s23).toNat)
              case atStart => exact ⟨0, B0, Nat.zero_le _, rfl, rfl, HS0, Below.refl _ _⟩
              case round =>
                obtain ⟨i, B, hi, rfl, rfl, HSB, HX7⟩ := hrel
                have hi0 : (0 : Int) ≤ (i : Int) := by omega
                by_cases hgo : i < n ∧ B = true
                · obtain ⟨hlt2, rfl⟩ := hgo
                  have hiz : (i : Int) < (n : Int) := by omega
                  obtain rfl : m = n := by have h1 := (HSB.out.1 rfl).1; have h2 := HM.out; have h3 := HN.out; simp at h1; omega
                  obtain ⟨a, ha⟩ : ∃ a, (X0 :: XT)[i]? = some a := ⟨_, List.getElem?_eq_getElem (by have h2 := HM.out; simp; omega)⟩
                  obtain ⟨b, hb⟩ : ∃ b, (w0 :: r)[i]? = some b := ⟨_, List.getElem?_eq_getElem (by have h2 := HN.out; simp; omega)⟩
                  have HSN := Lib.hid (same_step HSB.out ha hb)
                  have ua := lcellF HX7.out (HC2.out i a ha)
                  have ub := HCB.out _ (HX6.out.trans (HX7.out.mono HX6.out.size)) i b hb
                  clear ha hb HSB
                  go_upto_region 34 with fail
                  go_quiet (fail)
                  go_wp2
                  go_roundw
                  case rel => exact ⟨i + 1, (a.toList == b.toList), by omega, rfl, by go_num, HSN, drewN_bel _ HX7.out⟩
                  case measure => simp [intOf]; omega
                · have HX8 : Hid (Below w1.heap.size w1 wr) := HX6.out.trans (HX7.out.mono HX6.out.size)
                  have HQ8 : Hid (Blk wr w1.heap.size 29 #[.int .u16 (c : Int), .int .u8 (jt : Int), .int .u8 (jf : Int), .int .u32 (K : Int)]) := HQ6.out.below HX7.out HQ6.out.lt
                  cases B with
                  | true =>
                    obtain rfl : i = n := by
                      apply Classical.byContradiction
                      intro h
                      exact hgo ⟨by omega, rfl⟩
                    have HEQ : Hid (lineWs c jt jf K = w0 :: r) := by
                      show _ = _
                      rw [HXT.out]
                      exact same_end HSB.out (by have := HN.out; simp; omega)
                    have HF := Lib.hid (HFD.out c hlt HEQ.out)
                    have HP3 := blkH HP1 HX8.out
                    have HB3 := belB HBw HX8.out
                    have q0 := HQ8.out.cell 0
                    have q1 := HQ8.out.cell 1
                    have q2 := HQ8.out.cell 2
                    have q3 := HQ8.out.cell 3
                    simp only [List.getElem?_toArray, List.getElem?_cons_zero, List.getElem?_cons_succ] at q0 q1 q2 q3
                    clear hgo HX7 HX8 HQ8 HSB HQ6 HX6
                    have z0 := HP3.out.frozen 0
                    have z1 := HP3.out.frozen 1
                    have z2 := HP3.out.frozen 2
                    have z3 := HP3.out.frozen 3
                    have y0 := HP3.out.cell 0
                    have y1 := HP3.out.cell 1
                    have y2 := HP3.out.cell 2
                    have y3 := HP3.out.cell 3
                    simp only [List.getElem?_toArray, List.getElem?_cons_zero, List.getElem?_cons_succ] at y0 y1 y2 y3
                    go_wp2
                    have bF := ((((HP3.out.set 0 (.int .u16 (c : Int))).set 1 (.int .u8 (jt : Int))).set 2 (.int .u8 (jf : Int))).set 3 (.int .u32 (K : Int)))
                    have hF := (((HB3.out.setCell (p := ⟨w.heap.size, 0, none⟩) (Nat.le_refl _) (.int .u16 (c : Int))).setCell (p := ⟨w.heap.size, 1, none⟩) (Nat.le_refl _) (.int .u8 (jt : Int))).setCell (p := ⟨w.heap.size, 2, none⟩) (Nat.le_refl _) (.int .u8 (jf : Int))).setCell (p := ⟨w.heap.size, 3, none⟩) (Nat.le_refl _) (.int .u32 (K : Int))
                    have e0 := bF.cell 0
                    have e1 := bF.cell 1
                    have e2 := bF.cell 2
                    have e3 := bF.cell 3
                    simp at e0 e1 e2 e3
                    exact bodyPost_ret (v := .tuple #[.agg #[.int .u16 (c : Int), .int .u8 (jt : Int), .int .u8 (jf : Int), .int .u32 (K : Int)], .int .i64 0]) (by simp [results, Tryz.results8, go_sem, e0, e1, e2, e3]) rfl ⟨HF.out, hF⟩
                  | false =>
                    have HNE2 : Hid (∀ c', c' < c + 1 → lineWs c' jt jf K ≠ w0 :: r) := fun c' h => by
                      by_cases e : c' = c
                      · subst e; rw [HXT.out]; exact HSB.out.2 rfl
                      · exact HNE.out c' (by omega)
                    have hcs : (i : Int) < (n : Int) ∨ ¬ (i : Int) < (n : Int) := by omega
                    clear hgo HSB HX7
                    rcases hcs with hcs | hcs
                    all_goals
                      go_wp2
                      go_roundw
                      case rel => exact ⟨c + 1, (c : Int), by omega, by go_num, HQ8, HX8, HNE2⟩
                      case measure => simp [intOf]; omega
          · obtain rfl : c = 256 := by omega
            have HF := Lib.hid (HNO.out HNE.out)
            have HP3 := blkH HP1 HX4.out
            have HB3 := belB HBw HX4.out
            clear HQ4
            have z0 := HP3.out.frozen 0
            have z1 := HP3.out.frozen 1
            have z2 := HP3.out.frozen 2
            have z3 := HP3.out.frozen 3
            have y0 := HP3.out.cell 0
            have y1 := HP3.out.cell 1
            have y2 := HP3.out.cell 2
            have y3 := HP3.out.cell 3
            simp only [List.getElem?_toArray, List.getElem?_cons_zero, List.getElem?_cons_succ] at y0 y1 y2 y3
            go_wp2
            have bF := ((((HP3.out.set 0 (.int .u16 0)).set 1 (.int .u8 0)).set 2 (.int .u8 0)).set 3 (.int .u32 0))
            have hF := (((HB3.out.setCell (p := ⟨w.heap.size, 0, none⟩) (Nat.le_refl _) (.int .u16 0)).setCell (p := ⟨w.heap.size, 1, none⟩) (Nat.le_refl _) (.int .u8 0)).setCell (p := ⟨w.heap.size, 2, none⟩) (Nat.le_refl _) (.int .u8 0)).setCell (p := ⟨w.heap.size, 3, none⟩) (Nat.le_refl _) (.int .u32 0)
            have e0 := bF.cell 0
            have e1 := bF.cell 1
            have e2 := bF.cell 2
            have e3 := bF.cell 3
            simp at e0 e1 e2 e3
            exact bodyPost_ret (v := .tuple #[.agg #[.int .u16 0, .int .u8 0, .int .u8 0, .int .u32 0], .int .i64 13]) (by simp [results, Tryz.results8, go_sem, e0, e1, e2, e3]) rfl ⟨HF.out, hF⟩
end Go.Proofs.YtokehnclakedeaaGreatDoor
