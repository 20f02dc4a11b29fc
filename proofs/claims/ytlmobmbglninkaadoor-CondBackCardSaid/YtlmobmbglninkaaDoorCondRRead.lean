/- The document's Read: the condition that words begin with. -/
import Derived.Test.YtlmobmbglninkaaDoorCondRWord
import Derived.Test.YtlmobmbglninkaaDoorCondRNumA
import Derived.Test.YtlmobmbglninkaaDoorCondRArg
import Derived.Test.YtlmobmbglninkaaDoorCondROp
import Derived.Deep.LoopGhost
namespace Go.Proofs.YtlmobmbglninkaaDoor
open Go Go.Proofs Go.RowKit

theorem rkeep1 {a W wx : World} {p : Addr} {u : Value} (h : W.cell? p = some u ∧ Below a.heap.size a W) (hb : Below W.heap.size W wx) : wx.cell? p = some u ∧ Below a.heap.size a wx :=
  ⟨cellLater hb h.1, h.2.trans (hb.mono h.2.size)⟩
theorem dec_range (c : UInt8) : decS10.contains c = decide (48 ≤ c.toNat ∧ c.toNat ≤ 57) := by
  have h : ∀ n, n < 256 → decS10.contains (UInt8.ofNat n) = decide (48 ≤ (UInt8.ofNat n).toNat ∧ (UInt8.ofNat n).toNat ≤ 57) := by decide +kernel
  have := h c.toNat c.toNat_lt
  rwa [UInt8.ofNat_toNat] at this
theorem argOf_shortV {s : ByteArray} (h : s.size < 2) : argOf s.data.toList = (0, 13) := argOf_short (.inl (by rw [Array.length_toList]; exact h))
theorem argOf_notA {s : ByteArray} (h0 : 0 < s.size) (h : s[0]'h0 ≠ 97) : argOf s.data.toList = (0, 13) := argOf_short (.inr (by rw [head_get s h0]; exact fun e => h (Option.some.inj e)))
theorem list2 (s : ByteArray) (h : 1 < s.size) : s.data.toList = (s[0]'(by omega)) :: (s[1]'h) :: s.data.toList.drop 2 := by
  have hl : s.data.toList.length = s.size := Array.length_toList
  have e := List.drop_eq_getElem_cons (l := s.data.toList) (i := 0) (by omega)
  have e1 := List.drop_eq_getElem_cons (l := s.data.toList) (i := 1) (by omega)
  rw [List.drop_zero] at e
  rw [e1] at e
  exact e
theorem argOf_bad {s : ByteArray} (h1 : 1 < s.size) (ha : s[0]'(by omega) = 97) {k : Nat} (hk1 : 1 ≤ k) (hk : k < s.size) (h : decS10.contains (s[k]'hk) = false) : argOf s.data.toList = (0, 13) := by
  have hl : s.data.toList.length = s.size := Array.length_toList
  have hm : s[k]'hk ∈ (s[1]'h1) :: s.data.toList.drop 2 := by
    have e := list2 s h1
    have hg : s.data.toList[k]'(by omega) = s[k]'hk := rfl
    have h2 : s.data.toList[k]? = some (s[k]'hk) := by rw [List.getElem?_eq_getElem (by omega)]; rfl
    rw [e] at h2
    obtain ⟨j, rfl⟩ : ∃ j, k = j + 1 := ⟨k - 1, by omega⟩
    rw [List.getElem?_cons_succ] at h2
    exact List.mem_of_getElem? h2
  rw [list2 s h1, ha, argOf_cons, if_neg (fun hall => by rw [hall _ hm] at h; cases h)]
theorem all_digits {s : ByteArray} (h1 : 1 < s.size) (h : ∀ j (hj : j < s.size), 1 ≤ j → decS10.contains (s[j]'hj) = true) : ∀ b ∈ (s[1]'h1) :: s.data.toList.drop 2, decS10.contains b = true := by
  have hl : s.data.toList.length = s.size := Array.length_toList
  intro b hb
  obtain ⟨j, hj⟩ := List.getElem?_of_mem hb
  have e := list2 s h1
  have h2 : s.data.toList[j + 1]? = some b := by rw [e, List.getElem?_cons_succ]; exact hj
  obtain ⟨hlt, hq⟩ := List.getElem?_eq_some_iff.1 h2
  have := h (j + 1) (by omega) (by omega)
  rw [← hq]
  exact this
theorem argOf_long {s : ByteArray} (h1 : 1 < s.size) (ha : s[0]'(by omega) = 97) (h : ∀ j (hj : j < s.size), 1 ≤ j → decS10.contains (s[j]'hj) = true) (hb : 2 < s.size ∨ 53 < (s[1]'h1).toNat) : argOf s.data.toList = (0, 16) := by
  have hl : s.data.toList.length = s.size := Array.length_toList
  rw [list2 s h1, ha, argOf_cons, if_pos (all_digits h1 h), if_pos]
  rcases hb with hb | hb
  · refine .inl (fun e => ?_)
    have := congrArg List.length e
    rw [List.length_drop, hl] at this
    simp at this
    omega
  · exact .inr hb
theorem argOf_one {s : ByteArray} (h1 : 1 < s.size) (ha : s[0]'(by omega) = 97) (h : ∀ j (hj : j < s.size), 1 ≤ j → decS10.contains (s[j]'hj) = true) (h2 : ¬ 2 < s.size) (h5 : ¬ 53 < (s[1]'h1).toNat) : argOf s.data.toList = ((s[1]'h1).toNat - 48, 0) := by
  have hl : s.data.toList.length = s.size := Array.length_toList
  rw [list2 s h1, ha, argOf_cons, if_pos (all_digits h1 h), if_neg]
  rintro (hb | hb)
  · exact hb (List.drop_eq_nil_of_le (by omega))
  · exact h5 hb

set_option maxRecDepth 100000 in
set_option maxHeartbeats 8000000 in
theorem rread_any (sv : Value) (ws : List ByteArray) (hbig : ws.length ≤ 1000000) (hsz : ∀ s ∈ ws, s.size ≤ 1000000) (w : World) (hW : WordsV w sv ws) :
    Calls Tryd.prog 10 #[sv] w fun e w' => e = .returned (readV (readAns ws)) ∧ Below w.heap.size w w' := by
  obtain ⟨ad, c, rfl, hx⟩ := hW
  have bZ := Blk.new w 29 #[.int .i64 0, .int .i64 0, .int .u64 0, .int .u64 0]
  have hb1 := (Below.refl w.heap.size w).alloc (Nat.le_refl _) (.cells #[.int .i64 0, .int .i64 0, .int .u64 0, .int .u64 0] 29)
  have HZ := Lib.hid bZ
  have HB := Lib.hid hb1
  clear bZ hb1
  cases ws with
  | nil =>
    clear hx HZ
    go_enter Tryd.func10, Tryd.ntmps10
    go_wp2
    refine bodyPost_ret (v := .tuple #[.agg #[.int .i64 0, .int .i64 0, .int .u64 0, .int .u64 0], .int .i64 0, .int .i64 4]) (by simp [results, Tryd.results10, go_sem]) rfl ⟨rfl, ?_⟩
    exact HB.out
  | cons s r =>
    obtain ⟨b, off, rfl, hlt, hcells⟩ := hx.resolve_left (fun h => by cases h)
    have HLT := Lib.hid hlt
    have HS : Hid (∀ W, Below w.heap.size w W → ∀ j t, (s :: r)[j]? = some t → W.cell? ⟨b, off + j, none⟩ = some (.string t)) := fun W hW j t ht => cellLater hW (hcells j t ht)
    obtain ⟨n, hn⟩ : ∃ n, (s :: r).length = n := ⟨_, rfl⟩
    have hn0 : 0 < n := by rw [← hn]; simp
    rw [hn] at hbig ⊢
    have hn0z : ¬ (n : Int) = 0 := by omega
    have hn0b : ((n : Int) == 0) = false := by simpa using hn0z
    have hn0p : (0 : Int) < (n : Int) := by omega
    have HN := Lib.hid hn
    have hss : s.size ≤ 1000000 := hsz s (by simp)
    clear hx hcells hlt hn
    have q0 := HS.out _ HB.out 0 s rfl
    simp only [Nat.add_zero] at q0
    have e13 : argOf s.data.toList = (0, 13) → readV (readAns (s :: r)) = .tuple #[.agg #[.int .i64 0, .int .i64 0, .int .u64 0, .int .u64 0], .int .i64 0, .int .i64 13] := fun h => by rw [readAns_err r h (by decide)]; rfl
    have e16 : argOf s.data.toList = (0, 16) → readV (readAns (s :: r)) = .tuple #[.agg #[.int .i64 0, .int .i64 0, .int .u64 0, .int .u64 0], .int .i64 0, .int .i64 16] := fun h => by rw [readAns_err r h (by decide)]; rfl
    have E13 := Lib.hid e13
    have E16 := Lib.hid e16
    clear e13 e16
    by_cases h2 : s.size < 2
    · have h2z : (s.size : Int) < 2 := by omega
      have HV := Lib.hid (E13.out (argOf_shortV h2))
      have z0 := HZ.out.frozen 0
      have z1 := HZ.out.frozen 1
      have z2 := HZ.out.frozen 2
      have z3 := HZ.out.frozen 3
      have y0 := HZ.out.cell 0
      have y1 := HZ.out.cell 1
      have y2 := HZ.out.cell 2
      have y3 := HZ.out.cell 3
      simp only [List.getElem?_toArray, List.getElem?_cons_zero, List.getElem?_cons_succ] at y0 y1 y2 y3
      go_enter Tryd.func10, Tryd.ntmps10
      go_wp2
      have bF := (((HZ.out.set 0 (.int .i64 0)).set 1 (.int .i64 0)).set 2 (.int .u64 0)).set 3 (.int .u64 0)
      have e0 := bF.cell 0
      have e1 := bF.cell 1
      have e2 := bF.cell 2
      have e3 := bF.cell 3
      simp at e0 e1 e2 e3
      refine bodyPost_ret (v := .tuple #[.agg #[.int .i64 0, .int .i64 0, .int .u64 0, .int .u64 0], .int .i64 0, .int .i64 13]) (by simp [results, Tryd.results10, go_sem, e0, e1, e2, e3]) rfl ⟨congrArg Ending.returned HV.out.symm, ?_⟩
      first | exact HB.out | exact (((HB.out.setCell (p := ⟨w.heap.size, 0, none⟩) (Nat.le_refl _) _).setCell (p := ⟨w.heap.size, 1, none⟩) (Nat.le_refl _) _).setCell (p := ⟨w.heap.size, 2, none⟩) (Nat.le_refl _) _).setCell (p := ⟨w.heap.size, 3, none⟩) (Nat.le_refl _) _
    have h2z : ¬ (s.size : Int) < 2 := by omega
    have h00 : 0 < s.size := by omega
    have h01 : 1 < s.size := by omega
    have h00z : (0 : Int) < (s.size : Int) := by omega
    have h01z : (1 : Int) < (s.size : Int) := by omega
    by_cases ha : s[0]'h00 = 97
    case neg =>
      have HV := Lib.hid (E13.out (argOf_notA h00 ha))
      have ha2 : ¬ (((s[0]'h00).toNat : Nat) : Int) = 97 := fun e => ha (UInt8.toNat_inj.1 (by simpa using Int.ofNat.inj e))
      have ha3 : ((((s[0]'h00).toNat : Nat) : Int) != 97) = true := by simpa using ha2
      clear ha
      have z0 := HZ.out.frozen 0
      have z1 := HZ.out.frozen 1
      have z2 := HZ.out.frozen 2
      have z3 := HZ.out.frozen 3
      have y0 := HZ.out.cell 0
      have y1 := HZ.out.cell 1
      have y2 := HZ.out.cell 2
      have y3 := HZ.out.cell 3
      simp only [List.getElem?_toArray, List.getElem?_cons_zero, List.getElem?_cons_succ] at y0 y1 y2 y3
      go_enter Tryd.func10, Tryd.ntmps10
      go_wp2
      have bF := (((HZ.out.set 0 (.int .i64 0)).set 1 (.int .i64 0)).set 2 (.int .u64 0)).set 3 (.int .u64 0)
      have e0 := bF.cell 0
      have e1 := bF.cell 1
      have e2 := bF.cell 2
      have e3 := bF.cell 3
      simp at e0 e1 e2 e3
      refine bodyPost_ret (v := .tuple #[.agg #[.int .i64 0, .int .i64 0, .int .u64 0, .int .u64 0], .int .i64 0, .int .i64 13]) (by simp [results, Tryd.results10, go_sem, e0, e1, e2, e3]) rfl ⟨congrArg Ending.returned HV.out.symm, ?_⟩
      first | exact HB.out | exact (((HB.out.setCell (p := ⟨w.heap.size, 0, none⟩) (Nat.le_refl _) _).setCell (p := ⟨w.heap.size, 1, none⟩) (Nat.le_refl _) _).setCell (p := ⟨w.heap.size, 2, none⟩) (Nat.le_refl _) _).setCell (p := ⟨w.heap.size, 3, none⟩) (Nat.le_refl _) _
    have ha2 : (((s[0]'h00).toNat : Nat) : Int) = 97 := by rw [ha]; rfl
    have HA := Lib.hid ha
    clear ha
    go_enter Tryd.func10, Tryd.ntmps10
    go_upto_region 7 with fail
    clear q0 ha2
    go_loopg [6] (s.size + 1) (fun gg s6 wr => ∃ k : Nat, s6 = .int .i64 k ∧ 1 ≤ k ∧ k ≤ s.size ∧ s.size - k < gg ∧ Hid (∀ j (hj : j < s.size), 1 ≤ j → j < k → decS10.contains (s[j]'hj) = true) ∧ Hid (Below w.heap.size w wr) ∧ Hid (Blk wr w.heap.size 29 #[.int .i64 0, .int .i64 0, .int .u64 0, .int .u64 0]))
    case atStart => exact ⟨1, rfl, by omega, by omega, by omega, (show Hid _ from fun j hj h1 h2 => absurd h1 (by omega)), HB, HZ⟩
    case round =>
      obtain ⟨k, rfl, hk1, hk, hg, A, BW, ZW⟩ := hrel
      clear HB HZ
      by_cases hlt : k < s.size
      · have hz : (k : Int) < (s.size : Int) := by omega
        have hz0 : (0 : Int) ≤ (k : Int) := by omega
        by_cases hd : 48 ≤ (s[k]'hlt).toNat ∧ (s[k]'hlt).toNat ≤ 57
        · have hdc : decS10.contains (s[k]'hlt) = true := by rw [dec_range]; exact decide_eq_true hd
          have hd1 : ¬ (((s[k]'hlt).toNat : Nat) : Int) < 48 := by omega
          have hd2 : ¬ (57 : Int) < (((s[k]'hlt).toNat : Nat) : Int) := by omega
          have A2 : Hid (∀ j (hj : j < s.size), 1 ≤ j → j < k + 1 → decS10.contains (s[j]'hj) = true) := fun j hj h1 h2 => by
            by_cases e : j = k
            · subst e; exact hdc
            · exact A.out j hj h1 (by omega)
          clear hdc hd
          go_wp2
          go_roundg (s.size - k)
          case measure => omega
          case rel => exact ⟨k + 1, by go_num, by omega, by omega, by omega, A2, BW, ZW⟩
        · have hdc : decS10.contains (s[k]'hlt) = false := by rw [dec_range]; exact decide_eq_false hd
          have HV := Lib.hid (E13.out (argOf_bad h01 HA.out hk1 hlt hdc))
          have hd3 : (((s[k]'hlt).toNat : Nat) : Int) < 48 ∨ (¬ (((s[k]'hlt).toNat : Nat) : Int) < 48 ∧ (57 : Int) < (((s[k]'hlt).toNat : Nat) : Int)) := by omega
          clear hdc hd
          have z0 := ZW.out.frozen 0
          have z1 := ZW.out.frozen 1
          have z2 := ZW.out.frozen 2
          have z3 := ZW.out.frozen 3
          have y0 := ZW.out.cell 0
          have y1 := ZW.out.cell 1
          have y2 := ZW.out.cell 2
          have y3 := ZW.out.cell 3
          simp only [List.getElem?_toArray, List.getElem?_cons_zero, List.getElem?_cons_succ] at y0 y1 y2 y3
          rcases hd3 with hd1 | ⟨hd1, hd2⟩
          all_goals
            go_wp2
            have bF := (((ZW.out.set 0 (.int .i64 0)).set 1 (.int .i64 0)).set 2 (.int .u64 0)).set 3 (.int .u64 0)
            have e0 := bF.cell 0
            have e1 := bF.cell 1
            have e2 := bF.cell 2
            have e3 := bF.cell 3
            simp at e0 e1 e2 e3
            refine bodyPost_ret (v := .tuple #[.agg #[.int .i64 0, .int .i64 0, .int .u64 0, .int .u64 0], .int .i64 0, .int .i64 13]) (by simp [results, Tryd.results10, go_sem, e0, e1, e2, e3]) rfl ⟨congrArg Ending.returned HV.out.symm, ?_⟩
            first | exact BW.out | exact (((BW.out.setCell (p := ⟨w.heap.size, 0, none⟩) (Nat.le_refl _) _).setCell (p := ⟨w.heap.size, 1, none⟩) (Nat.le_refl _) _).setCell (p := ⟨w.heap.size, 2, none⟩) (Nat.le_refl _) _).setCell (p := ⟨w.heap.size, 3, none⟩) (Nat.le_refl _) _
      · obtain rfl : k = s.size := by omega
        have A : Hid (∀ j (hj : j < s.size), 1 ≤ j → decS10.contains (s[j]'hj) = true) := fun j hj h1 => A.out j hj h1 hj
        by_cases hlong : 2 < s.size ∨ 53 < (s[1]'h01).toNat
        · have HV := Lib.hid (E16.out (argOf_long h01 HA.out A.out hlong))
          have hd3 : (2 : Int) < (s.size : Int) ∨ (¬ (2 : Int) < (s.size : Int) ∧ (53 : Int) < (((s[1]'h01).toNat : Nat) : Int)) := by omega
          clear hlong
          have z0 := ZW.out.frozen 0
          have z1 := ZW.out.frozen 1
          have z2 := ZW.out.frozen 2
          have z3 := ZW.out.frozen 3
          have y0 := ZW.out.cell 0
          have y1 := ZW.out.cell 1
          have y2 := ZW.out.cell 2
          have y3 := ZW.out.cell 3
          simp only [List.getElem?_toArray, List.getElem?_cons_zero, List.getElem?_cons_succ] at y0 y1 y2 y3
          rcases hd3 with hd1 | ⟨hd1, hd2⟩
          all_goals
            go_wp2
            have bF := (((ZW.out.set 0 (.int .i64 0)).set 1 (.int .i64 0)).set 2 (.int .u64 0)).set 3 (.int .u64 0)
            have e0 := bF.cell 0
            have e1 := bF.cell 1
            have e2 := bF.cell 2
            have e3 := bF.cell 3
            simp at e0 e1 e2 e3
            refine bodyPost_ret (v := .tuple #[.agg #[.int .i64 0, .int .i64 0, .int .u64 0, .int .u64 0], .int .i64 0, .int .i64 16]) (by simp [results, Tryd.results10, go_sem, e0, e1, e2, e3]) rfl ⟨congrArg Ending.returned HV.out.symm, ?_⟩
            first | exact BW.out | exact (((BW.out.setCell (p := ⟨w.heap.size, 0, none⟩) (Nat.le_refl _) _).setCell (p := ⟨w.heap.size, 1, none⟩) (Nat.le_refl _) _).setCell (p := ⟨w.heap.size, 2, none⟩) (Nat.le_refl _) _).setCell (p := ⟨w.heap.size, 3, none⟩) (Nat.le_refl _) _
        have hl1 : ¬ (2 : Int) < (s.size : Int) := by omega
        have hl2 : ¬ (53 : Int) < (((s[1]'h01).toNat : Nat) : Int) := by omega
        have hd48 : 48 ≤ (s[1]'h01).toNat := by
          have := A.out 1 h01 (by omega)
          rw [dec_range] at this
          exact (of_decide_eq_true this).1
        have hA := argOf_one h01 HA.out A.out (by omega) (by omega)
        obtain ⟨a, ha⟩ : ∃ a, (s[1]'h01).toNat - 48 = a := ⟨_, rfl⟩
        rw [ha] at hA
        have hav : (((s[1]'h01).toNat : Nat) : Int) - 48 = (a : Int) := by omega
        have hau : IntKind.u8.wrap ((((s[1]'h01).toNat : Nat) : Int) - 48) = (a : Int) := by rw [IntKind.wrap_u8]; omega
        have haw : IntKind.i64.wrap (a : Int) = (a : Int) := IntWalk.i64_in _ (by omega)
        have HV0 : Hid (readAns (s :: r) = readRest a r) := readAns_ok r hA
        clear hA ha hd48 HA A E13 E16
        go_upto_region 14 with fail
        have HD2 := Lib.hid (Blk.new wr 29 #[.int .i64 (a : Int), .int .i64 0, .int .u64 0, .int .u64 0])
        have HZ2 := Lib.hid (ZW.out.alloc (.cells #[.int .i64 (a : Int), .int .i64 0, .int .u64 0, .int .u64 0] 29))
        have HB2 := Lib.hid (BW.out.alloc BW.out.size (.cells #[.int .i64 (a : Int), .int .i64 0, .int .u64 0, .int .u64 0] 29))
        have HDZ := Lib.hid ZW.out.lt
        clear ZW BW
        generalize wr.alloc (.cells #[.int .i64 (a : Int), .int .i64 0, .int .u64 0, .int .u64 0] 29) = W2 at *
        generalize wr.heap.size = D at *
        have HV13 : ∀ l, readRest a l = ⟨0, 0, 0, 0, 0, 13⟩ → readAns (s :: r) = readRest a l → readV (readAns (s :: r)) = .tuple #[.agg #[.int .i64 0, .int .i64 0, .int .u64 0, .int .u64 0], .int .i64 0, .int .i64 13] := fun l h e => by rw [e, h]; rfl
        have H13 := Lib.hid HV13
        clear HV13
        rcases r with _ | ⟨s1, _ | ⟨s2, r⟩⟩
        · have hn3 : (n : Int) < 3 := by have := HN.out; simp at this; omega
          have HV := Lib.hid (H13.out _ rfl HV0.out)
          have z0 := HZ2.out.frozen 0
          have z1 := HZ2.out.frozen 1
          have z2 := HZ2.out.frozen 2
          have z3 := HZ2.out.frozen 3
          have y0 := HZ2.out.cell 0
          have y1 := HZ2.out.cell 1
          have y2 := HZ2.out.cell 2
          have y3 := HZ2.out.cell 3
          simp only [List.getElem?_toArray, List.getElem?_cons_zero, List.getElem?_cons_succ] at y0 y1 y2 y3
          go_wp2
          have bF := (((HZ2.out.set 0 (.int .i64 0)).set 1 (.int .i64 0)).set 2 (.int .u64 0)).set 3 (.int .u64 0)
          have e0 := bF.cell 0
          have e1 := bF.cell 1
          have e2 := bF.cell 2
          have e3 := bF.cell 3
          simp at e0 e1 e2 e3
          refine bodyPost_ret (v := .tuple #[.agg #[.int .i64 0, .int .i64 0, .int .u64 0, .int .u64 0], .int .i64 0, .int .i64 13]) (by simp [results, Tryd.results10, go_sem, e0, e1, e2, e3]) rfl ⟨congrArg Ending.returned HV.out.symm, ?_⟩
          first | exact HB2.out | exact (((HB2.out.setCell (p := ⟨w.heap.size, 0, none⟩) (Nat.le_refl _) _).setCell (p := ⟨w.heap.size, 1, none⟩) (Nat.le_refl _) _).setCell (p := ⟨w.heap.size, 2, none⟩) (Nat.le_refl _) _).setCell (p := ⟨w.heap.size, 3, none⟩) (Nat.le_refl _) _
        · have hn3 : (n : Int) < 3 := by have := HN.out; simp at this; omega
          have HV := Lib.hid (H13.out _ rfl HV0.out)
          have z0 := HZ2.out.frozen 0
          have z1 := HZ2.out.frozen 1
          have z2 := HZ2.out.frozen 2
          have z3 := HZ2.out.frozen 3
          have y0 := HZ2.out.cell 0
          have y1 := HZ2.out.cell 1
          have y2 := HZ2.out.cell 2
          have y3 := HZ2.out.cell 3
          simp only [List.getElem?_toArray, List.getElem?_cons_zero, List.getElem?_cons_succ] at y0 y1 y2 y3
          go_wp2
          have bF := (((HZ2.out.set 0 (.int .i64 0)).set 1 (.int .i64 0)).set 2 (.int .u64 0)).set 3 (.int .u64 0)
          have e0 := bF.cell 0
          have e1 := bF.cell 1
          have e2 := bF.cell 2
          have e3 := bF.cell 3
          simp at e0 e1 e2 e3
          refine bodyPost_ret (v := .tuple #[.agg #[.int .i64 0, .int .i64 0, .int .u64 0, .int .u64 0], .int .i64 0, .int .i64 13]) (by simp [results, Tryd.results10, go_sem, e0, e1, e2, e3]) rfl ⟨congrArg Ending.returned HV.out.symm, ?_⟩
          first | exact HB2.out | exact (((HB2.out.setCell (p := ⟨w.heap.size, 0, none⟩) (Nat.le_refl _) _).setCell (p := ⟨w.heap.size, 1, none⟩) (Nat.le_refl _) _).setCell (p := ⟨w.heap.size, 2, none⟩) (Nat.le_refl _) _).setCell (p := ⟨w.heap.size, 3, none⟩) (Nat.le_refl _) _
        have hn3 : ¬ (n : Int) < 3 := by have := HN.out; simp at this; omega
        have hn1p : (1 : Int) < (n : Int) := by omega
        have hn2p : (2 : Int) < (n : Int) := by omega
        go_upto_region 17 with fail
        go_loopg [8] 8 (fun gg s8 wr => ∃ kk : Nat, kk ≤ 7 ∧ 7 - kk < gg ∧ s8 = .int .i64 ((kk : Int) + 1) ∧ Hid (Below w.heap.size w wr) ∧ Hid (Blk wr w.heap.size 29 #[.int .i64 0, .int .i64 0, .int .u64 0, .int .u64 0]) ∧ Hid (Blk wr D 29 #[.int .i64 (a : Int), .int .i64 (opSeen s1 kk), .int .u64 0, .int .u64 0]))
        case atStart => exact ⟨0, Nat.zero_le _, by omega, rfl, HB2, HZ2, HD2⟩
        case round =>
          obtain ⟨kk, hkk, hg, rfl, BW, ZW, DW⟩ := hrel
          obtain ⟨K, hK⟩ : ∃ K : Int, (kk : Int) + 1 = K := ⟨_, rfl⟩
          rw [hK]
          have HK := Lib.hid hK
          clear HB2 HZ2 HD2
          by_cases hlt : kk < 7
          · have hK1 : 1 ≤ K := by omega
            have hK7 : K ≤ 7 := by omega
            have Hw : Hid (∀ W, Calls Tryd.prog 23 #[.int .i64 K] W fun e w' => e = .returned (.string (opText K)) ∧ Below W.heap.size W w') := fun W => by
              have := word_any (kk + 1) (by omega) (by omega) W
              rwa [show ((kk + 1 : Nat) : Int) = K by omega] at this
            have q1 := HS.out _ BW.out 1 s1 rfl
            have w3 : IntKind.i64.wrap (K + 1) = K + 1 := IntWalk.i64_in _ (by omega)
            have hwd : opB s1 kk = ((opText K).toList == s1.toList) := by unfold opB; rw [hK]
            cases hq : ((opText K).toList == s1.toList) with
            | false =>
              have HF : Hid (opSeen s1 (kk + 1) = opSeen s1 kk) := by show opSeen s1 (kk + 1) = _; unfold opSeen; rw [hwd, hq, if_neg (by decide)]; cases kk <;> rfl
              clear hwd hK
              go_upto_region 19 with fail
              go_region_held3 (fun w' => w'.cell? ⟨b, off + 1, none⟩ = some (.string s1) ∧ Below wr.heap.size wr w') (first | exact ⟨q1, (Below.refl _ wr).drew⟩ | exact rkeep1 (by assumption) hbx | go_keep) (first | (go_at_call 23; refine (Hw.out _).mono ?_; rintro e wx ⟨rfl, hbx⟩))
              have hbw : Below wr.heap.size wr wx := (show wx.cell? ⟨b, off + 1, none⟩ = some (.string s1) ∧ Below wr.heap.size wr wx by assumption).2
              have ZX := blkB ZW hbw
              have BX := belB BW hbw
              have DX := blkB DW hbw
              rw [← HF.out] at DX
              clear q1
              go_wp2
              go_roundg (7 - kk)
              case measure => omega
              case rel => exact ⟨kk + 1, by omega, by omega, by rw [← HK.out]; go_num, BX, ZX, DX⟩
            | true =>
              have HF : Hid (opSeen s1 (kk + 1) = K) := by show opSeen s1 (kk + 1) = _; unfold opSeen; rw [hwd, hq, if_pos rfl]; exact hK
              clear hwd hK
              go_upto_region 19 with fail
              go_region_held3 (fun w' => w'.cell? ⟨b, off + 1, none⟩ = some (.string s1) ∧ Below wr.heap.size wr w') (first | exact ⟨q1, (Below.refl _ wr).drew⟩ | exact rkeep1 (by assumption) hbx | go_keep) (first | (go_at_call 23; refine (Hw.out _).mono ?_; rintro e wx ⟨rfl, hbx⟩))
              have hbw : Below wr.heap.size wr wx := (show wx.cell? ⟨b, off + 1, none⟩ = some (.string s1) ∧ Below wr.heap.size wr wx by assumption).2
              have ZX := blkB ZW hbw
              have BX := belB BW hbw
              have DX := blkB DW hbw
              have f1 := DX.out.frozen 1
              have g1 := DX.out.cell 1
              simp only [List.getElem?_toArray, List.getElem?_cons_zero, List.getElem?_cons_succ] at g1
              clear q1
              go_wp2
              have hDX : Blk (wx.setCell ⟨D, 1, none⟩ (.int .i64 K)) D 29 #[.int .i64 (a : Int), .int .i64 K, .int .u64 0, .int .u64 0] := DX.out.set 1 (.int .i64 K)
              have hZX := ZX.out.other (by have := HDZ.out; omega : w.heap.size ≠ D) 1 (.int .i64 K)
              have hBX := BX.out.setCell (p := ⟨D, 1, none⟩) (by have := HDZ.out; show w.heap.size ≤ D; omega) (.int .i64 K)
              rw [← HF.out] at hDX
              have HDX := Lib.hid hDX
              have HZX := Lib.hid hZX
              have HBX := Lib.hid hBX
              go_roundg (7 - kk)
              case measure => omega
              case rel => exact ⟨kk + 1, by omega, by omega, by rw [← HK.out]; go_num, by rw [HF.out] at *; exact HBX, by rw [HF.out] at *; exact HZX, by first | exact HDX | (rw [HF.out] at *; exact HDX)⟩
          · obtain rfl : kk = 7 := by omega
            obtain rfl : K = 8 := by omega
            clear hK HK
            obtain ⟨G, hG⟩ : ∃ G, opSeen s1 7 = G := ⟨_, rfl⟩
            rw [hG] at DW
            have hGF : firstO (opB s1) = G - 1 := by rw [← hG, opSeen_all]; omega
            have hFc := firstO_cases (opB s1)
            have hG0 : 0 ≤ G ∧ G ≤ 7 := by rcases hFc with h | ⟨k, h1, h2⟩ <;> omega
            have HF := Lib.hid hGF
            clear hGF hFc hG
            have t2 := HS.out _ BW.out 2 s2 rfl
            have hnum := fun W => refNumber_any s2 (hsz s2 (by simp)) W
            obtain ⟨q, hq⟩ : ∃ q, numOf s2.data.toList = q := ⟨_, rfl⟩
            rw [hq] at hnum
            have Hnum := Lib.hid hnum
            clear hnum
            cases q with
            | none =>
              have Hnum : Hid (∀ W, Calls Tryd.prog 12 #[.string s2] W fun e w' => e = .returned (.tuple #[.int .u64 0, .bool false]) ∧ Below W.heap.size W w') := Hnum
              have HV := Lib.hid (H13.out _ (readRest_no a s1 s2 r (.inr hq)) HV0.out)
              clear hq
              go_wp2_with fail
              refine (Hnum.out _).mono ?_
              rintro e w6 ⟨rfl, hb6⟩
              have ZX := blkB ZW hb6
              have BX := belB BW hb6
              have DX := blkB DW hb6
              clear t2 hb6 Hnum ZW BW DW
              have g1 := DX.out.cell 1
              simp only [List.getElem?_toArray, List.getElem?_cons_zero, List.getElem?_cons_succ] at g1
              have z0 := ZX.out.frozen 0
              have z1 := ZX.out.frozen 1
              have z2 := ZX.out.frozen 2
              have z3 := ZX.out.frozen 3
              have y0 := ZX.out.cell 0
              have y1 := ZX.out.cell 1
              have y2 := ZX.out.cell 2
              have y3 := ZX.out.cell 3
              simp only [List.getElem?_toArray, List.getElem?_cons_zero, List.getElem?_cons_succ] at y0 y1 y2 y3
              by_cases hGz : G = 0
              · subst hGz
                go_wp2
                have bF := (((ZX.out.set 0 (.int .i64 0)).set 1 (.int .i64 0)).set 2 (.int .u64 0)).set 3 (.int .u64 0)
                have e0 := bF.cell 0
                have e1 := bF.cell 1
                have e2 := bF.cell 2
                have e3 := bF.cell 3
                simp at e0 e1 e2 e3
                refine bodyPost_ret (v := .tuple #[.agg #[.int .i64 0, .int .i64 0, .int .u64 0, .int .u64 0], .int .i64 0, .int .i64 13]) (by simp [results, Tryd.results10, go_sem, e0, e1, e2, e3]) rfl ⟨congrArg Ending.returned HV.out.symm, ?_⟩
                first | exact BX.out | exact (((BX.out.setCell (p := ⟨w.heap.size, 0, none⟩) (Nat.le_refl _) _).setCell (p := ⟨w.heap.size, 1, none⟩) (Nat.le_refl _) _).setCell (p := ⟨w.heap.size, 2, none⟩) (Nat.le_refl _) _).setCell (p := ⟨w.heap.size, 3, none⟩) (Nat.le_refl _) _
              · have hGb : (G == 0) = false := by simpa using hGz
                go_wp2
                have bF := (((ZX.out.set 0 (.int .i64 0)).set 1 (.int .i64 0)).set 2 (.int .u64 0)).set 3 (.int .u64 0)
                have e0 := bF.cell 0
                have e1 := bF.cell 1
                have e2 := bF.cell 2
                have e3 := bF.cell 3
                simp at e0 e1 e2 e3
                refine bodyPost_ret (v := .tuple #[.agg #[.int .i64 0, .int .i64 0, .int .u64 0, .int .u64 0], .int .i64 0, .int .i64 13]) (by simp [results, Tryd.results10, go_sem, e0, e1, e2, e3]) rfl ⟨congrArg Ending.returned HV.out.symm, ?_⟩
                first | exact BX.out | exact (((BX.out.setCell (p := ⟨w.heap.size, 0, none⟩) (Nat.le_refl _) _).setCell (p := ⟨w.heap.size, 1, none⟩) (Nat.le_refl _) _).setCell (p := ⟨w.heap.size, 2, none⟩) (Nat.le_refl _) _).setCell (p := ⟨w.heap.size, 3, none⟩) (Nat.le_refl _) _
            | some u =>
              have Hnum : Hid (∀ W, Calls Tryd.prog 12 #[.string s2] W fun e w' => e = .returned (.tuple #[.int .u64 (u : Int), .bool true]) ∧ Below W.heap.size W w') := Hnum
              have HQ := Lib.hid hq
              clear hq
              go_wp2_with fail
              refine (Hnum.out _).mono ?_
              rintro e w6 ⟨rfl, hb6⟩
              have ZX := blkB ZW hb6
              have BX := belB BW hb6
              have DX := blkB DW hb6
              clear t2 hb6 Hnum ZW BW DW
              have g1 := DX.out.cell 1
              simp only [List.getElem?_toArray, List.getElem?_cons_zero, List.getElem?_cons_succ] at g1
              by_cases hGz : G = 0
              · have HV := Lib.hid (H13.out _ (readRest_no a s1 s2 r (.inl (by rw [HF.out]; omega))) HV0.out)
                subst hGz
                have z0 := ZX.out.frozen 0
                have z1 := ZX.out.frozen 1
                have z2 := ZX.out.frozen 2
                have z3 := ZX.out.frozen 3
                have y0 := ZX.out.cell 0
                have y1 := ZX.out.cell 1
                have y2 := ZX.out.cell 2
                have y3 := ZX.out.cell 3
                simp only [List.getElem?_toArray, List.getElem?_cons_zero, List.getElem?_cons_succ] at y0 y1 y2 y3
                go_wp2
                have bF := (((ZX.out.set 0 (.int .i64 0)).set 1 (.int .i64 0)).set 2 (.int .u64 0)).set 3 (.int .u64 0)
                have e0 := bF.cell 0
                have e1 := bF.cell 1
                have e2 := bF.cell 2
                have e3 := bF.cell 3
                simp at e0 e1 e2 e3
                refine bodyPost_ret (v := .tuple #[.agg #[.int .i64 0, .int .i64 0, .int .u64 0, .int .u64 0], .int .i64 0, .int .i64 13]) (by simp [results, Tryd.results10, go_sem, e0, e1, e2, e3]) rfl ⟨congrArg Ending.returned HV.out.symm, ?_⟩
                first | exact BX.out | exact (((BX.out.setCell (p := ⟨w.heap.size, 0, none⟩) (Nat.le_refl _) _).setCell (p := ⟨w.heap.size, 1, none⟩) (Nat.le_refl _) _).setCell (p := ⟨w.heap.size, 2, none⟩) (Nat.le_refl _) _).setCell (p := ⟨w.heap.size, 3, none⟩) (Nat.le_refl _) _
              have hGb : (G == 0) = false := by simpa using hGz
              by_cases hG7 : G = 7
              case neg =>
                have hGlt : G < 7 := by omega
                have HV : Hid (readV (readAns (s :: s1 :: s2 :: r)) = .tuple #[.agg #[.int .i64 (a : Int), .int .i64 G, .int .u64 0, .int .u64 (u : Int)], .int .i64 3, .int .i64 0]) := by
                  show readV _ = _
                  rw [HV0.out, readRest_val a s1 s2 r (by rw [HF.out]; omega) (by rw [HF.out]; omega) HQ.out, HF.out]
                  unfold readV
                  rw [show G - 1 + 1 = G by omega]
                have f3 := DX.out.frozen 3
                have g3 := DX.out.cell 3
                simp only [List.getElem?_toArray, List.getElem?_cons_zero, List.getElem?_cons_succ] at g3
                go_upto_region 26 with fail
                have HD7 := Lib.hid (DX.out.set 3 (.int .u64 (u : Int)))
                have HZ7 := Lib.hid (ZX.out.other (by have := HDZ.out; omega : w.heap.size ≠ D) 3 (.int .u64 (u : Int)))
                have HB7 := Lib.hid (BX.out.setCell (p := ⟨D, 3, none⟩) (by have := HDZ.out; show w.heap.size ≤ D; omega) (.int .u64 (u : Int)))
                clear ZX BX DX g1 g3 f3
                generalize w6.setCell ⟨D, 3, none⟩ (.int .u64 (u : Int)) = W7 at *
                have d0 := HD7.out.cell 0
                have d1 := HD7.out.cell 1
                have d2 := HD7.out.cell 2
                have d3 := HD7.out.cell 3
                simp at d0 d1 d2 d3
                have z0 := HZ7.out.frozen 0
                have z1 := HZ7.out.frozen 1
                have z2 := HZ7.out.frozen 2
                have z3 := HZ7.out.frozen 3
                have y0 := HZ7.out.cell 0
                have y1 := HZ7.out.cell 1
                have y2 := HZ7.out.cell 2
                have y3 := HZ7.out.cell 3
                simp only [List.getElem?_toArray, List.getElem?_cons_zero, List.getElem?_cons_succ] at y0 y1 y2 y3
                go_wp2
                have bF := (((HZ7.out.set 0 (.int .i64 (a : Int))).set 1 (.int .i64 G)).set 2 (.int .u64 0)).set 3 (.int .u64 (u : Int))
                have e0 := bF.cell 0
                have e1 := bF.cell 1
                have e2 := bF.cell 2
                have e3 := bF.cell 3
                simp at e0 e1 e2 e3
                refine bodyPost_ret (v := .tuple #[.agg #[.int .i64 (a : Int), .int .i64 G, .int .u64 0, .int .u64 (u : Int)], .int .i64 3, .int .i64 0]) (by simp [results, Tryd.results10, go_sem, e0, e1, e2, e3]) rfl ⟨congrArg Ending.returned HV.out.symm, ?_⟩
                first | exact HB7.out | exact (((HB7.out.setCell (p := ⟨w.heap.size, 0, none⟩) (Nat.le_refl _) _).setCell (p := ⟨w.heap.size, 1, none⟩) (Nat.le_refl _) _).setCell (p := ⟨w.heap.size, 2, none⟩) (Nat.le_refl _) _).setCell (p := ⟨w.heap.size, 3, none⟩) (Nat.le_refl _) _
              have HVM : Hid (readAns (s :: s1 :: s2 :: r) = readMask a u r) := by show _ = _; rw [HV0.out, readRest_mask a s1 s2 r (by rw [HF.out]; omega) HQ.out]
              have HM13 : Hid (readMask a u r = ⟨0, 0, 0, 0, 0, 13⟩ → readV (readAns (s :: s1 :: s2 :: r)) = .tuple #[.agg #[.int .i64 0, .int .i64 0, .int .u64 0, .int .u64 0], .int .i64 0, .int .i64 13]) := fun h => by rw [HVM.out, h]; rfl
              subst hG7
              clear H13 HV0
              rcases r with _ | ⟨s3, _ | ⟨s4, r⟩⟩
              · have hn5 : (n : Int) < 5 := by have := HN.out; simp at this; omega
                have HV := Lib.hid (HM13.out rfl)
                have z0 := ZX.out.frozen 0
                have z1 := ZX.out.frozen 1
                have z2 := ZX.out.frozen 2
                have z3 := ZX.out.frozen 3
                have y0 := ZX.out.cell 0
                have y1 := ZX.out.cell 1
                have y2 := ZX.out.cell 2
                have y3 := ZX.out.cell 3
                simp only [List.getElem?_toArray, List.getElem?_cons_zero, List.getElem?_cons_succ] at y0 y1 y2 y3
                go_wp2
                have bF := (((ZX.out.set 0 (.int .i64 0)).set 1 (.int .i64 0)).set 2 (.int .u64 0)).set 3 (.int .u64 0)
                have e0 := bF.cell 0
                have e1 := bF.cell 1
                have e2 := bF.cell 2
                have e3 := bF.cell 3
                simp at e0 e1 e2 e3
                refine bodyPost_ret (v := .tuple #[.agg #[.int .i64 0, .int .i64 0, .int .u64 0, .int .u64 0], .int .i64 0, .int .i64 13]) (by simp [results, Tryd.results10, go_sem, e0, e1, e2, e3]) rfl ⟨congrArg Ending.returned HV.out.symm, ?_⟩
                first | exact BX.out | exact (((BX.out.setCell (p := ⟨w.heap.size, 0, none⟩) (Nat.le_refl _) _).setCell (p := ⟨w.heap.size, 1, none⟩) (Nat.le_refl _) _).setCell (p := ⟨w.heap.size, 2, none⟩) (Nat.le_refl _) _).setCell (p := ⟨w.heap.size, 3, none⟩) (Nat.le_refl _) _
              · have hn5 : (n : Int) < 5 := by have := HN.out; simp at this; omega
                have HV := Lib.hid (HM13.out rfl)
                have z0 := ZX.out.frozen 0
                have z1 := ZX.out.frozen 1
                have z2 := ZX.out.frozen 2
                have z3 := ZX.out.frozen 3
                have y0 := ZX.out.cell 0
                have y1 := ZX.out.cell 1
                have y2 := ZX.out.cell 2
                have y3 := ZX.out.cell 3
                simp only [List.getElem?_toArray, List.getElem?_cons_zero, List.getElem?_cons_succ] at y0 y1 y2 y3
                go_wp2
                have bF := (((ZX.out.set 0 (.int .i64 0)).set 1 (.int .i64 0)).set 2 (.int .u64 0)).set 3 (.int .u64 0)
                have e0 := bF.cell 0
                have e1 := bF.cell 1
                have e2 := bF.cell 2
                have e3 := bF.cell 3
                simp at e0 e1 e2 e3
                refine bodyPost_ret (v := .tuple #[.agg #[.int .i64 0, .int .i64 0, .int .u64 0, .int .u64 0], .int .i64 0, .int .i64 13]) (by simp [results, Tryd.results10, go_sem, e0, e1, e2, e3]) rfl ⟨congrArg Ending.returned HV.out.symm, ?_⟩
                first | exact BX.out | exact (((BX.out.setCell (p := ⟨w.heap.size, 0, none⟩) (Nat.le_refl _) _).setCell (p := ⟨w.heap.size, 1, none⟩) (Nat.le_refl _) _).setCell (p := ⟨w.heap.size, 2, none⟩) (Nat.le_refl _) _).setCell (p := ⟨w.heap.size, 3, none⟩) (Nat.le_refl _) _
              have hn5 : ¬ (n : Int) < 5 := by have := HN.out; simp at this; omega
              have hn33 : (3 : Int) < (n : Int) := by omega
              have hn44 : (4 : Int) < (n : Int) := by omega
              have t3 := HS.out w6 BX.out 3 s3 rfl
              have t4 := HS.out w6 BX.out 4 s4 rfl
              cases h3 : s3.toList == [61, 61] with
              | false =>
                have HV := Lib.hid (HM13.out (readMask_no a u s3 s4 r (.inl h3)))
                have h3n : ¬ s3.toList = [61, 61] := by simpa using h3
                have h3b : (s3.toList != [61, 61]) = true := by simpa using h3
                have z0 := ZX.out.frozen 0
                have z1 := ZX.out.frozen 1
                have z2 := ZX.out.frozen 2
                have z3 := ZX.out.frozen 3
                have y0 := ZX.out.cell 0
                have y1 := ZX.out.cell 1
                have y2 := ZX.out.cell 2
                have y3 := ZX.out.cell 3
                simp only [List.getElem?_toArray, List.getElem?_cons_zero, List.getElem?_cons_succ] at y0 y1 y2 y3
                go_wp2
                have bF := (((ZX.out.set 0 (.int .i64 0)).set 1 (.int .i64 0)).set 2 (.int .u64 0)).set 3 (.int .u64 0)
                have e0 := bF.cell 0
                have e1 := bF.cell 1
                have e2 := bF.cell 2
                have e3 := bF.cell 3
                simp at e0 e1 e2 e3
                refine bodyPost_ret (v := .tuple #[.agg #[.int .i64 0, .int .i64 0, .int .u64 0, .int .u64 0], .int .i64 0, .int .i64 13]) (by simp [results, Tryd.results10, go_sem, e0, e1, e2, e3]) rfl ⟨congrArg Ending.returned HV.out.symm, ?_⟩
                first | exact BX.out | exact (((BX.out.setCell (p := ⟨w.heap.size, 0, none⟩) (Nat.le_refl _) _).setCell (p := ⟨w.heap.size, 1, none⟩) (Nat.le_refl _) _).setCell (p := ⟨w.heap.size, 2, none⟩) (Nat.le_refl _) _).setCell (p := ⟨w.heap.size, 3, none⟩) (Nat.le_refl _) _
              | true =>
                have h3e : s3.toList = [61, 61] := by simpa using h3
                have h3b : (s3.toList != [61, 61]) = false := by simpa using h3
                have H3 := Lib.hid h3
                have hnum := fun W => refNumber_any s4 (hsz s4 (by simp)) W
                obtain ⟨q, hq⟩ : ∃ q, numOf s4.data.toList = q := ⟨_, rfl⟩
                rw [hq] at hnum
                have Hnum := Lib.hid hnum
                clear hnum
                cases q with
                | none =>
                  have Hnum : Hid (∀ W, Calls Tryd.prog 12 #[.string s4] W fun e w' => e = .returned (.tuple #[.int .u64 0, .bool false]) ∧ Below W.heap.size W w') := Hnum
                  have HV := Lib.hid (HM13.out (readMask_no a u s3 s4 r (.inr hq)))
                  clear hq
                  go_wp2_with fail
                  refine (Hnum.out _).mono ?_
                  rintro e w8 ⟨rfl, hb8⟩
                  have ZY := blkB ZX hb8
                  have BY := belB BX hb8
                  clear t3 t4 hb8 Hnum ZX BX DX g1
                  have z0 := ZY.out.frozen 0
                  have z1 := ZY.out.frozen 1
                  have z2 := ZY.out.frozen 2
                  have z3 := ZY.out.frozen 3
                  have y0 := ZY.out.cell 0
                  have y1 := ZY.out.cell 1
                  have y2 := ZY.out.cell 2
                  have y3 := ZY.out.cell 3
                  simp only [List.getElem?_toArray, List.getElem?_cons_zero, List.getElem?_cons_succ] at y0 y1 y2 y3
                  go_wp2
                  have bF := (((ZY.out.set 0 (.int .i64 0)).set 1 (.int .i64 0)).set 2 (.int .u64 0)).set 3 (.int .u64 0)
                  have e0 := bF.cell 0
                  have e1 := bF.cell 1
                  have e2 := bF.cell 2
                  have e3 := bF.cell 3
                  simp at e0 e1 e2 e3
                  refine bodyPost_ret (v := .tuple #[.agg #[.int .i64 0, .int .i64 0, .int .u64 0, .int .u64 0], .int .i64 0, .int .i64 13]) (by simp [results, Tryd.results10, go_sem, e0, e1, e2, e3]) rfl ⟨congrArg Ending.returned HV.out.symm, ?_⟩
                  first | exact BY.out | exact (((BY.out.setCell (p := ⟨w.heap.size, 0, none⟩) (Nat.le_refl _) _).setCell (p := ⟨w.heap.size, 1, none⟩) (Nat.le_refl _) _).setCell (p := ⟨w.heap.size, 2, none⟩) (Nat.le_refl _) _).setCell (p := ⟨w.heap.size, 3, none⟩) (Nat.le_refl _) _
                | some v =>
                  have Hnum : Hid (∀ W, Calls Tryd.prog 12 #[.string s4] W fun e w' => e = .returned (.tuple #[.int .u64 (v : Int), .bool true]) ∧ Below W.heap.size W w') := Hnum
                  have HV : Hid (readV (readAns (s :: s1 :: s2 :: s3 :: s4 :: r)) = .tuple #[.agg #[.int .i64 (a : Int), .int .i64 7, .int .u64 (u : Int), .int .u64 (v : Int)], .int .i64 5, .int .i64 0]) := by show readV _ = _; rw [HVM.out, readMask_val a u s3 s4 r H3.out hq]; rfl
                  clear hq
                  go_wp2_with fail
                  refine (Hnum.out _).mono ?_
                  rintro e w8 ⟨rfl, hb8⟩
                  have ZY := blkB ZX hb8
                  have BY := belB BX hb8
                  have DY := blkB DX hb8
                  clear t3 t4 hb8 Hnum ZX BX DX g1
                  have f2 := DY.out.frozen 2
                  have g2 := DY.out.cell 2
                  have f3 := DY.out.frozen 3
                  have g3 := DY.out.cell 3
                  simp only [List.getElem?_toArray, List.getElem?_cons_zero, List.getElem?_cons_succ] at g2 g3
                  go_upto_region 33 with fail
                  have HD7 := Lib.hid ((DY.out.set 2 (.int .u64 (u : Int))).set 3 (.int .u64 (v : Int)))
                  have HZ7 := Lib.hid ((ZY.out.other (by have := HDZ.out; omega : w.heap.size ≠ D) 2 (.int .u64 (u : Int))).other (by have := HDZ.out; omega : w.heap.size ≠ D) 3 (.int .u64 (v : Int)))
                  have HB7 := Lib.hid ((BY.out.setCell (p := ⟨D, 2, none⟩) (by have := HDZ.out; show w.heap.size ≤ D; omega) (.int .u64 (u : Int))).setCell (p := ⟨D, 3, none⟩) (by have := HDZ.out; show w.heap.size ≤ D; omega) (.int .u64 (v : Int)))
                  clear ZY BY DY g2 g3 f2 f3
                  generalize (w8.setCell ⟨D, 2, none⟩ (.int .u64 (u : Int))).setCell ⟨D, 3, none⟩ (.int .u64 (v : Int)) = W9 at *
                  have d0 := HD7.out.cell 0
                  have d1 := HD7.out.cell 1
                  have d2 := HD7.out.cell 2
                  have d3 := HD7.out.cell 3
                  simp at d0 d1 d2 d3
                  have z0 := HZ7.out.frozen 0
                  have z1 := HZ7.out.frozen 1
                  have z2 := HZ7.out.frozen 2
                  have z3 := HZ7.out.frozen 3
                  have y0 := HZ7.out.cell 0
                  have y1 := HZ7.out.cell 1
                  have y2 := HZ7.out.cell 2
                  have y3 := HZ7.out.cell 3
                  simp only [List.getElem?_toArray, List.getElem?_cons_zero, List.getElem?_cons_succ] at y0 y1 y2 y3
                  go_wp2
                  have bF := (((HZ7.out.set 0 (.int .i64 (a : Int))).set 1 (.int .i64 7)).set 2 (.int .u64 (u : Int))).set 3 (.int .u64 (v : Int))
                  have e0 := bF.cell 0
                  have e1 := bF.cell 1
                  have e2 := bF.cell 2
                  have e3 := bF.cell 3
                  simp at e0 e1 e2 e3
                  refine bodyPost_ret (v := .tuple #[.agg #[.int .i64 (a : Int), .int .i64 7, .int .u64 (u : Int), .int .u64 (v : Int)], .int .i64 5, .int .i64 0]) (by simp [results, Tryd.results10, go_sem, e0, e1, e2, e3]) rfl ⟨congrArg Ending.returned HV.out.symm, ?_⟩
                  first | exact HB7.out | exact (((HB7.out.setCell (p := ⟨w.heap.size, 0, none⟩) (Nat.le_refl _) _).setCell (p := ⟨w.heap.size, 1, none⟩) (Nat.le_refl _) _).setCell (p := ⟨w.heap.size, 2, none⟩) (Nat.le_refl _) _).setCell (p := ⟨w.heap.size, 3, none⟩) (Nat.le_refl _) _
end Go.Proofs.YtlmobmbglninkaaDoor
