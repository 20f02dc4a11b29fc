/- The document's rule: the walk. -/
import Derived.Test.YtmjipkdejggbfaaGreatDoorQPolParse
namespace Go.Proofs.YtmjipkdejggbfaaGreatDoor
open Go Go.Proofs Go.RowKit

theorem rname_any (s : ByteArray) (w : World) : Calls Tryz.prog 50 #[.string s] w fun e w' => e = .returned (.bool (nameB s)) ∧ Below w.heap.size w w' := by
  go_enter Tryz.func50, Tryz.ntmps50
  go_wp2_with fail
  refine (SysP.refName_any s _).mono ?_
  rintro e w1 ⟨v, rfl, hv, m, rfl⟩
  obtain rfl : v = nameB s := by
    have := nameB_iff s
    cases v <;> cases h : nameB s <;> simp_all
  go_wp2
  go_ret
  exact ⟨rfl, below_drewN' (Below.refl _ w) m⟩
theorem rform_any (e : Int) (w : World) : Calls Tryz.prog 22 #[.int .i64 e] w fun ev w' => ev = .returned (.int .i64 (formE e)) ∧ w' = w := by
  by_cases h : e = 4
  · subst h
    go_enter Tryz.func22, Tryz.ntmps22
    go_wp2
    go_ret
    exact ⟨rfl, rfl⟩
  · have hb : (e == 4) = false := by simpa using h
    have hf : formE e = e := by unfold formE; rw [if_neg h]
    rw [hf]
    go_enter Tryz.func22, Tryz.ntmps22
    go_wp2
    go_ret
    exact ⟨rfl, rfl⟩
theorem blk_grown {W W' : World} {B : Nat} {t : TypeId} {cs : Array Value} {row : Option Nat} (h : Blk W B t cs) (hg : W.grownBy W' row) (hr : ∀ q, row = some q → q ≠ B) : Blk W' B t cs := (hg.block B h.lt (fun e => hr B e.symm rfl)).trans h
def zRuleV : Value := .agg #[.string ⟨#[]⟩, .int .i64 0, .int .i64 0, .slice none 0 0]
abbrev TCr : Nat := 75
abbrev TRr : Nat := 48
theorem infoCr : (Tryz.prog.info? 75).map (fun i => (i.zero, i.size, i.bytes)) = some (some (.agg #[.int .i64 0, .int .i64 0, .int .u64 0, .int .u64 0]), 4, 32) := by kernel_rfl
theorem infoRr : (Tryz.prog.info? 48).map (fun i => (i.zero, i.size, i.bytes)) = some (some (.agg #[.string ⟨#[]⟩, .int .i64 0, .int .i64 0, .slice none 0 0]), 4, 56) := by kernel_rfl
def rrulePost (res : Int ⊕ PRule) (w : World) (e : Ending) (w' : World) : Prop :=
  match res with
  | .inl c => e = .returned (.tuple #[.agg #[.string ⟨#[]⟩, .int .i64 0, .int .i64 0, .slice none 0 0], .int .i64 c]) ∧ Below w.heap.size w w'
  | .inr x => ∃ u, e = .returned (.tuple #[.agg #[.string x.name, .int .i64 x.k, .int .i64 x.n, u], .int .i64 0]) ∧ w'.ownsRow w.heap.size TCr 4 u x.conds.length (flatC x.conds) ∧ Below w.heap.size w w'
theorem rrule_bad {res : Int ⊕ PRule} {c : Int} {w w' : World} (h : .inl c = res) (hb : Below w.heap.size w w') : rrulePost res w (.returned (.tuple #[.agg #[.string ⟨#[]⟩, .int .i64 0, .int .i64 0, .slice none 0 0], .int .i64 c])) w' := by
  subst h; exact ⟨rfl, hb⟩
theorem rrule_good {res : Int ⊕ PRule} {x : PRule} {u : Value} {w w' : World} (h : .inr x = res) (hu : w'.ownsRow w.heap.size TCr 4 u x.conds.length (flatC x.conds)) (hb : Below w.heap.size w w') : rrulePost res w (.returned (.tuple #[.agg #[.string x.name, .int .i64 x.k, .int .i64 x.n, u], .int .i64 0])) w' := by
  subst h; exact ⟨u, rfl, hu, hb⟩
set_option maxRecDepth 100000 in
set_option maxHeartbeats 8000000 in
theorem rrule_any {w0 : ByteArray} {r : List ByteArray} {sv : Value} (hbig : r.length ≤ 900000) (hsz : ∀ s ∈ r, s.size ≤ 1000000) (many : Nat) (hm : many ≤ 1000000) (w : World) (hW : PWords w.heap.size w sv (w0 :: r)) :
    Calls Tryz.prog 23 #[sv, .int .i64 (many : Int)] w (rrulePost (ruleGo many w0 r) w) := by
  obtain ⟨RES, hRES⟩ : ∃ RES, ruleGo many w0 r = RES := ⟨_, rfl⟩
  rw [hRES]
  unfold ruleGo at hRES
  have HRES := Lib.hid hRES
  have HNM := Lib.hid (rname_any w0)
  have HSZ := Lib.hid hsz
  have HWS := Lib.hid hW
  obtain ⟨b, off, c, rfl, h0, hbw⟩ := hW.head
  have HZ := Lib.hid (Blk.new w 48 #[.string ⟨#[]⟩, .int .i64 0, .int .i64 0, .slice none 0 0])
  have HB := Lib.hid ((Below.refl w.heap.size w).alloc (Nat.le_refl _) (.cells #[.string ⟨#[]⟩, .int .i64 0, .int .i64 0, .slice none 0 0] 48))
  clear hRES hsz hW
  go_enter Tryz.func23, Tryz.ntmps23
  go_wp2_with fail
  refine (HNM.out _).mono ?_
  rintro e w1 ⟨rfl, hb⟩
  have HZ1 := blkHP HZ hb
  have HB1 := belP HB hb
  have HW1 := Lib.hid (HWS.out.below HB1.out HB1.out.size)
  have hlt1 : w.heap.size < w1.heap.size := HZ1.out.lt
  clear hb HZ HB HNM HWS h0
  have z0 := HZ1.out.frozen 0
  have z1 := HZ1.out.frozen 1
  have z2 := HZ1.out.frozen 2
  have z3 := HZ1.out.frozen 3
  have y0 := HZ1.out.cell 0
  have y1 := HZ1.out.cell 1
  have y2 := HZ1.out.cell 2
  have y3 := HZ1.out.cell 3
  simp only [List.getElem?_toArray, List.getElem?_cons_zero, List.getElem?_cons_succ] at y0 y1 y2 y3
  cases hn : nameB w0 with
  | false =>
    have HA : Hid (.inl 13 = RES) := by have := HRES.out; rwa [if_pos hn] at this
    clear HRES
    go_wp2
    have bF := ((((HZ1.out.set 0 (.string ⟨#[]⟩)).set 1 (.int .i64 0)).set 2 (.int .i64 0)).set 3 (.slice none 0 0))
    have hF := ((((HB1.out.setCell (p := ⟨w.heap.size, 0, none⟩) (Nat.le_refl _) (.string ⟨#[]⟩)).setCell (p := ⟨w.heap.size, 1, none⟩) (Nat.le_refl _) (.int .i64 0)).setCell (p := ⟨w.heap.size, 2, none⟩) (Nat.le_refl _) (.int .i64 0)).setCell (p := ⟨w.heap.size, 3, none⟩) (Nat.le_refl _) (.slice none 0 0))
    have e0 := bF.cell 0
    have e1 := bF.cell 1
    have e2 := bF.cell 2
    have e3 := bF.cell 3
    simp at e0 e1 e2 e3
    refine bodyPost_ret (v := .tuple #[.agg #[.string ⟨#[]⟩, .int .i64 0, .int .i64 0, .slice none 0 0], .int .i64 (13)]) (by simp [results, Tryz.results23, go_sem, e0, e1, e2, e3]) rfl ?_
    exact rrule_bad HA.out hF
  | true =>
    by_cases hm5 : 500 ≤ many
    · have hmz : (500 : Int) ≤ (many : Int) := by omega
      have HA : Hid (.inl 3 = RES) := by have := HRES.out; rwa [if_neg (by rw [hn]; decide), if_pos hm5] at this
      clear HRES
      go_wp2
      have bF := ((((HZ1.out.set 0 (.string ⟨#[]⟩)).set 1 (.int .i64 0)).set 2 (.int .i64 0)).set 3 (.slice none 0 0))
      have hF := ((((HB1.out.setCell (p := ⟨w.heap.size, 0, none⟩) (Nat.le_refl _) (.string ⟨#[]⟩)).setCell (p := ⟨w.heap.size, 1, none⟩) (Nat.le_refl _) (.int .i64 0)).setCell (p := ⟨w.heap.size, 2, none⟩) (Nat.le_refl _) (.int .i64 0)).setCell (p := ⟨w.heap.size, 3, none⟩) (Nat.le_refl _) (.slice none 0 0))
      have e0 := bF.cell 0
      have e1 := bF.cell 1
      have e2 := bF.cell 2
      have e3 := bF.cell 3
      simp at e0 e1 e2 e3
      refine bodyPost_ret (v := .tuple #[.agg #[.string ⟨#[]⟩, .int .i64 0, .int .i64 0, .slice none 0 0], .int .i64 (3)]) (by simp [results, Tryz.results23, go_sem, e0, e1, e2, e3]) rfl ?_
      exact rrule_bad HA.out hF
    · have hmz : ¬ (500 : Int) ≤ (many : Int) := by omega
      clear z0 z1 z2 z3 y0 y1 y2 y3
      obtain ⟨vw1, hw1, hrun1⟩ := HW1.out.drop1
      have HCALL := Lib.hid (fun W hW => ActP.refRead_any vw1 r (by omega) W hW)
      have h4 := act_four r
      generalize (ActP.readAns r).1 = K at *
      generalize (ActP.readAns r).2.1 = NN at *
      generalize (ActP.readAns r).2.2.1 = M at *
      generalize (ActP.readAns r).2.2.2 = EE at *
      rw [h4] at HCALL
      have HCALL : Hid (∀ W, ActP.WordsV W vw1 r → Calls Tryz.prog 21 #[vw1] W fun e w' => e = .returned (.tuple #[.agg #[.int .i64 K, .int .i64 NN], .int .i64 M, .int .i64 EE]) ∧ Below W.heap.size W w') := HCALL
      have H4 := Lib.hid h4
      have HWA := Lib.hid hw1.act
      clear h4 hw1
      go_wp2_with fail
      refine (HCALL.out _ HWA.out).mono ?_
      rintro e w2 ⟨rfl, hb2⟩
      have HZ2 : Hid (Blk (w2.alloc (.cells #[.int .i64 K, .int .i64 NN] 30)) w.heap.size TRr #[.string ⟨#[]⟩, .int .i64 0, .int .i64 0, .slice none 0 0]) := Blk.alloc (blkHP HZ1 hb2).out _
      have HB2 : Hid (Below w.heap.size w (w2.alloc (.cells #[.int .i64 K, .int .i64 NN] 30))) := (belP HB1 hb2).out.alloc (belP HB1 hb2).out.size _
      have HWb := Lib.hid (HW1.out.below ((hb2.mono (Nat.le_of_lt hlt1)).alloc (by have := hb2.size; omega) (.cells #[.int .i64 K, .int .i64 NN] 30)) (by have := hb2.size; simp; omega))
      have HAB := Lib.hid (Blk.new w2 30 #[.int .i64 K, .int .i64 NN])
      have hlt2 : w.heap.size < w2.heap.size := by have := hb2.size; omega
      clear hb2 HZ1 HB1 HW1 HCALL HWA hrun1
      go_upto_region 6 with fail
      generalize w2.alloc (.cells #[.int .i64 K, .int .i64 NN] 30) = w3 at *
      generalize w2.heap.size = AB at *
      have hlt3 : AB < w3.heap.size := HAB.out.lt
      have z0 := HZ2.out.frozen 0
      have z1 := HZ2.out.frozen 1
      have z2 := HZ2.out.frozen 2
      have z3 := HZ2.out.frozen 3
      have y0 := HZ2.out.cell 0
      have y1 := HZ2.out.cell 1
      have y2 := HZ2.out.cell 2
      have y3 := HZ2.out.cell 3
      simp only [List.getElem?_toArray, List.getElem?_cons_zero, List.getElem?_cons_succ] at y0 y1 y2 y3
      by_cases he : EE ≠ 0
      · have heb : (EE != 0) = true := by simpa using he
        have HA : Hid (.inl (formE EE) = RES) := by have := HRES.out; rwa [if_neg (by rw [hn]; decide), if_neg hm5, if_pos he] at this
        clear HRES
        go_wp2_with fail
        refine (rform_any _ _).mono ?_
        rintro e _ ⟨rfl, rfl⟩
        go_wp2
        have bF := ((((HZ2.out.set 0 (.string ⟨#[]⟩)).set 1 (.int .i64 0)).set 2 (.int .i64 0)).set 3 (.slice none 0 0))
        have hF := ((((HB2.out.setCell (p := ⟨w.heap.size, 0, none⟩) (Nat.le_refl _) (.string ⟨#[]⟩)).setCell (p := ⟨w.heap.size, 1, none⟩) (Nat.le_refl _) (.int .i64 0)).setCell (p := ⟨w.heap.size, 2, none⟩) (Nat.le_refl _) (.int .i64 0)).setCell (p := ⟨w.heap.size, 3, none⟩) (Nat.le_refl _) (.slice none 0 0))
        have e0 := bF.cell 0
        have e1 := bF.cell 1
        have e2 := bF.cell 2
        have e3 := bF.cell 3
        simp at e0 e1 e2 e3
        refine bodyPost_ret (v := .tuple #[.agg #[.string ⟨#[]⟩, .int .i64 0, .int .i64 0, .slice none 0 0], .int .i64 (formE EE)]) (by simp [results, Tryz.results23, go_sem, e0, e1, e2, e3]) rfl ?_
        exact rrule_bad HA.out hF
      · obtain rfl : EE = 0 := by omega
        obtain ⟨m, rfl, hml, _⟩ := act_cnt H4.out
        have HA : Hid (mkRule w0 K NN (condsGo [] (r.drop m)) = RES) := by have := HRES.out; rwa [if_neg (by rw [hn]; decide), if_neg hm5, if_neg (by decide), show ((m : Int)).toNat = m from rfl] at this
        obtain ⟨vw2, hw2, hrun2⟩ := HWb.out.drop (1 + m) (by simp; omega)
        rw [show ((1 + m : Nat) : Int) = 1 + (m : Int) by simp] at hrun2
        rw [show (w0 :: r).drop (1 + m) = r.drop m by rw [Nat.add_comm]; rfl] at hw2
        have HW2 := Lib.hid hw2
        obtain ⟨b', off', c', e', h0, _⟩ := HWb.out.head
        obtain ⟨rfl, rfl, rfl⟩ : b = b' ∧ off = off' ∧ c = c' := by
          injection e' with e1 e2 e3; injection e1 with e1; injection e1 with e1 e4; exact ⟨e1, e4, e3⟩
        have d0 := HAB.out.cell 0
        have d1 := HAB.out.cell 1
        simp only [List.getElem?_toArray, List.getElem?_cons_zero, List.getElem?_cons_succ] at d0 d1
        have hbA : Below w3.heap.size w3 (w3.alloc (.cells #[.string ⟨#[]⟩, .int .i64 0, .int .i64 0, .slice none 0 0] 48)) := (Below.refl _ w3).alloc (Nat.le_refl _) _
        have hb3 : b < w3.heap.size := by omega
        have g0 := (hbA.cell (p := ⟨b, off, none⟩) hb3).trans h0
        have g1 := (hbA.cell (p := ⟨AB, 0, none⟩) hlt3).trans d0
        have g2 := (hbA.cell (p := ⟨AB, 1, none⟩) hlt3).trans d1
        have hn1 : ¬ b = w3.heap.size := by omega
        have hn2 : ¬ AB = w3.heap.size := by omega
        clear z0 z1 z2 z3 y0 y1 y2 y3 HRES H4 hw2 e' hbA
        go_upto_region 8 with fail
        go_region
        have HO4 : Hid (Blk (w3.alloc (.cells #[.string w0, .int .i64 K, .int .i64 NN, .slice none 0 0] 48)).drew w3.heap.size TRr #[.string w0, .int .i64 K, .int .i64 NN, .slice none 0 0]) := Blk.new w3 _ _
        have HZ4 : Hid (Blk (w3.alloc (.cells #[.string w0, .int .i64 K, .int .i64 NN, .slice none 0 0] 48)).drew w.heap.size TRr #[.string ⟨#[]⟩, .int .i64 0, .int .i64 0, .slice none 0 0]) := Blk.alloc HZ2.out _
        have HB4 : Hid (Below w.heap.size w (w3.alloc (.cells #[.string w0, .int .i64 K, .int .i64 NN, .slice none 0 0] 48)).drew) := (HB2.out.alloc HB2.out.size _).drew
        have HW4 : Hid (PWords w.heap.size (w3.alloc (.cells #[.string w0, .int .i64 K, .int .i64 NN, .slice none 0 0] 48)).drew vw2 (r.drop m)) := HW2.out.below (((Below.refl _ w3).alloc HB2.out.size _).drew) (by show w3.heap.size ≤ (w3.alloc _).heap.size; simp)
        have hwOB : w.heap.size < w3.heap.size := by omega
        clear HZ2 HB2 HW2 HWb HAB h0 d0 d1 g0 g1 g2 hn1 hn2 hb3
        go_upto_region 10 with fail
        generalize (w3.alloc (.cells #[.string w0, .int .i64 K, .int .i64 NN, .slice none 0 0] 48)).drew = w4 at *
        generalize w3.heap.size = OB at *
        obtain ⟨i0, hi, hz0', hz1', hz2'⟩ := info_parts infoCr
        go_loopg [0] (r.length + 1) (fun gg u0 wr => ∃ (wl : List ByteArray) (acc : List PCond) (uc : Value), Hid (PWords w.heap.size wr u0 wl) ∧ wl.length < gg ∧ acc.length ≤ 6 ∧ wl.length ≤ 1000000 ∧ Hid (∀ s ∈ wl, s.size ≤ 1000000) ∧ Hid (mkRule w0 K NN (condsGo acc wl) = RES) ∧ Hid (Blk wr OB TRr #[.string w0, .int .i64 K, .int .i64 NN, uc]) ∧ Hid (wr.ownsRow (OB + 1) TCr 4 uc acc.length (flatC acc)) ∧ Hid (Blk wr w.heap.size TRr #[.string ⟨#[]⟩, .int .i64 0, .int .i64 0, .slice none 0 0]) ∧ Hid (Below w.heap.size w wr))
        case atStart => exact ⟨r.drop m, [], .slice none 0 0, HW4, by rw [List.length_drop]; omega, by simp, by rw [List.length_drop]; omega, (show Hid _ from fun s h => HSZ.out s (List.mem_of_mem_drop h)), HA, HO4, World.ownsRow_nil _ _ _ _, HZ4, HB4⟩
        case round =>
          obtain ⟨wl, acc, uc, HWr, hgg, hacc, hwl, HSr, HCr, HOr, HOWr, HZr, HBr⟩ := hrel
          clear HW4 HA HO4 HZ4 HB4 HSZ
          have hOBl : OB < wr.heap.size := Blk.lt HOr.out
          obtain ⟨ua, uq, rfl⟩ : ∃ ua uq, uc = .slice ua acc.length uq := by
            rcases HOWr.out.2 with ⟨h, h0⟩ | ⟨g, cc, _, h, _⟩
            · exact ⟨none, 0, by rw [h, h0]⟩
            · exact ⟨_, _, h⟩
          obtain ⟨AL, hAL⟩ : ∃ AL, acc.length = AL := ⟨_, rfl⟩
          have HAL := Lib.hid hAL
          rw [hAL] at HOr HOWr hacc
          clear hAL
          match wl, HSr, HCr, HWr, hgg, hwl with
          | [], HSr, HCr, HWr, hgg, hwl =>
            obtain ⟨av, cv, rfl, _, _⟩ := id HWr.out
            have HA : Hid (.inr (⟨w0, K, NN, acc⟩ : PRule) = RES) := by have := HCr.out; rwa [condsGo_nil] at this
            have z0 := HZr.out.frozen 0
            have z1 := HZr.out.frozen 1
            have z2 := HZr.out.frozen 2
            have z3 := HZr.out.frozen 3
            have y0 := HZr.out.cell 0
            have y1 := HZr.out.cell 1
            have y2 := HZr.out.cell 2
            have y3 := HZr.out.cell 3
            simp only [List.getElem?_toArray, List.getElem?_cons_zero, List.getElem?_cons_succ] at y0 y1 y2 y3
            have o0 := HOr.out.cell 0
            have o1 := HOr.out.cell 1
            have o2 := HOr.out.cell 2
            have o3 := HOr.out.cell 3
            simp only [List.getElem?_toArray, List.getElem?_cons_zero, List.getElem?_cons_succ] at o0 o1 o2 o3
            go_wp2
            have bF := ((((HZr.out.set 0 (.string w0)).set 1 (.int .i64 K)).set 2 (.int .i64 NN)).set 3 (.slice ua AL uq))
            have hF := ((((HBr.out.setCell (p := ⟨w.heap.size, 0, none⟩) (Nat.le_refl _) (.string w0)).setCell (p := ⟨w.heap.size, 1, none⟩) (Nat.le_refl _) (.int .i64 K)).setCell (p := ⟨w.heap.size, 2, none⟩) (Nat.le_refl _) (.int .i64 NN)).setCell (p := ⟨w.heap.size, 3, none⟩) (Nat.le_refl _) (.slice ua AL uq))
            have hq := ownP_setO (ownP_setO (ownP_setO (ownP_setO HOWr.out HZr.out (j := 0) (u := .string w0) (by decide)) (HZr.out.set 0 _) (j := 1) (u := .int .i64 K) (by decide)) ((HZr.out.set 0 _).set 1 _) (j := 2) (u := .int .i64 NN) (by decide)) (((HZr.out.set 0 _).set 1 _).set 2 _) (j := 3) (u := .slice ua AL uq) (by decide)
            have e0 := bF.cell 0
            have e1 := bF.cell 1
            have e2 := bF.cell 2
            have e3 := bF.cell 3
            simp at e0 e1 e2 e3
            refine bodyPost_ret (v := .tuple #[.agg #[.string w0, .int .i64 K, .int .i64 NN, .slice ua AL uq], .int .i64 0]) (by simp [results, Tryz.results23, go_sem, e0, e1, e2, e3]) rfl ?_
            exact rrule_good HA.out (by show World.ownsRow _ _ _ _ _ _ _; rw [HAL.out]; exact ownP_mono hq (by omega)) hF
          | w1 :: r1, HSr, HCr, HWr, hgg, hwl =>
            obtain ⟨b1, off1, cv, rfl, hcl, hb1⟩ := HWr.out.head
            have hl0 : (0 : Int) < ((r1.length + 1 : Nat) : Int) := by omega
            have hr1 : r1.length ≤ 999999 := by simp at hwl; omega
            have o3 := HOr.out.cell 3
            simp only [List.getElem?_toArray, List.getElem?_cons_zero, List.getElem?_cons_succ] at o3
            obtain ⟨vw1, hw1, hrun1⟩ := HWr.out.drop1
            have HW1 := Lib.hid hw1.cond
            obtain ⟨⟨A, O, M2, V, n2, E⟩, hra⟩ : ∃ x, CondP.readAns r1 = x := ⟨_, rfl⟩
            have hrd : ∀ W, CondP.WordsV W vw1 r1 → Calls Tryz.prog 51 #[vw1] W fun e w' => e = .returned (.tuple #[.agg #[.int .i64 A, .int .i64 O, .int .u64 M2, .int .u64 V], .int .i64 n2, .int .i64 E]) ∧ Below W.heap.size W w' := fun W hW => by
              have := CondP.rread_any vw1 r1 (by simp at hwl; omega) (fun s hs => HSr.out s (by simp [hs])) W hW
              rw [hra] at this
              exact this
            have HRD := Lib.hid hrd
            have HRA := Lib.hid hra
            clear hrd hra hw1
            by_cases h0 : AL = 0
            · have h0b : ((AL : Int) == 0) = true := by rw [h0]; rfl
              have h0g : ¬ (0 : Int) < (AL : Int) := by omega
              have hwc0 : wordC acc = ifB := by unfold wordC; rw [HAL.out, if_pos h0]
              by_cases hw : (w1.toList == ifB) = true
              · have HWD : Hid ((w1.toList == wordC acc) = true) := by show _ = _; rw [hwc0]; exact hw
                obtain rfl : w1 = ⟨#[105, 102]⟩ := bytesT ((show w1.toList = ifB by simpa using hw).trans (by decide +kernel))
                clear hw hwc0
                go_upto_region 13 with fail
                have HAZ := Lib.hid h0
                clear h0b h0 h0g
                by_cases h6 : AL = 6
                · have := HAZ.out; omega
                · have h6b : ((AL : Int) == 6) = false := by simp; omega
                  have h6z : ¬ (AL : Int) = 6 := by omega
                  go_wp2_with fail
                  refine (HRD.out _ HW1.out).mono ?_
                  rintro e w5 ⟨rfl, hb5⟩
                  have HZ5 : Hid (Blk (w5.alloc (.cells #[.int .i64 A, .int .i64 O, .int .u64 M2, .int .u64 V] TCr)) w.heap.size TRr #[.string ⟨#[]⟩, .int .i64 0, .int .i64 0, .slice none 0 0]) := Blk.alloc (blkHP HZr hb5).out _
                  have HB5 : Hid (Below w.heap.size w (w5.alloc (.cells #[.int .i64 A, .int .i64 O, .int .u64 M2, .int .u64 V] TCr))) := (belP HBr hb5).out.alloc (belP HBr hb5).out.size _
                  have HO5 : Hid (Blk (w5.alloc (.cells #[.int .i64 A, .int .i64 O, .int .u64 M2, .int .u64 V] TCr)) OB TRr #[.string w0, .int .i64 K, .int .i64 NN, .slice ua AL uq]) := Blk.alloc (blkHP HOr hb5).out _
                  have HOW5 : Hid ((w5.alloc (.cells #[.int .i64 A, .int .i64 O, .int .u64 M2, .int .u64 V] TCr)).ownsRow (OB + 1) TCr 4 (.slice ua AL uq) AL (flatC acc)) := World.ownsRow.alloc (ownsRow_below HOWr.out hb5) _
                  have HC5 := Lib.hid (Blk.new w5 TCr #[.int .i64 A, .int .i64 O, .int .u64 M2, .int .u64 V])
                  have HK5 : Hid (Below w.heap.size wr (w5.alloc (.cells #[.int .i64 A, .int .i64 O, .int .u64 M2, .int .u64 V] TCr))) := (hb5.mono HBr.out.size).alloc (Nat.le_trans HBr.out.size hb5.size) _
                  have hs5 : wr.heap.size < (w5.alloc (.cells #[.int .i64 A, .int .i64 O, .int .u64 M2, .int .u64 V] TCr)).heap.size := by have := hb5.size; simp; omega
                  have hwc : w.heap.size < w5.heap.size := by have := hb5.size; have := HBr.out.size; omega
                  have hoc : OB < w5.heap.size := by have := hb5.size; omega
                  clear hb5 HRD HW1
                  go_upto_region 16 with fail
                  generalize w5.alloc (.cells #[.int .i64 A, .int .i64 O, .int .u64 M2, .int .u64 V] TCr) = w6 at *
                  generalize w5.heap.size = CB at *
                  clear o3
                  by_cases hE : E ≠ 0
                  · have heb : (E != 0) = true := by simpa using hE
                    have HA : Hid (.inl (formE E) = RES) := by have := HCr.out; rwa [condsGo_err (by unfold condsStep; rw [if_neg (by rw [HWD.out]; decide), HAL.out, if_neg (by omega), HRA.out]; exact if_pos hE)] at this
                    have z0 := HZ5.out.frozen 0
                    have z1 := HZ5.out.frozen 1
                    have z2 := HZ5.out.frozen 2
                    have z3 := HZ5.out.frozen 3
                    have y0 := HZ5.out.cell 0
                    have y1 := HZ5.out.cell 1
                    have y2 := HZ5.out.cell 2
                    have y3 := HZ5.out.cell 3
                    simp only [List.getElem?_toArray, List.getElem?_cons_zero, List.getElem?_cons_succ] at y0 y1 y2 y3
                    go_wp2_with fail
                    refine (rform_any _ _).mono ?_
                    rintro e _ ⟨rfl, rfl⟩
                    go_wp2
                    have bF := ((((HZ5.out.set 0 (.string ⟨#[]⟩)).set 1 (.int .i64 0)).set 2 (.int .i64 0)).set 3 (.slice none 0 0))
                    have hF := ((((HB5.out.setCell (p := ⟨w.heap.size, 0, none⟩) (Nat.le_refl _) (.string ⟨#[]⟩)).setCell (p := ⟨w.heap.size, 1, none⟩) (Nat.le_refl _) (.int .i64 0)).setCell (p := ⟨w.heap.size, 2, none⟩) (Nat.le_refl _) (.int .i64 0)).setCell (p := ⟨w.heap.size, 3, none⟩) (Nat.le_refl _) (.slice none 0 0))
                    have e0 := bF.cell 0
                    have e1 := bF.cell 1
                    have e2 := bF.cell 2
                    have e3 := bF.cell 3
                    simp at e0 e1 e2 e3
                    refine bodyPost_ret (v := .tuple #[.agg #[.string ⟨#[]⟩, .int .i64 0, .int .i64 0, .slice none 0 0], .int .i64 (formE E)]) (by simp [results, Tryz.results23, go_sem, e0, e1, e2, e3]) rfl ?_
                    exact rrule_bad HA.out hF
                  · obtain rfl : E = 0 := by omega
                    obtain ⟨m2, rfl, hml2, _⟩ := cnd_cnt HRA.out
                    have HGO : Hid (mkRule w0 K NN (condsGo (acc ++ [⟨A, O, M2, V⟩]) (r1.drop m2)) = RES) := by
                      have := HCr.out
                      rw [condsGo_step (acc' := acc ++ [⟨A, O, M2, V⟩]) (ws' := r1.drop m2) (by
                        unfold condsStep
                        rw [if_neg (by rw [HWD.out]; decide), HAL.out, if_neg (by omega), HRA.out]
                        rfl)] at this
                      exact this
                    obtain ⟨vw5, hw5, hrun5⟩ := HWr.out.drop (1 + m2) (by simp; omega)
                    rw [show ((1 + m2 : Nat) : Int) = 1 + (m2 : Int) by simp] at hrun5
                    rw [show ∀ x : ByteArray, (x :: r1).drop (1 + m2) = r1.drop m2 from fun x => by rw [Nat.add_comm]; rfl] at hw5
                    have HW5 := Lib.hid hw5
                    have o3 := HO5.out.cell 3
                    have c0 := HC5.out.cell 0
                    have c1 := HC5.out.cell 1
                    have c2 := HC5.out.cell 2
                    have c3 := HC5.out.cell 3
                    simp only [List.getElem?_toArray, List.getElem?_cons_zero, List.getElem?_cons_succ] at o3 c0 c1 c2 c3
                    have HA2 := Lib.hid (HOW5.out.alloc (.cells #[.int .i64 A, .int .i64 O, .int .u64 M2, .int .u64 V] TCr))
                    have HO6 := Lib.hid (HO5.out.alloc (.cells #[.int .i64 A, .int .i64 O, .int .u64 M2, .int .u64 V] TCr))
                    have HZ6 := Lib.hid (HZ5.out.alloc (.cells #[.int .i64 A, .int .i64 O, .int .u64 M2, .int .u64 V] TCr))
                    have HB6 := Lib.hid (HB5.out.alloc HB5.out.size (.cells #[.int .i64 A, .int .i64 O, .int .u64 M2, .int .u64 V] TCr))
                    have hwr0 : w.heap.size ≤ w6.heap.size := HB5.out.size
                    have HK6 := Lib.hid (HK5.out.alloc hwr0 (.cells #[.int .i64 A, .int .i64 O, .int .u64 M2, .int .u64 V] TCr))
                    have hob6 : OB + 1 ≤ (w6.alloc (.cells #[.int .i64 A, .int .i64 O, .int .u64 M2, .int .u64 V] TCr)).heap.size := by simp; omega
                    have hs6 : wr.heap.size < (w6.alloc (.cells #[.int .i64 A, .int .i64 O, .int .u64 M2, .int .u64 V] TCr)).heap.size := by simp; omega
                    clear hw5
                    go_wp2_with (at_builtin; refine wpList_append_own _ rfl _ _ 46 rfl (OB + 1) 75 i0 (.agg #[.int .i64 0, .int .i64 0, .int .u64 0, .int .u64 0]) 4 32 Tryz.underlying46 hi hz0' hz1' hz2' rfl (by decide) _ AL _ rfl HA2.out ⟨w6.heap.size, 0, none⟩ 1 1 [.int .i64 A, .int .i64 O, .int .u64 M2, .int .u64 V] rfl ?ac1 ?ac2 ?ac3 ?ac4 ?ac5 ?ac6 ?_; (case ac1 => rfl); (case ac2 => exact cells4 _ _ _ _ _ _); (case ac3 => simp [Value.oneCell']); (case ac4 => unfold maxLen; omega); (case ac5 => omega); (case ac6 => exact hob6); intro v' w7 hown' hgrow _; obtain ⟨g', cap', rfl⟩ := ownsRow_succ hown'; have HO7 := Lib.hid (blk_grown HO6.out hgrow (fun q e => by have := (HA2.out.lt q e).1; omega)); have f7 := HO7.out.frozen 3; have o7 := HO7.out.cell 3; simp only [List.getElem?_toArray, List.getElem?_cons_zero, List.getElem?_cons_succ] at o7)
                    have HZ7 := Lib.hid (blk_grown HZ6.out hgrow (fun q e => by have := (HA2.out.lt q e).1; omega))
                    have HB7 := HB6.out.grown hgrow HB6.out.size (fun q e => by have := (HA2.out.lt q e).1; omega)
                    have HK7 := HK6.out.grown hgrow (by omega) (fun q e => by have := (HA2.out.lt q e).1; omega)
                    have hs7 : wr.heap.size < w7.heap.size := Nat.lt_of_lt_of_le hs6 hgrow.size
                    go_roundg (r1.length + 1)
                    case measure => simp at hgg; omega
                    case rel => exact ⟨r1.drop m2, acc ++ [⟨A, O, M2, V⟩], .slice (some ⟨g', 0, none⟩) (AL + 1) cap', (show Hid _ from HW5.out.below (HK7.setCell (p := ⟨OB, 3, none⟩) (by show w.heap.size ≤ OB; omega) _) (by simp; omega)), by rw [List.length_drop]; omega, by rw [List.length_append, HAL.out, List.length_singleton]; omega, by rw [List.length_drop]; omega, (show Hid _ from fun s h => HSr.out s (by simp [List.mem_of_mem_drop h])), HGO, HO7.out.set 3 _, (by show World.ownsRow _ _ _ _ _ _ _; rw [List.length_append, HAL.out, flatC_snoc]; exact ownP_set hown' (by omega)), HZ7.out.other (by omega) 3 _, HB7.setCell (p := ⟨OB, 3, none⟩) (by show w.heap.size ≤ OB; omega) _⟩
              · have hw' : (w1.toList == ifB) = false := by simpa using hw
                have HWD : Hid ((w1.toList == wordC acc) = false) := by show _ = _; rw [hwc0]; exact hw'
                have q1 : (w1.toList == [105, 102]) = false := hw'
                have q2 : (w1.toList != [105, 102]) = true := by simp [bne, q1]
                have q3 : ¬ w1.toList = [105, 102] := by simpa using q1
                clear hw hw' hwc0
                have z0 := HZr.out.frozen 0
                have z1 := HZr.out.frozen 1
                have z2 := HZr.out.frozen 2
                have z3 := HZr.out.frozen 3
                have y0 := HZr.out.cell 0
                have y1 := HZr.out.cell 1
                have y2 := HZr.out.cell 2
                have y3 := HZr.out.cell 3
                simp only [List.getElem?_toArray, List.getElem?_cons_zero, List.getElem?_cons_succ] at y0 y1 y2 y3
                have HA : Hid (.inl 13 = RES) := by have := HCr.out; rwa [condsGo_err (by unfold condsStep; rw [if_pos HWD.out])] at this
                go_wp2
                have bF := ((((HZr.out.set 0 (.string ⟨#[]⟩)).set 1 (.int .i64 0)).set 2 (.int .i64 0)).set 3 (.slice none 0 0))
                have hF := ((((HBr.out.setCell (p := ⟨w.heap.size, 0, none⟩) (Nat.le_refl _) (.string ⟨#[]⟩)).setCell (p := ⟨w.heap.size, 1, none⟩) (Nat.le_refl _) (.int .i64 0)).setCell (p := ⟨w.heap.size, 2, none⟩) (Nat.le_refl _) (.int .i64 0)).setCell (p := ⟨w.heap.size, 3, none⟩) (Nat.le_refl _) (.slice none 0 0))
                have e0 := bF.cell 0
                have e1 := bF.cell 1
                have e2 := bF.cell 2
                have e3 := bF.cell 3
                simp at e0 e1 e2 e3
                refine bodyPost_ret (v := .tuple #[.agg #[.string ⟨#[]⟩, .int .i64 0, .int .i64 0, .slice none 0 0], .int .i64 (13)]) (by simp [results, Tryz.results23, go_sem, e0, e1, e2, e3]) rfl ?_
                exact rrule_bad HA.out hF
            · have h0b : ((AL : Int) == 0) = false := by simp; omega
              have h0z : ¬ (AL : Int) = 0 := by omega
              have h0g : (0 : Int) < (AL : Int) := by omega
              have hwc0 : wordC acc = andB := by unfold wordC; rw [HAL.out, if_neg h0]
              by_cases hw : (w1.toList == andB) = true
              · have HWD : Hid ((w1.toList == wordC acc) = true) := by show _ = _; rw [hwc0]; exact hw
                obtain rfl : w1 = ⟨#[97, 110, 100]⟩ := bytesT ((show w1.toList = andB by simpa using hw).trans (by decide +kernel))
                clear hw hwc0
                by_cases h6 : AL = 6
                · have h6b : ((AL : Int) == 6) = true := by rw [h6]; rfl
                  have z0 := HZr.out.frozen 0
                  have z1 := HZr.out.frozen 1
                  have z2 := HZr.out.frozen 2
                  have z3 := HZr.out.frozen 3
                  have y0 := HZr.out.cell 0
                  have y1 := HZr.out.cell 1
                  have y2 := HZr.out.cell 2
                  have y3 := HZr.out.cell 3
                  simp only [List.getElem?_toArray, List.getElem?_cons_zero, List.getElem?_cons_succ] at y0 y1 y2 y3
                  have HA : Hid (.inl 3 = RES) := by have := HCr.out; rwa [condsGo_err (by unfold condsStep; rw [if_neg (by rw [HWD.out]; decide), HAL.out, if_pos (by omega)])] at this
                  subst h6
                  go_wp2
                  have bF := ((((HZr.out.set 0 (.string ⟨#[]⟩)).set 1 (.int .i64 0)).set 2 (.int .i64 0)).set 3 (.slice none 0 0))
                  have hF := ((((HBr.out.setCell (p := ⟨w.heap.size, 0, none⟩) (Nat.le_refl _) (.string ⟨#[]⟩)).setCell (p := ⟨w.heap.size, 1, none⟩) (Nat.le_refl _) (.int .i64 0)).setCell (p := ⟨w.heap.size, 2, none⟩) (Nat.le_refl _) (.int .i64 0)).setCell (p := ⟨w.heap.size, 3, none⟩) (Nat.le_refl _) (.slice none 0 0))
                  have e0 := bF.cell 0
                  have e1 := bF.cell 1
                  have e2 := bF.cell 2
                  have e3 := bF.cell 3
                  simp at e0 e1 e2 e3
                  refine bodyPost_ret (v := .tuple #[.agg #[.string ⟨#[]⟩, .int .i64 0, .int .i64 0, .slice none 0 0], .int .i64 (3)]) (by simp [results, Tryz.results23, go_sem, e0, e1, e2, e3]) rfl ?_
                  exact rrule_bad HA.out hF
                · have h6b : ((AL : Int) == 6) = false := by simp; omega
                  have h6z : ¬ (AL : Int) = 6 := by omega
                  go_wp2_with fail
                  refine (HRD.out _ HW1.out).mono ?_
                  rintro e w5 ⟨rfl, hb5⟩
                  have HZ5 : Hid (Blk (w5.alloc (.cells #[.int .i64 A, .int .i64 O, .int .u64 M2, .int .u64 V] TCr)) w.heap.size TRr #[.string ⟨#[]⟩, .int .i64 0, .int .i64 0, .slice none 0 0]) := Blk.alloc (blkHP HZr hb5).out _
                  have HB5 : Hid (Below w.heap.size w (w5.alloc (.cells #[.int .i64 A, .int .i64 O, .int .u64 M2, .int .u64 V] TCr))) := (belP HBr hb5).out.alloc (belP HBr hb5).out.size _
                  have HO5 : Hid (Blk (w5.alloc (.cells #[.int .i64 A, .int .i64 O, .int .u64 M2, .int .u64 V] TCr)) OB TRr #[.string w0, .int .i64 K, .int .i64 NN, .slice ua AL uq]) := Blk.alloc (blkHP HOr hb5).out _
                  have HOW5 : Hid ((w5.alloc (.cells #[.int .i64 A, .int .i64 O, .int .u64 M2, .int .u64 V] TCr)).ownsRow (OB + 1) TCr 4 (.slice ua AL uq) AL (flatC acc)) := World.ownsRow.alloc (ownsRow_below HOWr.out hb5) _
                  have HC5 := Lib.hid (Blk.new w5 TCr #[.int .i64 A, .int .i64 O, .int .u64 M2, .int .u64 V])
                  have HK5 : Hid (Below w.heap.size wr (w5.alloc (.cells #[.int .i64 A, .int .i64 O, .int .u64 M2, .int .u64 V] TCr))) := (hb5.mono HBr.out.size).alloc (Nat.le_trans HBr.out.size hb5.size) _
                  have hs5 : wr.heap.size < (w5.alloc (.cells #[.int .i64 A, .int .i64 O, .int .u64 M2, .int .u64 V] TCr)).heap.size := by have := hb5.size; simp; omega
                  have hwc : w.heap.size < w5.heap.size := by have := hb5.size; have := HBr.out.size; omega
                  have hoc : OB < w5.heap.size := by have := hb5.size; omega
                  clear hb5 HRD HW1
                  go_upto_region 16 with fail
                  generalize w5.alloc (.cells #[.int .i64 A, .int .i64 O, .int .u64 M2, .int .u64 V] TCr) = w6 at *
                  generalize w5.heap.size = CB at *
                  clear o3
                  by_cases hE : E ≠ 0
                  · have heb : (E != 0) = true := by simpa using hE
                    have HA : Hid (.inl (formE E) = RES) := by have := HCr.out; rwa [condsGo_err (by unfold condsStep; rw [if_neg (by rw [HWD.out]; decide), HAL.out, if_neg (by omega), HRA.out]; exact if_pos hE)] at this
                    have z0 := HZ5.out.frozen 0
                    have z1 := HZ5.out.frozen 1
                    have z2 := HZ5.out.frozen 2
                    have z3 := HZ5.out.frozen 3
                    have y0 := HZ5.out.cell 0
                    have y1 := HZ5.out.cell 1
                    have y2 := HZ5.out.cell 2
                    have y3 := HZ5.out.cell 3
                    simp only [List.getElem?_toArray, List.getElem?_cons_zero, List.getElem?_cons_succ] at y0 y1 y2 y3
                    go_wp2_with fail
                    refine (rform_any _ _).mono ?_
                    rintro e _ ⟨rfl, rfl⟩
                    go_wp2
                    have bF := ((((HZ5.out.set 0 (.string ⟨#[]⟩)).set 1 (.int .i64 0)).set 2 (.int .i64 0)).set 3 (.slice none 0 0))
                    have hF := ((((HB5.out.setCell (p := ⟨w.heap.size, 0, none⟩) (Nat.le_refl _) (.string ⟨#[]⟩)).setCell (p := ⟨w.heap.size, 1, none⟩) (Nat.le_refl _) (.int .i64 0)).setCell (p := ⟨w.heap.size, 2, none⟩) (Nat.le_refl _) (.int .i64 0)).setCell (p := ⟨w.heap.size, 3, none⟩) (Nat.le_refl _) (.slice none 0 0))
                    have e0 := bF.cell 0
                    have e1 := bF.cell 1
                    have e2 := bF.cell 2
                    have e3 := bF.cell 3
                    simp at e0 e1 e2 e3
                    refine bodyPost_ret (v := .tuple #[.agg #[.string ⟨#[]⟩, .int .i64 0, .int .i64 0, .slice none 0 0], .int .i64 (formE E)]) (by simp [results, Tryz.results23, go_sem, e0, e1, e2, e3]) rfl ?_
                    exact rrule_bad HA.out hF
                  · obtain rfl : E = 0 := by omega
                    obtain ⟨m2, rfl, hml2, _⟩ := cnd_cnt HRA.out
                    have HGO : Hid (mkRule w0 K NN (condsGo (acc ++ [⟨A, O, M2, V⟩]) (r1.drop m2)) = RES) := by
                      have := HCr.out
                      rw [condsGo_step (acc' := acc ++ [⟨A, O, M2, V⟩]) (ws' := r1.drop m2) (by
                        unfold condsStep
                        rw [if_neg (by rw [HWD.out]; decide), HAL.out, if_neg (by omega), HRA.out]
                        rfl)] at this
                      exact this
                    obtain ⟨vw5, hw5, hrun5⟩ := HWr.out.drop (1 + m2) (by simp; omega)
                    rw [show ((1 + m2 : Nat) : Int) = 1 + (m2 : Int) by simp] at hrun5
                    rw [show ∀ x : ByteArray, (x :: r1).drop (1 + m2) = r1.drop m2 from fun x => by rw [Nat.add_comm]; rfl] at hw5
                    have HW5 := Lib.hid hw5
                    have o3 := HO5.out.cell 3
                    have c0 := HC5.out.cell 0
                    have c1 := HC5.out.cell 1
                    have c2 := HC5.out.cell 2
                    have c3 := HC5.out.cell 3
                    simp only [List.getElem?_toArray, List.getElem?_cons_zero, List.getElem?_cons_succ] at o3 c0 c1 c2 c3
                    have HA2 := Lib.hid (HOW5.out.alloc (.cells #[.int .i64 A, .int .i64 O, .int .u64 M2, .int .u64 V] TCr))
                    have HO6 := Lib.hid (HO5.out.alloc (.cells #[.int .i64 A, .int .i64 O, .int .u64 M2, .int .u64 V] TCr))
                    have HZ6 := Lib.hid (HZ5.out.alloc (.cells #[.int .i64 A, .int .i64 O, .int .u64 M2, .int .u64 V] TCr))
                    have HB6 := Lib.hid (HB5.out.alloc HB5.out.size (.cells #[.int .i64 A, .int .i64 O, .int .u64 M2, .int .u64 V] TCr))
                    have hwr0 : w.heap.size ≤ w6.heap.size := HB5.out.size
                    have HK6 := Lib.hid (HK5.out.alloc hwr0 (.cells #[.int .i64 A, .int .i64 O, .int .u64 M2, .int .u64 V] TCr))
                    have hob6 : OB + 1 ≤ (w6.alloc (.cells #[.int .i64 A, .int .i64 O, .int .u64 M2, .int .u64 V] TCr)).heap.size := by simp; omega
                    have hs6 : wr.heap.size < (w6.alloc (.cells #[.int .i64 A, .int .i64 O, .int .u64 M2, .int .u64 V] TCr)).heap.size := by simp; omega
                    clear hw5
                    go_wp2_with (at_builtin; refine wpList_append_own _ rfl _ _ 46 rfl (OB + 1) 75 i0 (.agg #[.int .i64 0, .int .i64 0, .int .u64 0, .int .u64 0]) 4 32 Tryz.underlying46 hi hz0' hz1' hz2' rfl (by decide) _ AL _ rfl HA2.out ⟨w6.heap.size, 0, none⟩ 1 1 [.int .i64 A, .int .i64 O, .int .u64 M2, .int .u64 V] rfl ?ac1 ?ac2 ?ac3 ?ac4 ?ac5 ?ac6 ?_; (case ac1 => rfl); (case ac2 => exact cells4 _ _ _ _ _ _); (case ac3 => simp [Value.oneCell']); (case ac4 => unfold maxLen; omega); (case ac5 => omega); (case ac6 => exact hob6); intro v' w7 hown' hgrow _; obtain ⟨g', cap', rfl⟩ := ownsRow_succ hown'; have HO7 := Lib.hid (blk_grown HO6.out hgrow (fun q e => by have := (HA2.out.lt q e).1; omega)); have f7 := HO7.out.frozen 3; have o7 := HO7.out.cell 3; simp only [List.getElem?_toArray, List.getElem?_cons_zero, List.getElem?_cons_succ] at o7)
                    have HZ7 := Lib.hid (blk_grown HZ6.out hgrow (fun q e => by have := (HA2.out.lt q e).1; omega))
                    have HB7 := HB6.out.grown hgrow HB6.out.size (fun q e => by have := (HA2.out.lt q e).1; omega)
                    have HK7 := HK6.out.grown hgrow (by omega) (fun q e => by have := (HA2.out.lt q e).1; omega)
                    have hs7 : wr.heap.size < w7.heap.size := Nat.lt_of_lt_of_le hs6 hgrow.size
                    go_roundg (r1.length + 1)
                    case measure => simp at hgg; omega
                    case rel => exact ⟨r1.drop m2, acc ++ [⟨A, O, M2, V⟩], .slice (some ⟨g', 0, none⟩) (AL + 1) cap', (show Hid _ from HW5.out.below (HK7.setCell (p := ⟨OB, 3, none⟩) (by show w.heap.size ≤ OB; omega) _) (by simp; omega)), by rw [List.length_drop]; omega, by rw [List.length_append, HAL.out, List.length_singleton]; omega, by rw [List.length_drop]; omega, (show Hid _ from fun s h => HSr.out s (by simp [List.mem_of_mem_drop h])), HGO, HO7.out.set 3 _, (by show World.ownsRow _ _ _ _ _ _ _; rw [List.length_append, HAL.out, flatC_snoc]; exact ownP_set hown' (by omega)), HZ7.out.other (by omega) 3 _, HB7.setCell (p := ⟨OB, 3, none⟩) (by show w.heap.size ≤ OB; omega) _⟩
              · have hw' : (w1.toList == andB) = false := by simpa using hw
                have HWD : Hid ((w1.toList == wordC acc) = false) := by show _ = _; rw [hwc0]; exact hw'
                have q1 : (w1.toList == [97, 110, 100]) = false := hw'
                have q2 : (w1.toList != [97, 110, 100]) = true := by simp [bne, q1]
                have q3 : ¬ w1.toList = [97, 110, 100] := by simpa using q1
                clear hw hw' hwc0
                by_cases hv : (w1.toList == [105, 102]) = true
                · have p3 : w1.toList = [105, 102] := by simpa using hv
                  have p2 : (w1.toList != [105, 102]) = false := by simp [bne, hv]
                  have z0 := HZr.out.frozen 0
                  have z1 := HZr.out.frozen 1
                  have z2 := HZr.out.frozen 2
                  have z3 := HZr.out.frozen 3
                  have y0 := HZr.out.cell 0
                  have y1 := HZr.out.cell 1
                  have y2 := HZr.out.cell 2
                  have y3 := HZr.out.cell 3
                  simp only [List.getElem?_toArray, List.getElem?_cons_zero, List.getElem?_cons_succ] at y0 y1 y2 y3
                  have HA : Hid (.inl 13 = RES) := by have := HCr.out; rwa [condsGo_err (by unfold condsStep; rw [if_pos HWD.out])] at this
                  go_wp2
                  have bF := ((((HZr.out.set 0 (.string ⟨#[]⟩)).set 1 (.int .i64 0)).set 2 (.int .i64 0)).set 3 (.slice none 0 0))
                  have hF := ((((HBr.out.setCell (p := ⟨w.heap.size, 0, none⟩) (Nat.le_refl _) (.string ⟨#[]⟩)).setCell (p := ⟨w.heap.size, 1, none⟩) (Nat.le_refl _) (.int .i64 0)).setCell (p := ⟨w.heap.size, 2, none⟩) (Nat.le_refl _) (.int .i64 0)).setCell (p := ⟨w.heap.size, 3, none⟩) (Nat.le_refl _) (.slice none 0 0))
                  have e0 := bF.cell 0
                  have e1 := bF.cell 1
                  have e2 := bF.cell 2
                  have e3 := bF.cell 3
                  simp at e0 e1 e2 e3
                  refine bodyPost_ret (v := .tuple #[.agg #[.string ⟨#[]⟩, .int .i64 0, .int .i64 0, .slice none 0 0], .int .i64 (13)]) (by simp [results, Tryz.results23, go_sem, e0, e1, e2, e3]) rfl ?_
                  exact rrule_bad HA.out hF
                · have p1 : (w1.toList == [105, 102]) = false := by simpa using hv
                  have p3 : ¬ w1.toList = [105, 102] := by simpa using p1
                  have p2 : (w1.toList != [105, 102]) = true := by simp [bne, p1]
                  clear hv
                  have z0 := HZr.out.frozen 0
                  have z1 := HZr.out.frozen 1
                  have z2 := HZr.out.frozen 2
                  have z3 := HZr.out.frozen 3
                  have y0 := HZr.out.cell 0
                  have y1 := HZr.out.cell 1
                  have y2 := HZr.out.cell 2
                  have y3 := HZr.out.cell 3
                  simp only [List.getElem?_toArray, List.getElem?_cons_zero, List.getElem?_cons_succ] at y0 y1 y2 y3
                  have HA : Hid (.inl 13 = RES) := by have := HCr.out; rwa [condsGo_err (by unfold condsStep; rw [if_pos HWD.out])] at this
                  go_wp2
                  have bF := ((((HZr.out.set 0 (.string ⟨#[]⟩)).set 1 (.int .i64 0)).set 2 (.int .i64 0)).set 3 (.slice none 0 0))
                  have hF := ((((HBr.out.setCell (p := ⟨w.heap.size, 0, none⟩) (Nat.le_refl _) (.string ⟨#[]⟩)).setCell (p := ⟨w.heap.size, 1, none⟩) (Nat.le_refl _) (.int .i64 0)).setCell (p := ⟨w.heap.size, 2, none⟩) (Nat.le_refl _) (.int .i64 0)).setCell (p := ⟨w.heap.size, 3, none⟩) (Nat.le_refl _) (.slice none 0 0))
                  have e0 := bF.cell 0
                  have e1 := bF.cell 1
                  have e2 := bF.cell 2
                  have e3 := bF.cell 3
                  simp at e0 e1 e2 e3
                  refine bodyPost_ret (v := .tuple #[.agg #[.string ⟨#[]⟩, .int .i64 0, .int .i64 0, .slice none 0 0], .int .i64 (13)]) (by simp [results, Tryz.results23, go_sem, e0, e1, e2, e3]) rfl ?_
                  exact rrule_bad HA.out hF
end Go.Proofs.YtmjipkdejggbfaaGreatDoor
