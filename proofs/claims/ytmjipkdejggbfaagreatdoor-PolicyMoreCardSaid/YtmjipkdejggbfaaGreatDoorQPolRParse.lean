/- The document's Parse: the walk. -/
import Derived.Test.YtmjipkdejggbfaaGreatDoorQPolRRule
namespace Go.Proofs.YtmjipkdejggbfaaGreatDoor
open Go Go.Proofs Go.RowKit

def rparsePost (ans : PSt × Int × Int) (w : World) (e : Ending) (w' : World) : Prop :=
  ∃ vr, e = .returned (.tuple #[PolV ans.1.k ans.1.n ans.1.x vr, .int .i64 ans.2.1, .int .i64 ans.2.2]) ∧ RulesR TRr TCr w.heap.size w' vr ans.1.rules ∧ Below w.heap.size w w'
theorem rparse_post {ans : PSt × Int × Int} {k n a b : Int} {x : Bool} {rs : List PRule} {vr : Value} {w w' : World} (h : (⟨⟨k, n, x, rs⟩, a, b⟩ : PSt × Int × Int) = ans) (hr : RulesR TRr TCr w.heap.size w' vr rs) (hb : Below w.heap.size w w') : rparsePost ans w (.returned (.tuple #[PolV k n x vr, .int .i64 a, .int .i64 b])) w' := by
  subst h
  exact ⟨vr, rfl, hr, hb⟩
theorem rrules_snoc {R : Nat} {wr w7 : World} {v uc v' : Value} {rs : List PRule} {us : List Value} {s : ByteArray} {K N : Int} {acc : List PCond} {o : Obj} (h1 : us.length = rs.length) (h2 : wr.ownsRow (R + 1) TRr 4 v rs.length (flatR rs us)) (h3 : ∀ (j : Nat) (u : Value) (r : PRule), us[j]? = some u → rs[j]? = some r → wr.ownsRow (R + 1) TCr 4 u r.conds.length (flatC r.conds))
    (hu : wr.ownsRow (R + 1) TCr 4 uc acc.length (flatC acc)) (hg : (wr.alloc o).grownBy w7 v.ownBlock) (hown : w7.ownsRow (R + 1) TRr 4 v' (rs.length + 1) (flatR rs us ++ [.string s, .int .i64 K, .int .i64 N, uc])) : RulesR TRr TCr (R + 1) (w7.setCell ⟨R, 3, none⟩ v') v' (rs ++ [⟨s, K, N, acc⟩]) := by
  refine ⟨us ++ [uc], by simp [h1], ?_, fun j u r hj hr => ?_⟩
  · rw [flatR_snoc _ _ _ _ h1, List.length_append]
    exact ownP_set hown (Nat.lt_succ_self _)
  · refine ownP_set ?_ (Nat.lt_succ_self _)
    by_cases hlt : j < us.length
    · rw [List.getElem?_append_left hlt] at hj
      rw [List.getElem?_append_left (by omega)] at hr
      exact ownP_kept (h3 j u r hj hr) h2 (by decide) hg
    · rw [List.getElem?_append_right (by omega)] at hj
      rw [List.getElem?_append_right (by omega)] at hr
      have e : j = us.length := by
        have := (List.getElem?_eq_some_iff.1 hj).1
        simp at this
        omega
      subst e
      rw [h1] at hr
      simp at hj hr
      subst hj hr
      exact ownP_kept hu h2 (by decide) hg
theorem pLine_many {cnt : Nat} {st st' : PSt} {w0 : ByteArray} {r : List ByteArray} (h : pLine cnt st w0 r = .inr st') (hl : st.rules.length ≤ 500) : st'.rules.length ≤ 500 := by
  unfold pLine at h
  split at h
  · split at h
    · cases h
    · split at h
      · cases h
      · split at h
        · cases h
        · cases h; exact hl
  · split at h
    · unfold pX32 at h
      split at h
      · split at h
        · cases h; exact hl
        · cases h
      · cases h
    · split at h
      · cases h
      · cases hr : ruleGo st.rules.length w0 r with
        | inl e => rw [hr] at h; cases h
        | inr x =>
          rw [hr] at h
          cases h
          have hlt : st.rules.length < 500 := by
            unfold ruleGo at hr
            split at hr
            · cases hr
            · split at hr
              · cases hr
              · omega
          show (st.rules ++ [x]).length ≤ 500
          rw [List.length_append, List.length_singleton]
          omega
theorem RulesR.setG {tr tc lo g j t : Nat} {W : World} {v u : Value} {rs : List PRule} {cs : Array Value} (h : RulesR tr tc lo W v rs) (hg : Blk W g t cs) (h1 : tr ≠ t) (h2 : tc ≠ t) : RulesR tr tc lo (W.setCell ⟨g, j, none⟩ u) v rs := by
  obtain ⟨us, e1, e2, e3⟩ := h
  exact ⟨us, e1, ownP_setO e2 hg h1, fun j u r hu hr => ownP_setO (e3 j u r hu hr) hg h2⟩
theorem PWords.up {R R' : Nat} {W : World} {sv : Value} {ws : List ByteArray} (h : PWords R W sv ws) (hR : R ≤ R') : PWords R' W sv ws := by
  obtain ⟨a, c, h1, h2, h3⟩ := h
  refine ⟨a, c, h1, h2, ?_⟩
  rcases h3 with h3 | ⟨b, off, h3, h4, h5⟩
  · exact .inl h3
  · exact .inr ⟨b, off, h3, Nat.lt_of_lt_of_le h4 hR, h5⟩
theorem PWords.second {R : Nat} {W : World} {b off n c : Nat} {w0 w1 : ByteArray} {r : List ByteArray} (h : PWords R W (.slice (some ⟨b, off, none⟩) n c) (w0 :: w1 :: r)) : W.cell? ⟨b, off + 1, none⟩ = some (.string w1) := by
  obtain ⟨a, c', h1, h2, h3⟩ := h
  rcases h3 with h3 | ⟨b', off', h3, h4, h5, h6⟩
  · cases h3
  · subst h3
    injection h1 with h1
    injection h1 with h1
    injection h1 with h7 h8
    subst h7; subst h8
    exact h6 1 w1 rfl
abbrev TPr : Nat := 33
def rlPost (PB : Nat) (w1 : World) (res : Int ⊕ PSt) (b : Value) (wx : World) : Prop :=
  match res with
  | .inl c => b = .int .i64 c ∧ Below PB w1 wx
  | .inr st' => b = .int .i64 0 ∧ ∃ vr', Blk wx PB TPr #[.int .i64 st'.k, .int .i64 st'.n, .bool st'.x, vr'] ∧ RulesR TRr TCr (PB + 1) wx vr' st'.rules ∧ Below PB w1 wx
theorem rl_bad {PB : Nat} {w1 wx : World} {res : Int ⊕ PSt} {c : Int} (h : .inl c = res) (hb : Below PB w1 wx) : rlPost PB w1 res (.int .i64 c) wx := by subst h; exact ⟨rfl, hb⟩
theorem rl_good {PB : Nat} {w1 wx : World} {res : Int ⊕ PSt} {st' : PSt} {vr' : Value} (h : .inr st' = res) (hp : Blk wx PB TPr #[.int .i64 st'.k, .int .i64 st'.n, .bool st'.x, vr']) (hr : RulesR TRr TCr (PB + 1) wx vr' st'.rules) (hb : Below PB w1 wx) : rlPost PB w1 res (.int .i64 0) wx := by subst h; exact ⟨rfl, vr', hp, hr, hb⟩
set_option maxRecDepth 100000 in
set_option maxHeartbeats 8000000 in
theorem rparse_any (t : ByteArray) (ht : t.size ≤ 1000000) (w : World) : Calls Tryz.prog 10 #[.string t] w (rparsePost (polAns t) w) := by
  have HLEX := Lib.hid (fun W => refLines_any t ht W)
  have HFN := Lib.hid (lexAns_fine t)
  obtain ⟨POL, hPOL⟩ : ∃ POL, polAns t = POL := ⟨_, rfl⟩
  rw [hPOL]
  unfold polAns at hPOL
  have HPOL := Lib.hid hPOL
  clear hPOL
  generalize lexAns t = a at *
  obtain ⟨ls, nn, ec⟩ := a
  have HZ := Lib.hid (Blk.new w 33 #[.int .i64 0, .int .i64 0, .bool false, .slice none 0 0])
  have HB := Lib.hid ((Below.refl w.heap.size w).alloc (Nat.le_refl _) (.cells #[.int .i64 0, .int .i64 0, .bool false, .slice none 0 0] 33))
  go_enter Tryz.func10, Tryz.ntmps10
  go_wp2_with fail
  refine (HLEX.out _).mono ?_
  rintro e w1 ⟨v, rfl, hL, hb⟩
  have HL := Lib.hid hL
  have HZ1 := blkHP HZ hb
  have HB1 := belP HB hb
  clear hL hb HZ HB HLEX
  by_cases he : ec ≠ 0
  · have hez : (((ec : Int)) != 0) = true := by simpa using he
    have HA : Hid ((PSt.zero, (nn : Int), (ec : Int)) = POL) := by have := HPOL.out; rwa [if_pos he] at this
    have z0 := HZ1.out.frozen 0
    have z1 := HZ1.out.frozen 1
    have z2 := HZ1.out.frozen 2
    have z3 := HZ1.out.frozen 3
    have y0 := HZ1.out.cell 0
    have y1 := HZ1.out.cell 1
    have y2 := HZ1.out.cell 2
    have y3 := HZ1.out.cell 3
    simp only [List.getElem?_toArray, List.getElem?_cons_zero, List.getElem?_cons_succ] at y0 y1 y2 y3
    go_wp2
    have bF := ((((HZ1.out.set 0 (.int .i64 0)).set 1 (.int .i64 0)).set 2 (.bool false)).set 3 (.slice none 0 0))
    have hF := ((((HB1.out.setCell (p := ⟨w.heap.size, 0, none⟩) (Nat.le_refl _) (.int .i64 0)).setCell (p := ⟨w.heap.size, 1, none⟩) (Nat.le_refl _) (.int .i64 0)).setCell (p := ⟨w.heap.size, 2, none⟩) (Nat.le_refl _) (.bool false)).setCell (p := ⟨w.heap.size, 3, none⟩) (Nat.le_refl _) (.slice none 0 0))
    have e0 := bF.cell 0
    have e1 := bF.cell 1
    have e2 := bF.cell 2
    have e3 := bF.cell 3
    simp at e0 e1 e2 e3
    refine bodyPost_ret (v := .tuple #[PolV 0 0 false (.slice none 0 0), .int .i64 (nn : Int), .int .i64 (ec : Int)]) (by simp [results, PolV, Tryz.results10, go_sem, e0, e1, e2, e3]) rfl ?_
    exact rparse_post HA.out (RulesR.nil _ _ _ _) hF
  · obtain rfl : ec = 0 := by omega
    obtain ⟨N, hN⟩ : ∃ N, ls.length = N := ⟨_, rfl⟩
    have hsl : ∃ a c, v = .slice a N c := by
      obtain ⟨us, _, h2, _⟩ := HL.out
      rcases h2.2 with ⟨h, h0⟩ | ⟨g, c, _, h, _⟩
      · exact ⟨none, 0, by rw [h, ← hN, h0]⟩
      · exact ⟨_, _, by rw [← hN]; exact h⟩
    obtain ⟨va, vc, rfl⟩ := hsl
    by_cases h0 : N = 0
    · have HA : Hid ((PSt.zero, (0 : Int), (4 : Int)) = POL) := by have := HPOL.out; rwa [if_neg (by omega), if_pos (by omega)] at this
      subst h0
      clear HL hN
      have z0 := HZ1.out.frozen 0
      have z1 := HZ1.out.frozen 1
      have z2 := HZ1.out.frozen 2
      have z3 := HZ1.out.frozen 3
      have y0 := HZ1.out.cell 0
      have y1 := HZ1.out.cell 1
      have y2 := HZ1.out.cell 2
      have y3 := HZ1.out.cell 3
      simp only [List.getElem?_toArray, List.getElem?_cons_zero, List.getElem?_cons_succ] at y0 y1 y2 y3
      go_wp2
      have bF := ((((HZ1.out.set 0 (.int .i64 0)).set 1 (.int .i64 0)).set 2 (.bool false)).set 3 (.slice none 0 0))
      have hF := ((((HB1.out.setCell (p := ⟨w.heap.size, 0, none⟩) (Nat.le_refl _) (.int .i64 0)).setCell (p := ⟨w.heap.size, 1, none⟩) (Nat.le_refl _) (.int .i64 0)).setCell (p := ⟨w.heap.size, 2, none⟩) (Nat.le_refl _) (.bool false)).setCell (p := ⟨w.heap.size, 3, none⟩) (Nat.le_refl _) (.slice none 0 0))
      have e0 := bF.cell 0
      have e1 := bF.cell 1
      have e2 := bF.cell 2
      have e3 := bF.cell 3
      simp at e0 e1 e2 e3
      refine bodyPost_ret (v := .tuple #[PolV 0 0 false (.slice none 0 0), .int .i64 0, .int .i64 4]) (by simp [results, PolV, Tryz.results10, go_sem, e0, e1, e2, e3]) rfl ?_
      exact rparse_post HA.out (RulesR.nil _ _ _ _) hF
    · have hNz : ¬ (N : Int) = 0 := by omega
      have hNq : ((N : Int) == 0) = false := by simpa using hNz
      have HA : Hid (pLines 0 PSt.zero ls = POL) := by have := HPOL.out; rwa [if_neg (by omega), if_neg (by omega)] at this
      have HN := Lib.hid hN
      have hN2 : N ≤ 65537 := by rw [← hN]; exact HFN.out.1
      have HFN2 := Lib.hid HFN.out.2
      have HP1 : Hid (Blk (w1.alloc (.cells #[.int .i64 0, .int .i64 0, .bool false, .slice none 0 0] 33)) w1.heap.size 33 #[.int .i64 0, .int .i64 0, .bool false, .slice none 0 0]) := Blk.new w1 _ _
      have hlt1 : w.heap.size < w1.heap.size := HZ1.out.lt
      have HB2 : Hid (Below w1.heap.size w1 (w1.alloc (.cells #[.int .i64 0, .int .i64 0, .bool false, .slice none 0 0] 33))) := (Below.refl _ w1).alloc (Nat.le_refl _) _
      clear hN HFN HPOL he
      go_upto_region 8 with fail
      generalize w1.alloc (.cells #[.int .i64 0, .int .i64 0, .bool false, .slice none 0 0] 33) = w2 at *
      generalize hPB : w1.heap.size = PB at *
      have HPB := Lib.hid hPB
      clear hPB
      go_loopg [9] (N + 1) (fun gg iv wr => ∃ (i : Nat) (st : PSt) (vr : Value), i ≤ N ∧ N - i < gg ∧ st.rules.length ≤ 500 ∧ iv = .int .i64 (i : Int) ∧ Hid (pLines i st (ls.drop i) = POL) ∧ Hid (Blk wr PB 33 #[.int .i64 st.k, .int .i64 st.n, .bool st.x, vr]) ∧ Hid (RulesR TRr TCr (PB + 1) wr vr st.rules) ∧ Hid (Below PB w1 wr))
      case atStart => exact ⟨0, PSt.zero, _, Nat.zero_le _, by omega, by decide, rfl, HA, HP1, RulesR.nil _ _ _ _, HB2⟩
      case round =>
        obtain ⟨i, st, vr, hiN, hgg, hrm, rfl, HAr, HPr, HRRr, HBr⟩ := hrel
        clear HP1 HB2 HA
        have i0 : (0 : Int) ≤ (i : Int) := by omega
        by_cases hlt : i < N
        · have hltz : (i : Int) < (N : Int) := by omega
          obtain ⟨x, hx⟩ : ∃ x, ls[i]? = some x := ⟨_, List.getElem?_eq_getElem (by rw [HN.out]; exact hlt)⟩
          have hm := HFN2.out x (List.mem_of_getElem? hx)
          obtain ⟨xn, ws⟩ := x
          match ws, hm, hx with
          | [], hm, hx => exact absurd rfl hm.1
          | w0 :: r, hm, hx =>
          obtain ⟨_, hm2, hm3⟩ := hm
          have hdr : ls.drop i = (xn, w0 :: r) :: ls.drop (i + 1) := by
            rw [List.drop_eq_getElem_cons (by rw [HN.out]; exact hlt)]
            congr 1
            exact (List.getElem?_eq_some_iff.1 hx).2
          obtain ⟨g, ua, uc, rfl, d1, d2, hg, hpw⟩ := plines_at HL.out hx
          rw [HPB.out] at hg hpw
          have y1 := (HBr.out.cell (p := ⟨g, i * 2, none⟩) hg).trans d1
          have y2 := (HBr.out.cell (p := ⟨g, i * 2 + 1, none⟩) hg).trans d2
          have hPl := Blk.lt HPr.out
          have HW := Lib.hid (hpw.below HBr.out (by rw [HPB.out]; omega))
          have hrl : r.length ≤ 900000 := by simp at hm2; omega
          have hw0 : w0.size ≤ 1000000 := by have := hm3 w0 (by simp); omega
          have HSZ : Hid (∀ s ∈ r, s.size ≤ 1000000) := fun s hs => by have := hm3 s (by simp [hs]); omega
          have HX : Hid ((match pLine i st w0 r with | .inl e => (PSt.zero, (xn : Int), e) | .inr st' => pLines (i + 1) st' (ls.drop (i + 1))) = POL) := by have := HAr.out; rwa [hdr] at this
          clear hm2 hm3 hdr hpw hx HAr d2
          obtain ⟨RS, hRS⟩ : ∃ RS, pLine i st w0 r = RS := ⟨_, rfl⟩
          rw [hRS] at HX
          have HRS := Lib.hid hRS
          clear hRS
          obtain ⟨vw1, hw1, hrun1⟩ := HW.out.drop1
          obtain ⟨b, off, c, he0, h0, hbw⟩ := HW.out.head
          obtain ⟨rfl, rfl⟩ : ua = some ⟨b, off, none⟩ ∧ uc = c := by injection he0 with e1 e2 e3; exact ⟨e1, e3⟩
          have HW1 := Lib.hid hw1
          clear hw1 he0
          go_upto_block 2 with fail
          go_cut [11] (fun bv wx => rlPost PB w1 RS bv wx)
          case first =>
            by_cases hd : (w0.toList == defaultB) = true
            · obtain rfl : w0 = ⟨#[100, 101, 102, 97, 117, 108, 116]⟩ := bytesT ((show w0.toList = defaultB by simpa using hd).trans (by decide +kernel))
              have HL2 : Hid ((if i ≠ 0 then .inl 13 else if (ActP.readAns r).2.2.2 ≠ 0 then .inl (formE (ActP.readAns r).2.2.2) else if (r.drop (ActP.readAns r).2.2.1.toNat).length ≠ 0 then .inl 13 else .inr { st with k := (ActP.readAns r).1, n := (ActP.readAns r).2.1 }) = RS) := by have := HRS.out; unfold pLine at this; rwa [if_pos hd] at this
              have HCALL := Lib.hid (fun W hW => ActP.refRead_any vw1 r (by omega) W hW)
              have h4 := act_four r
              generalize (ActP.readAns r).1 = K at *
              generalize (ActP.readAns r).2.1 = NN at *
              generalize (ActP.readAns r).2.2.1 = M at *
              generalize (ActP.readAns r).2.2.2 = EE at *
              rw [h4] at HCALL
              have HCALL : Hid (∀ W, ActP.WordsV W vw1 r → Calls Tryz.prog 21 #[vw1] W fun e w' => e = .returned (.tuple #[.agg #[.int .i64 K, .int .i64 NN], .int .i64 M, .int .i64 EE]) ∧ Below W.heap.size W w') := HCALL
              have H4 := Lib.hid h4
              have HWA := Lib.hid HW1.out.act
              clear h4 HRS hd
              go_wp2_with fail
              refine (HCALL.out _ HWA.out).mono ?_
              rintro e w2 ⟨rfl, hb2⟩
              have HP2 : Hid (Blk (w2.alloc (.cells #[.int .i64 K, .int .i64 NN] 30)) PB TPr #[.int .i64 st.k, .int .i64 st.n, .bool st.x, vr]) := Blk.alloc (blkHP HPr hb2).out _
              have hPs : PB ≤ wr.heap.size := by omega
              have HB2 : Hid (Below PB w1 (w2.alloc (.cells #[.int .i64 K, .int .i64 NN] 30))) := (HBr.out.trans (hb2.mono hPs)).alloc (Nat.le_trans hPs hb2.size) _
              have HR2 : Hid (RulesR TRr TCr (PB + 1) (w2.alloc (.cells #[.int .i64 K, .int .i64 NN] 30)) vr st.rules) := (HRRr.out.below hb2).below ((Below.refl _ w2).alloc (Nat.le_refl _) _)
              have HC2 := Lib.hid (Blk.new w2 30 #[.int .i64 K, .int .i64 NN])
              have hpc : PB < w2.heap.size := by have := hb2.size; omega
              clear hb2 HCALL HWA HPr HRRr HBr HW HW1 h0
              go_upto_region 17 with fail
              generalize w2.alloc (.cells #[.int .i64 K, .int .i64 NN] 30) = w3 at *
              generalize w2.heap.size = AB at *
              have d0 := HC2.out.cell 0
              have d1 := HC2.out.cell 1
              have p0 := HP2.out.cell 0
              have p1 := HP2.out.cell 1
              have f0 := HP2.out.frozen 0
              have f1 := HP2.out.frozen 1
              simp only [List.getElem?_toArray, List.getElem?_cons_zero, List.getElem?_cons_succ] at d0 d1 p0 p1
              clear y1 y2
              have HP3 := Lib.hid ((HP2.out.set 0 (.int .i64 K)).set 1 (.int .i64 NN))
              have HB3 := Lib.hid ((HB2.out.setCell (p := ⟨PB, 0, none⟩) (Nat.le_refl _) (.int .i64 K)).setCell (p := ⟨PB, 1, none⟩) (Nat.le_refl _) (.int .i64 NN))
              have HR3 := Lib.hid ((HR2.out.setG (g := PB) (j := 0) (u := .int .i64 K) HP2.out (by decide) (by decide)).setG (g := PB) (j := 1) (u := .int .i64 NN) (HP2.out.set 0 _) (by decide) (by decide))
              by_cases hi0 : i ≠ 0
              · have hiz : (0 : Int) < (i : Int) := by omega
                have HA : Hid (.inl 13 = RS) := by have := HL2.out; rwa [if_pos hi0] at this
                go_wp2
                go_meet
                exact rl_bad HA.out HB3.out
              · have hiz : ¬ (0 : Int) < (i : Int) := by omega
                have HL3 := HL2.out
                rw [if_neg hi0] at HL3
                by_cases hE : EE ≠ 0
                · have heb : (EE != 0) = true := by simpa using hE
                  have HA : Hid (.inl (formE EE) = RS) := by rwa [if_pos hE] at HL3
                  clear HL3
                  go_wp2_with fail
                  refine (rform_any _ _).mono ?_
                  rintro e _ ⟨rfl, rfl⟩
                  go_wp2
                  go_meet
                  exact rl_bad HA.out HB3.out
                · obtain rfl : EE = 0 := by omega
                  obtain ⟨m, rfl, hml, _⟩ := act_cnt H4.out
                  rw [if_neg (by decide), show ((m : Int)).toNat = m from rfl, List.length_drop] at HL3
                  by_cases hmm : m = r.length
                  · have HA : Hid (.inr { st with k := K, n := NN } = RS) := by rwa [if_neg (by omega)] at HL3
                    have hq : ((m : Int) != (r.length : Int)) = false := by simp; omega
                    have hq2 : (m : Int) = (r.length : Int) := by omega
                    clear HL3
                    go_wp2
                    go_meet
                    exact rl_good (st' := { st with k := K, n := NN }) HA.out HP3.out HR3.out HB3.out
                  · have HA : Hid (.inl 13 = RS) := by rwa [if_pos (by omega)] at HL3
                    have hq : ((m : Int) != (r.length : Int)) = true := by simp; omega
                    have hq2 : ¬ (m : Int) = (r.length : Int) := by omega
                    clear HL3
                    go_wp2
                    go_meet
                    exact rl_bad HA.out HB3.out
            · have hd' : (w0.toList == defaultB) = false := by simpa using hd
              have q1 : (w0.toList == [100, 101, 102, 97, 117, 108, 116]) = false := hd'
              have q1n : ¬ w0.toList = [100, 101, 102, 97, 117, 108, 116] := by simpa using q1
              have HL2 : Hid ((if (w0.toList == x32B) = true then pX32 i st r else if i = 0 then .inl 13 else addRule st (ruleGo st.rules.length w0 r)) = RS) := by have := HRS.out; unfold pLine at this; rwa [if_neg (by rw [hd']; decide)] at this
              clear hd hd' hrun1 HW1
              by_cases hi0 : i = 0
              · have hiz : ((i : Int) == 0) = true := by simp; omega
                have hiz2 : (i : Int) = 0 := by omega
                have HA : Hid (.inl 13 = RS) := by
                  have := HL2.out
                  subst hi0
                  split at this
                  · unfold pX32 at this
                    split at this
                    · rwa [if_neg (by omega)] at this
                    · exact this
                  · rwa [if_pos rfl] at this
                subst hi0
                go_wp2
                go_meet
                exact rl_bad HA.out HBr.out
              · have hiz : ((i : Int) == 0) = false := by simp; omega
                have hiz2 : ¬ (i : Int) = 0 := by omega
                by_cases hx : (w0.toList == x32B) = true
                · obtain rfl : w0 = ⟨#[120, 51, 50]⟩ := bytesT ((show w0.toList = x32B by simpa using hx).trans (by decide +kernel))
                  have HL3 : Hid (pX32 i st r = RS) := by have := HL2.out; rwa [if_pos hx] at this
                  clear hx HL2 q1 q1n HRS
                  by_cases hi1 : i = 1
                  · match r, HW, HL3, HSZ, hrl with
                    | [], HW, HL3, HSZ, hrl =>
                      have HA : Hid (.inl 13 = RS) := HL3
                      subst hi1
                      go_wp2
                      go_meet
                      exact rl_bad HA.out HBr.out
                    | v :: v2 :: r2, HW, HL3, HSZ, hrl =>
                      have HA : Hid (.inl 13 = RS) := HL3
                      have hq : (((r2.length + 1 + 1 : Nat) : Int) + 1 != 2) = true := by simp; omega
                      have hq2 : (((r2.length : Int) + 1 + 1) + 1 != 2) = true := by simp; omega
                      have hq3 : ¬ ((r2.length : Int) + 1 + 1) + 1 = 2 := by omega
                      subst hi1
                      go_wp2
                      go_meet
                      exact rl_bad HA.out HBr.out
                    | [v], HW, HL3, HSZ, hrl =>
                      have g1 := HW.out.second
                      have HL4 : Hid ((if i = 1 ∧ ((v.toList == onB) = true ∨ (v.toList == offB) = true) then .inr { st with x := v.toList == onB } else .inl 13) = RS) := HL3
                      have p2 := HPr.out.cell 2
                      have f2 := HPr.out.frozen 2
                      simp only [List.getElem?_toArray, List.getElem?_cons_zero, List.getElem?_cons_succ] at p2
                      subst hi1
                      by_cases hon : (v.toList == onB) = true
                      · obtain rfl : v = ⟨#[111, 110]⟩ := bytesT ((show v.toList = onB by simpa using hon).trans (by decide +kernel))
                        have HA : Hid (.inr { st with x := true } = RS) := by have := HL4.out; rwa [if_pos ⟨rfl, .inl hon⟩, hon] at this
                        clear HL4 HL3 hon
                        go_wp2
                        go_meet
                        exact rl_good (st' := { st with x := true }) HA.out (HPr.out.set 2 (.bool true)) (HRRr.out.setG HPr.out (by decide) (by decide)) (HBr.out.setCell (p := ⟨PB, 2, none⟩) (Nat.le_refl _) _)
                      · have hon' : (v.toList == onB) = false := by simpa using hon
                        by_cases hof : (v.toList == offB) = true
                        · obtain rfl : v = ⟨#[111, 102, 102]⟩ := bytesT ((show v.toList = offB by simpa using hof).trans (by decide +kernel))
                          have HA : Hid (.inr { st with x := false } = RS) := by have := HL4.out; rwa [if_pos ⟨rfl, .inr hof⟩, hon'] at this
                          clear HL4 HL3 hon hon' hof
                          go_wp2
                          go_meet
                          exact rl_good (st' := { st with x := false }) HA.out (HPr.out.set 2 (.bool false)) (HRRr.out.setG HPr.out (by decide) (by decide)) (HBr.out.setCell (p := ⟨PB, 2, none⟩) (Nat.le_refl _) _)
                        · have hof' : (v.toList == offB) = false := by simpa using hof
                          have HA : Hid (.inl 13 = RS) := by have := HL4.out; rwa [if_neg (fun hh => hh.2.elim (fun h => by rw [hon'] at h; cases h) (fun h => by rw [hof'] at h; cases h))] at this
                          have k5 : (v.toList == [111, 110]) = false := hon'
                          have k6 : (v.toList == [111, 102, 102]) = false := hof'
                          have k1 : (v.toList != [111, 110]) = true := by have : (v.toList == [111, 110]) = false := hon'; simp [bne, this]
                          have k2 : (v.toList != [111, 102, 102]) = true := by have : (v.toList == [111, 102, 102]) = false := hof'; simp [bne, this]
                          have k3 : ¬ v.toList = [111, 110] := by simpa using k1
                          have k4 : ¬ v.toList = [111, 102, 102] := by simpa using k2
                          clear HL4 HL3 hon hon' hof hof'
                          go_wp2
                          go_meet
                          exact rl_bad HA.out HBr.out
                  · have hi1z : ((i : Int) != 1) = true := by simp; omega
                    have hi1n : ¬ (i : Int) = 1 := by omega
                    have HA : Hid (.inl 13 = RS) := by
                      have := HL3.out
                      unfold pX32 at this
                      split at this
                      · rwa [if_neg (fun h => hi1 h.1)] at this
                      · exact this
                    go_wp2
                    go_meet
                    exact rl_bad HA.out HBr.out
                · have hx' : (w0.toList == x32B) = false := by simpa using hx
                  have q2 : (w0.toList == [120, 51, 50]) = false := hx'
                  have q2n : ¬ w0.toList = [120, 51, 50] := by simpa using q2
                  have HL3 : Hid (addRule st (ruleGo st.rules.length w0 r) = RS) := by have := HL2.out; rwa [if_neg (by rw [hx']; decide), if_neg hi0] at this
                  clear hx hx' HL2 HRS
                  have HRULE := Lib.hid (rrule_any hrl HSZ.out st.rules.length (by omega) wr (HW.out.up (by omega)))
                  have p3 := HPr.out.cell 3
                  simp only [List.getElem?_toArray, List.getElem?_cons_zero, List.getElem?_cons_succ] at p3
                  obtain ⟨a0, c0, rfl⟩ := HRRr.out.slice
                  have hPs : PB + 1 ≤ wr.heap.size := by omega
                  obtain ⟨L, hL⟩ : ∃ L, st.rules.length = L := ⟨_, rfl⟩
                  have HL := Lib.hid hL
                  have HRU := Lib.hid HRRr.out
                  rw [hL] at HRULE HPr HRU p3 hrm HL3
                  clear hL
                  obtain ⟨i0', hi', hz0', hz1', hz2'⟩ := info_parts infoRr
                  go_wp2_with fail
                  refine HRULE.out.mono ?_
                  intro e w2 h2
                  cases hgo : ruleGo L w0 r with
                  | inl c =>
                    rw [hgo] at h2
                    obtain ⟨rfl, hb2⟩ := h2
                    have HA : Hid (.inl c = RS) := by have := HL3.out; rwa [hgo] at this
                    clear hgo HRULE HL3 q1 q1n q2 q2n p3
                    obtain ⟨us, hu1, hu2, hu3⟩ := HRU.out
                    rw [HL.out] at hu2
                    have HU1 := Lib.hid hu1
                    have HU3 : Hid (∀ (j : Nat) (u : Value) (r : PRule), us[j]? = some u → st.rules[j]? = some r → (w2.alloc (.cells #[.string ⟨#[]⟩, .int .i64 0, .int .i64 0, .slice none 0 0] TRr)).ownsRow (PB + 1) TCr 4 u r.conds.length (flatC r.conds)) := fun j u r hj hr => World.ownsRow.alloc (ownP_below (hu3 j u r hj hr) hb2) _
                    have HUB : Hid ((w2.alloc (.cells #[.string ⟨#[]⟩, .int .i64 0, .int .i64 0, .slice none 0 0] TRr)).ownsRow (PB + 1) TRr 4 (.slice a0 L c0) L (flatR st.rules us)) := World.ownsRow.alloc (ownP_below hu2 hb2) _
                    have HP2 : Hid (Blk (w2.alloc (.cells #[.string ⟨#[]⟩, .int .i64 0, .int .i64 0, .slice none 0 0] TRr)) PB TPr #[.int .i64 st.k, .int .i64 st.n, .bool st.x, .slice a0 L c0]) := Blk.alloc (blkHP HPr hb2).out _
                    have HB2 : Hid (Below PB w1 (w2.alloc (.cells #[.string ⟨#[]⟩, .int .i64 0, .int .i64 0, .slice none 0 0] TRr))) := (HBr.out.trans (hb2.mono (by omega))).alloc (by have := hb2.size; omega) _
                    have HC2 := Lib.hid (Blk.new w2 TRr #[.string ⟨#[]⟩, .int .i64 0, .int .i64 0, .slice none 0 0])
                    have hpc : PB < w2.heap.size := by have := hb2.size; omega
                    clear hu1 hu2 hu3 HRU hb2 HRRr HPr HBr HW y1 y2 h0
                    go_upto_region 14 with fail
                    generalize w2.alloc (.cells #[.string ⟨#[]⟩, .int .i64 0, .int .i64 0, .slice none 0 0] TRr) = w3 at *
                    generalize w2.heap.size = RBk at *
                    have p3 := HP2.out.cell 3
                    have d0 := HC2.out.cell 0
                    have d1x := HC2.out.cell 1
                    have d2x := HC2.out.cell 2
                    have d3 := HC2.out.cell 3
                    simp only [List.getElem?_toArray, List.getElem?_cons_zero, List.getElem?_cons_succ] at p3 d0 d1x d2x d3
                    have HA2 := Lib.hid (HUB.out.alloc (.cells #[.string ⟨#[]⟩, .int .i64 0, .int .i64 0, .slice none 0 0] TRr))
                    have HP6 := Lib.hid (HP2.out.alloc (.cells #[.string ⟨#[]⟩, .int .i64 0, .int .i64 0, .slice none 0 0] TRr))
                    have hP3 : PB < w3.heap.size := HP2.out.lt
                    have HB6 := Lib.hid (HB2.out.alloc (Nat.le_of_lt hP3) (.cells #[.string ⟨#[]⟩, .int .i64 0, .int .i64 0, .slice none 0 0] TRr))
                    have hob6 : PB + 1 ≤ (w3.alloc (.cells #[.string ⟨#[]⟩, .int .i64 0, .int .i64 0, .slice none 0 0] TRr)).heap.size := by simp; omega
                    go_wp2_with (at_builtin; refine wpList_append_own _ rfl _ _ 31 rfl (PB + 1) 48 i0' (.agg #[.string ⟨#[]⟩, .int .i64 0, .int .i64 0, .slice none 0 0]) 4 56 Tryz.underlying31 hi' hz0' hz1' hz2' rfl (by decide) _ L _ rfl HA2.out ⟨w3.heap.size, 0, none⟩ 1 1 [.string ⟨#[]⟩, .int .i64 0, .int .i64 0, .slice none 0 0] rfl ?ac1 ?ac2 ?ac3 ?ac4 ?ac5 ?ac6 ?_; (case ac1 => rfl); (case ac2 => exact cells4 _ _ _ _ _ _); (case ac3 => simp [Value.oneCell']); (case ac4 => unfold maxLen; omega); (case ac5 => omega); (case ac6 => exact hob6); intro v' w7 hown' hgrow _; obtain ⟨g', cap', rfl⟩ := ownsRow_succ hown'; have HP7 := Lib.hid (blk_grown HP6.out hgrow (fun q e => by have := (HA2.out.lt q e).1; omega)); have f7 := HP7.out.frozen 3; have o7 := HP7.out.cell 3; simp only [List.getElem?_toArray, List.getElem?_cons_zero, List.getElem?_cons_succ] at o7)
                    have HB7 := HB6.out.grown hgrow (by simp; omega) (fun q e => by have := (HA2.out.lt q e).1; omega)
                    go_meet
                    exact rl_bad HA.out (HB7.setCell (p := ⟨PB, 3, none⟩) (Nat.le_refl _) _)
                  | inr x =>
                    obtain ⟨nm, K, NN, cs⟩ := x
                    rw [hgo] at h2
                    obtain ⟨uc2, rfl, huc, hb2⟩ := h2
                    have HA : Hid (.inr { st with rules := st.rules ++ [⟨nm, K, NN, cs⟩] } = RS) := by have := HL3.out; rwa [hgo] at this
                    obtain ⟨xa, xc, rfl⟩ : ∃ xa xc, uc2 = .slice xa cs.length xc := by
                      rcases huc.2 with ⟨h, h0⟩ | ⟨g, cc, _, h, _⟩
                      · exact ⟨none, 0, by rw [h]; rw [show cs.length = 0 from h0]⟩
                      · exact ⟨_, _, h⟩
                    generalize hCL : cs.length = CL at *
                    have HCL := Lib.hid hCL
                    have HUC := Lib.hid huc
                    clear hgo HRULE HL3 q1 q1n q2 q2n p3 hCL huc
                    obtain ⟨us, hu1, hu2, hu3⟩ := HRU.out
                    rw [HL.out] at hu2
                    have HU1 := Lib.hid hu1
                    have HU3 : Hid (∀ (j : Nat) (u : Value) (r : PRule), us[j]? = some u → st.rules[j]? = some r → (w2.alloc (.cells #[.string nm, .int .i64 K, .int .i64 NN, .slice xa CL xc] TRr)).ownsRow (PB + 1) TCr 4 u r.conds.length (flatC r.conds)) := fun j u r hj hr => World.ownsRow.alloc (ownP_below (hu3 j u r hj hr) hb2) _
                    have HUB : Hid ((w2.alloc (.cells #[.string nm, .int .i64 K, .int .i64 NN, .slice xa CL xc] TRr)).ownsRow (PB + 1) TRr 4 (.slice a0 L c0) L (flatR st.rules us)) := World.ownsRow.alloc (ownP_below hu2 hb2) _
                    have HP2 : Hid (Blk (w2.alloc (.cells #[.string nm, .int .i64 K, .int .i64 NN, .slice xa CL xc] TRr)) PB TPr #[.int .i64 st.k, .int .i64 st.n, .bool st.x, .slice a0 L c0]) := Blk.alloc (blkHP HPr hb2).out _
                    have HB2 : Hid (Below PB w1 (w2.alloc (.cells #[.string nm, .int .i64 K, .int .i64 NN, .slice xa CL xc] TRr))) := (HBr.out.trans (hb2.mono (by omega))).alloc (by have := hb2.size; omega) _
                    have HC2 := Lib.hid (Blk.new w2 TRr #[.string nm, .int .i64 K, .int .i64 NN, .slice xa CL xc])
                    have hpc : PB < w2.heap.size := by have := hb2.size; omega
                    have HUC3 : Hid ((w2.alloc (.cells #[.string nm, .int .i64 K, .int .i64 NN, .slice xa CL xc] TRr)).ownsRow wr.heap.size TCr 4 (.slice xa CL xc) CL (flatC cs)) := World.ownsRow.alloc HUC.out _
                    clear hu1 hu2 hu3 HRU hb2 HRRr HPr HBr HW y1 y2 h0
                    go_upto_region 14 with fail
                    generalize w2.alloc (.cells #[.string nm, .int .i64 K, .int .i64 NN, .slice xa CL xc] TRr) = w3 at *
                    generalize w2.heap.size = RBk at *
                    have p3 := HP2.out.cell 3
                    have d0 := HC2.out.cell 0
                    have d1x := HC2.out.cell 1
                    have d2x := HC2.out.cell 2
                    have d3 := HC2.out.cell 3
                    simp only [List.getElem?_toArray, List.getElem?_cons_zero, List.getElem?_cons_succ] at p3 d0 d1x d2x d3
                    have HA2 := Lib.hid (HUB.out.alloc (.cells #[.string nm, .int .i64 K, .int .i64 NN, .slice xa CL xc] TRr))
                    have HP6 := Lib.hid (HP2.out.alloc (.cells #[.string nm, .int .i64 K, .int .i64 NN, .slice xa CL xc] TRr))
                    have hP3 : PB < w3.heap.size := HP2.out.lt
                    have HB6 := Lib.hid (HB2.out.alloc (Nat.le_of_lt hP3) (.cells #[.string nm, .int .i64 K, .int .i64 NN, .slice xa CL xc] TRr))
                    have hob6 : PB + 1 ≤ (w3.alloc (.cells #[.string nm, .int .i64 K, .int .i64 NN, .slice xa CL xc] TRr)).heap.size := by simp; omega
                    go_wp2_with (at_builtin; refine wpList_append_own _ rfl _ _ 31 rfl (PB + 1) 48 i0' (.agg #[.string ⟨#[]⟩, .int .i64 0, .int .i64 0, .slice none 0 0]) 4 56 Tryz.underlying31 hi' hz0' hz1' hz2' rfl (by decide) _ L _ rfl HA2.out ⟨w3.heap.size, 0, none⟩ 1 1 [.string nm, .int .i64 K, .int .i64 NN, .slice xa CL xc] rfl ?ac1 ?ac2 ?ac3 ?ac4 ?ac5 ?ac6 ?_; (case ac1 => rfl); (case ac2 => exact cells4 _ _ _ _ _ _); (case ac3 => simp [Value.oneCell']); (case ac4 => unfold maxLen; omega); (case ac5 => omega); (case ac6 => exact hob6); intro v' w7 hown' hgrow _; obtain ⟨g', cap', rfl⟩ := ownsRow_succ hown'; have HP7 := Lib.hid (blk_grown HP6.out hgrow (fun q e => by have := (HA2.out.lt q e).1; omega)); have f7 := HP7.out.frozen 3; have o7 := HP7.out.cell 3; simp only [List.getElem?_toArray, List.getElem?_cons_zero, List.getElem?_cons_succ] at o7)
                    have HB7 := HB6.out.grown hgrow (by simp; omega) (fun q e => by have := (HA2.out.lt q e).1; omega)
                    go_meet
                    exact rl_good (st' := { st with rules := st.rules ++ [⟨nm, K, NN, cs⟩] }) HA.out (HP7.out.set 3 _) (rrules_snoc (us := us) (by rw [HU1.out]) (by rw [HL.out]; exact HUB.out) HU3.out (by rw [HCL.out]; exact ownP_mono HUC3.out hPs) hgrow (by rw [HL.out]; exact hown')) (HB7.setCell (p := ⟨PB, 3, none⟩) (Nat.le_refl _) _)
          case rest =>
            cases RS with
            | inl c =>
              obtain ⟨rfl, hb⟩ := hcut
              have hgz : w.heap.size < g := by obtain ⟨us, _, h2, _⟩ := HL.out; have := (h2.lt g rfl).1; simp at this; omega
              have hgn1 : ¬ w.heap.size = g := by omega
              have hgn2 : ¬ g = w.heap.size := by omega
              have hc0 : ((c : Int) != 0) = true := by simpa using pLine_ne HRS.out
              have HA : Hid ((PSt.zero, (xn : Int), c) = POL) := HX
              have HZ8 : Hid (Blk wc w.heap.size TPr #[.int .i64 0, .int .i64 0, .bool false, .slice none 0 0]) := HZ1.out.below hb hlt1
              have HB8 := Lib.hid (HB1.out.trans (hb.mono (Nat.le_of_lt hlt1)))
              have l0 := (hb.cell (p := ⟨g, i * 2, none⟩) hg).trans d1
              clear hb
              have z0 := HZ8.out.frozen 0
              have z1 := HZ8.out.frozen 1
              have z2 := HZ8.out.frozen 2
              have z3 := HZ8.out.frozen 3
              have y0 := HZ8.out.cell 0
              have y1 := HZ8.out.cell 1
              have y2 := HZ8.out.cell 2
              have y3 := HZ8.out.cell 3
              simp only [List.getElem?_toArray, List.getElem?_cons_zero, List.getElem?_cons_succ] at y0 y1 y2 y3
              go_upto_region 31 with fail
              go_region
              go_wp2
              have bF := ((((HZ8.out.set 0 (.int .i64 0)).set 1 (.int .i64 0)).set 2 (.bool false)).set 3 (.slice none 0 0))
              have hF := ((((HB8.out.setCell (p := ⟨w.heap.size, 0, none⟩) (Nat.le_refl _) (.int .i64 0)).setCell (p := ⟨w.heap.size, 1, none⟩) (Nat.le_refl _) (.int .i64 0)).setCell (p := ⟨w.heap.size, 2, none⟩) (Nat.le_refl _) (.bool false)).setCell (p := ⟨w.heap.size, 3, none⟩) (Nat.le_refl _) (.slice none 0 0))
              have e0 := bF.cell 0
              have e1 := bF.cell 1
              have e2 := bF.cell 2
              have e3 := bF.cell 3
              simp at e0 e1 e2 e3
              refine bodyPost_ret (v := .tuple #[PolV 0 0 false (.slice none 0 0), .int .i64 (xn : Int), .int .i64 c]) (by simp [results, PolV, Tryz.results10, go_sem, e0, e1, e2, e3]) rfl ?_
              exact rparse_post HA.out (RulesR.nil _ _ _ _) hF.drew
            | inr st' =>
              obtain ⟨rfl, vr', hp, hr, hb⟩ := hcut
              have HA : Hid (pLines (i + 1) st' (ls.drop (i + 1)) = POL) := HX
              have HP8 := Lib.hid hp
              have HR8 := Lib.hid hr
              have HB8 := Lib.hid hb
              have hm' := pLine_many HRS.out hrm
              clear hp hr hb
              go_wp2
              go_roundg (N - i)
              case measure => omega
              case rel => exact ⟨i + 1, st', vr', by omega, by omega, hm', by go_num, HA, HP8, HR8, HB8⟩
        · obtain rfl : i = N := by omega
          have hltz : ¬ (i : Int) < (i : Int) := by omega
          have HA : Hid ((st, (0 : Int), (0 : Int)) = POL) := by have := HAr.out; rwa [List.drop_eq_nil_of_le (by rw [HN.out]; exact Nat.le_refl _)] at this
          have HZ8 : Hid (Blk wr w.heap.size TPr #[.int .i64 0, .int .i64 0, .bool false, .slice none 0 0]) := HZ1.out.below HBr.out hlt1
          have HB8 := Lib.hid (HB1.out.trans (HBr.out.mono (Nat.le_of_lt hlt1)))
          have p0 := HPr.out.cell 0
          have p1 := HPr.out.cell 1
          have p2 := HPr.out.cell 2
          have p3 := HPr.out.cell 3
          have z0 := HZ8.out.frozen 0
          have z1 := HZ8.out.frozen 1
          have z2 := HZ8.out.frozen 2
          have z3 := HZ8.out.frozen 3
          have y0 := HZ8.out.cell 0
          have y1 := HZ8.out.cell 1
          have y2 := HZ8.out.cell 2
          have y3 := HZ8.out.cell 3
          simp only [List.getElem?_toArray, List.getElem?_cons_zero, List.getElem?_cons_succ] at y0 y1 y2 y3 p0 p1 p2 p3
          obtain ⟨ra, rc, rfl⟩ := HRRr.out.slice
          go_wp2
          have bF := ((((HZ8.out.set 0 (.int .i64 st.k)).set 1 (.int .i64 st.n)).set 2 (.bool st.x)).set 3 (.slice ra st.rules.length rc))
          have hF := ((((HB8.out.setCell (p := ⟨w.heap.size, 0, none⟩) (Nat.le_refl _) (.int .i64 st.k)).setCell (p := ⟨w.heap.size, 1, none⟩) (Nat.le_refl _) (.int .i64 st.n)).setCell (p := ⟨w.heap.size, 2, none⟩) (Nat.le_refl _) (.bool st.x)).setCell (p := ⟨w.heap.size, 3, none⟩) (Nat.le_refl _) (.slice ra st.rules.length rc))
          have e0 := bF.cell 0
          have e1 := bF.cell 1
          have e2 := bF.cell 2
          have e3 := bF.cell 3
          simp at e0 e1 e2 e3
          refine bodyPost_ret (v := .tuple #[PolV st.k st.n st.x (.slice ra st.rules.length rc), .int .i64 0, .int .i64 0]) (by simp [results, PolV, Tryz.results10, go_sem, e0, e1, e2, e3]) rfl ?_
          have hq := (((HRRr.out.setG (g := w.heap.size) (j := 0) (u := .int .i64 st.k) HZ8.out (by decide) (by decide)).setG (g := w.heap.size) (j := 1) (u := .int .i64 st.n) (HZ8.out.set 0 _) (by decide) (by decide)).setG (g := w.heap.size) (j := 2) (u := .bool st.x) ((HZ8.out.set 0 _).set 1 _) (by decide) (by decide)).setG (g := w.heap.size) (j := 3) (u := .slice ra st.rules.length rc) (((HZ8.out.set 0 _).set 1 _).set 2 _) (by decide) (by decide)
          exact rparse_post HA.out (hq.lo (by omega)) hF
end Go.Proofs.YtmjipkdejggbfaaGreatDoor
