/- policy.Parse: the walk. -/
import Derived.Test.YtmjipkdejggbfaaGreatDoorQPolLex
namespace Go.Proofs.YtmjipkdejggbfaaGreatDoor
open Go Go.Proofs Go.RowKit

def PolV (k n : Int) (x : Bool) (vr : Value) : Value := .agg #[.int .i64 k, .int .i64 n, .bool x, vr]
def parsePost (ans : PSt × Int × Int) (w : World) (e : Ending) (w' : World) : Prop :=
  ∃ vr, e = .returned (.tuple #[PolV ans.1.k ans.1.n ans.1.x vr, .int .i64 ans.2.1, .int .i64 ans.2.2]) ∧ RulesR TRl TCd w.heap.size w' vr ans.1.rules ∧ Below w.heap.size w w'
theorem parse_post {ans : PSt × Int × Int} {k n a b : Int} {x : Bool} {rs : List PRule} {vr : Value} {w w' : World} (h : (⟨⟨k, n, x, rs⟩, a, b⟩ : PSt × Int × Int) = ans) (hr : RulesR TRl TCd w.heap.size w' vr rs) (hb : Below w.heap.size w w') : parsePost ans w (.returned (.tuple #[PolV k n x vr, .int .i64 a, .int .i64 b])) w' := by
  subst h
  exact ⟨vr, rfl, hr, hb⟩
theorem belP {a W W' : World} (h : Hid (Below a.heap.size a W)) (hb : Below W.heap.size W W') : Hid (Below a.heap.size a W') := h.out.trans (hb.mono h.out.size)
def zCells : Array Value := #[.int .i64 0, .int .i64 0, .bool false, .slice none 0 0]
set_option maxRecDepth 100000 in
set_option maxHeartbeats 8000000 in
theorem parse_any (t : ByteArray) (w : World) (hE : CondP.ErrV w) : Calls Tryz.prog 9 #[.string t] w (parsePost (polAns t) w) := by
  have HLEX := Lib.hid (lexLines_any t)
  have HFN := Lib.hid (lexAns_fine t)
  have HEW := Lib.hid hE
  obtain ⟨POL, hPOL⟩ : ∃ POL, polAns t = POL := ⟨_, rfl⟩
  rw [hPOL]
  unfold polAns at hPOL
  have HPOL := Lib.hid hPOL
  clear hPOL hE
  generalize lexAns t = a at *
  obtain ⟨ls, nn, ec⟩ := a
  have HZ := Lib.hid (Blk.new w 26 #[.int .i64 0, .int .i64 0, .bool false, .slice none 0 0])
  have HB := Lib.hid ((Below.refl w.heap.size w).alloc (Nat.le_refl _) (.cells #[.int .i64 0, .int .i64 0, .bool false, .slice none 0 0] 26))
  go_enter Tryz.func9, Tryz.ntmps9
  go_wp2_with fail
  refine (HLEX.out _).mono ?_
  rintro e w1 ⟨v, rfl, hL, hb⟩
  have HL := Lib.hid hL
  have HZ1 := blkHP HZ hb
  have HB1 := belP HB hb
  clear hL hb HZ HB HLEX
  by_cases he : ec ≠ 0
  · have hez : (((ec : Int)) != 0) = true := by simpa using he
    have HA : Hid ((PSt.zero, (nn : Int), (ec : Int)) = POL) := by have := HPOL.out; rwa [if_pos he] at this
    have z0 := HZ1.out.frozen 0
    have z1 := HZ1.out.frozen 1
    have z2 := HZ1.out.frozen 2
    have z3 := HZ1.out.frozen 3
    have y0 := HZ1.out.cell 0
    have y1 := HZ1.out.cell 1
    have y2 := HZ1.out.cell 2
    have y3 := HZ1.out.cell 3
    simp only [List.getElem?_toArray, List.getElem?_cons_zero, List.getElem?_cons_succ] at y0 y1 y2 y3
    go_wp2
    have bF := ((((HZ1.out.set 0 (.int .i64 0)).set 1 (.int .i64 0)).set 2 (.bool false)).set 3 (.slice none 0 0))
    have hF := ((((HB1.out.setCell (p := ⟨w.heap.size, 0, none⟩) (Nat.le_refl _) (.int .i64 0)).setCell (p := ⟨w.heap.size, 1, none⟩) (Nat.le_refl _) (.int .i64 0)).setCell (p := ⟨w.heap.size, 2, none⟩) (Nat.le_refl _) (.bool false)).setCell (p := ⟨w.heap.size, 3, none⟩) (Nat.le_refl _) (.slice none 0 0))
    have e0 := bF.cell 0
    have e1 := bF.cell 1
    have e2 := bF.cell 2
    have e3 := bF.cell 3
    simp at e0 e1 e2 e3
    refine bodyPost_ret (v := .tuple #[PolV 0 0 false (.slice none 0 0), .int .i64 (nn : Int), .int .i64 (ec : Int)]) (by simp [results, PolV, Tryz.results9, go_sem, e0, e1, e2, e3]) rfl ?_
    exact parse_post HA.out (RulesR.nil _ _ _ _) hF
  · obtain rfl : ec = 0 := by omega
    obtain ⟨N, hN⟩ : ∃ N, ls.length = N := ⟨_, rfl⟩
    have hsl : ∃ a c, v = .slice a N c := by
      obtain ⟨us, _, h2, _⟩ := HL.out
      rcases h2.2 with ⟨h, h0⟩ | ⟨g, c, _, h, _⟩
      · exact ⟨none, 0, by rw [h, ← hN, h0]⟩
      · exact ⟨_, _, by rw [← hN]; exact h⟩
    obtain ⟨va, vc, rfl⟩ := hsl
    by_cases h0 : N = 0
    · have HA : Hid ((PSt.zero, (0 : Int), (4 : Int)) = POL) := by have := HPOL.out; rwa [if_neg (by omega), if_pos (by omega)] at this
      subst h0
      clear HL hN
      have z0 := HZ1.out.frozen 0
      have z1 := HZ1.out.frozen 1
      have z2 := HZ1.out.frozen 2
      have z3 := HZ1.out.frozen 3
      have y0 := HZ1.out.cell 0
      have y1 := HZ1.out.cell 1
      have y2 := HZ1.out.cell 2
      have y3 := HZ1.out.cell 3
      simp only [List.getElem?_toArray, List.getElem?_cons_zero, List.getElem?_cons_succ] at y0 y1 y2 y3
      go_wp2
      have bF := ((((HZ1.out.set 0 (.int .i64 0)).set 1 (.int .i64 0)).set 2 (.bool false)).set 3 (.slice none 0 0))
      have hF := ((((HB1.out.setCell (p := ⟨w.heap.size, 0, none⟩) (Nat.le_refl _) (.int .i64 0)).setCell (p := ⟨w.heap.size, 1, none⟩) (Nat.le_refl _) (.int .i64 0)).setCell (p := ⟨w.heap.size, 2, none⟩) (Nat.le_refl _) (.bool false)).setCell (p := ⟨w.heap.size, 3, none⟩) (Nat.le_refl _) (.slice none 0 0))
      have e0 := bF.cell 0
      have e1 := bF.cell 1
      have e2 := bF.cell 2
      have e3 := bF.cell 3
      simp at e0 e1 e2 e3
      refine bodyPost_ret (v := .tuple #[PolV 0 0 false (.slice none 0 0), .int .i64 0, .int .i64 4]) (by simp [results, PolV, Tryz.results9, go_sem, e0, e1, e2, e3]) rfl ?_
      exact parse_post HA.out (RulesR.nil _ _ _ _) hF
    · have hNz : ¬ (N : Int) = 0 := by omega
      have hNq : ((N : Int) == 0) = false := by simpa using hNz
      have HA : Hid (pLines 0 PSt.zero ls = POL) := by have := HPOL.out; rwa [if_neg (by omega), if_neg (by omega)] at this
      have HN := Lib.hid hN
      have hN2 : N ≤ 65537 := by rw [← hN]; exact HFN.out.1
      have HFN2 := Lib.hid HFN.out.2
      have HR1 : Hid (RdB (w1.alloc (.cells #[.int .i64 0, .int .i64 0, .bool false, .slice none 0 0, .slice none 0 0, .int .i64 0] 56)) w1.heap.size 0 0 false (.slice none 0 0) (.slice none 0 0) ((0 : Nat) : Int)) := Blk.new w1 _ _
      have hlt1 : w.heap.size < w1.heap.size := HZ1.out.lt
      have hE1 : CondP.ErrV w1 := HEW.out.kept HB1.out HEW.out.lt
      have HE1 := Lib.hid hE1
      have hgR : 5 < w1.heap.size := hE1.lt
      have HB2 : Hid (Below w1.heap.size w1 (w1.alloc (.cells #[.int .i64 0, .int .i64 0, .bool false, .slice none 0 0, .slice none 0 0, .int .i64 0] 56))) := (Below.refl _ w1).alloc (Nat.le_refl _) _
      have hs2 : w1.heap.size < (w1.alloc (.cells #[.int .i64 0, .int .i64 0, .bool false, .slice none 0 0, .slice none 0 0, .int .i64 0] 56)).heap.size := by simp
      clear hN HFN HPOL HEW hE1 he
      go_upto_region 8 with fail
      generalize w1.alloc (.cells #[.int .i64 0, .int .i64 0, .bool false, .slice none 0 0, .slice none 0 0, .int .i64 0] 56) = w2 at *
      generalize hRB : w1.heap.size = RB at *
      have HRB := Lib.hid hRB
      clear hRB
      go_loopg [33] (N + 1) (fun gg iv wr => ∃ (i : Nat) (st : PSt) (vr vw : Value), i ≤ N ∧ N - i < gg ∧ iv = .int .i64 (i : Int) ∧ Hid (pLines i st (ls.drop i) = POL) ∧ Hid (RdB wr RB st.k st.n st.x vr vw (i : Int)) ∧ Hid (RulesR TRl TCd (RB + 1) wr vr st.rules) ∧ Hid (Below RB w1 wr))
      case atStart => exact ⟨0, PSt.zero, _, _, Nat.zero_le _, by omega, rfl, HA, HR1, RulesR.nil _ _ _ _, HB2⟩
      case round =>
        obtain ⟨i, st, vr, vw, hiN, hgg, rfl, HAr, HRr, HRRr, HBr⟩ := hrel
        clear HR1 HB2 HA hs2
        have i0 : (0 : Int) ≤ (i : Int) := by omega
        by_cases hlt : i < N
        · have hltz : (i : Int) < (N : Int) := by omega
          obtain ⟨x, hx⟩ : ∃ x, ls[i]? = some x := ⟨_, List.getElem?_eq_getElem (by rw [HN.out]; exact hlt)⟩
          have hm := HFN2.out x (List.mem_of_getElem? hx)
          obtain ⟨xn, ws⟩ := x
          match ws, hm, hx with
          | [], hm, hx => exact absurd rfl hm.1
          | w0 :: r, hm, hx =>
          obtain ⟨_, hm2, hm3⟩ := hm
          have hdr : ls.drop i = (xn, w0 :: r) :: ls.drop (i + 1) := by
            rw [List.drop_eq_getElem_cons (by rw [HN.out]; exact hlt)]
            congr 1
            exact (List.getElem?_eq_some_iff.1 hx).2
          obtain ⟨g, ua, uc, rfl, d1, d2, hg, hpw⟩ := plines_at HL.out hx
          rw [HRB.out] at hg hpw
          have y1 := (HBr.out.cell (p := ⟨g, i * 2, none⟩) hg).trans d1
          have y2 := (HBr.out.cell (p := ⟨g, i * 2 + 1, none⟩) hg).trans d2
          have hRl := Blk.lt HRr.out
          have HW := Lib.hid (hpw.below HBr.out (by rw [HRB.out]; omega))
          have hrl : r.length ≤ 900000 := by simp at hm2; omega
          have hw0 : w0.size ≤ 1000000 := by have := hm3 w0 (by simp); omega
          have HSZ : Hid (∀ s ∈ r, s.size ≤ 1000000) := fun s hs => by have := hm3 s (by simp [hs]); omega
          have HX : Hid ((match pLine i st w0 r with | .inl e => (PSt.zero, (xn : Int), e) | .inr st' => pLines (i + 1) st' (ls.drop (i + 1))) = POL) := by have := HAr.out; rwa [hdr] at this
          have HBa : Hid (Below RB w1 (wr.alloc (.cells #[.int .i64 (xn : Int), .slice ua (r.length + 1) uc] 58))) := HBr.out.alloc (by omega) _
          have HRa : Hid (RdB (wr.alloc (.cells #[.int .i64 (xn : Int), .slice ua (r.length + 1) uc] 58)) RB st.k st.n st.x vr vw (i : Int)) := Blk.alloc HRr.out _
          have HRRa := Lib.hid (HRRr.out.fr (FrR.alloc (a := wr) (R := RB) (.cells #[.int .i64 (xn : Int), .slice ua (r.length + 1) uc] 58) (by omega)))
          have HWa := Lib.hid (HW.out.below ((Below.refl RB wr).alloc (by omega) (.cells #[.int .i64 (xn : Int), .slice ua (r.length + 1) uc] 58)) (by simp))
          have HLa := Lib.hid (Blk.new wr 58 #[.int .i64 (xn : Int), .slice ua (r.length + 1) uc])
          have hLB : RB < wr.heap.size := hRl
          have hVO : ∀ q, vr.ownBlock = some q → q < wr.heap.size := fun q e => by obtain ⟨us, _, h2, _⟩ := HRRr.out; exact (h2.lt q e).2
          have HVO := Lib.hid hVO
          have hwl : w.heap.size < RB := hlt1
          clear hVO hm2 hm3 hdr d1 d2 hpw HW hx HRr HRRr HAr HBr
          go_upto_region 10 with fail
          generalize wr.alloc (.cells #[.int .i64 (xn : Int), .slice ua (r.length + 1) uc] 58) = wl at *
          generalize wr.heap.size = LB at *
          have e0 := HLa.out.cell 0
          have e1 := HLa.out.cell 1
          simp only [List.getElem?_toArray, List.getElem?_cons_zero, List.getElem?_cons_succ] at e0 e1
          clear y1 y2
          go_wp2_with fail
          refine (pline_any (by omega) hw0 hrl HSZ.out wl (HE1.out.kept HBa.out hgR) hgR HRa.out HWa.out HRRa.out).mono ?_
          intro e w8 h8
          cases hpl : pLine i st w0 r with
          | inl c =>
            rw [hpl] at h8
            obtain ⟨rfl, hf⟩ := h8
            have hc0 : ((c : Int) != 0) = true := by simpa using pLine_ne hpl
            have HA : Hid ((PSt.zero, (xn : Int), c) = POL) := by have := HX.out; rwa [hpl] at this
            have HZ8 : Hid (Blk w8 w.heap.size 26 #[.int .i64 0, .int .i64 0, .bool false, .slice none 0 0]) := (HZ1.out.below HBa.out hlt1).below hf.1 hlt1
            have HL8 := Lib.hid (hf.blk HLa.out (by omega))
            have HB8 := Lib.hid (HB1.out.trans ((HBa.out.trans hf.1).mono (Nat.le_of_lt hlt1)))
            have l0 := HL8.out.cell 0
            have z0 := HZ8.out.frozen 0
            have z1 := HZ8.out.frozen 1
            have z2 := HZ8.out.frozen 2
            have z3 := HZ8.out.frozen 3
            have y0 := HZ8.out.cell 0
            have y1 := HZ8.out.cell 1
            have y2 := HZ8.out.cell 2
            have y3 := HZ8.out.cell 3
            simp only [List.getElem?_toArray, List.getElem?_cons_zero, List.getElem?_cons_succ] at l0 y0 y1 y2 y3
            have hne : ¬ w.heap.size = LB := by omega
            have hne' : ¬ LB = w.heap.size := by omega
            clear hf e0 e1 HX hpl
            go_upto_region 12 with fail
            go_region
            go_wp2
            have bF := ((((HZ8.out.set 0 (.int .i64 0)).set 1 (.int .i64 0)).set 2 (.bool false)).set 3 (.slice none 0 0))
            have hF := ((((HB8.out.setCell (p := ⟨w.heap.size, 0, none⟩) (Nat.le_refl _) (.int .i64 0)).setCell (p := ⟨w.heap.size, 1, none⟩) (Nat.le_refl _) (.int .i64 0)).setCell (p := ⟨w.heap.size, 2, none⟩) (Nat.le_refl _) (.bool false)).setCell (p := ⟨w.heap.size, 3, none⟩) (Nat.le_refl _) (.slice none 0 0))
            have e0 := bF.cell 0
            have e1 := bF.cell 1
            have e2 := bF.cell 2
            have e3 := bF.cell 3
            simp at e0 e1 e2 e3
            refine bodyPost_ret (v := .tuple #[PolV 0 0 false (.slice none 0 0), .int .i64 (xn : Int), .int .i64 c]) (by simp [results, PolV, Tryz.results9, go_sem, e0, e1, e2, e3]) rfl ?_
            exact parse_post HA.out (RulesR.nil _ _ _ _) hF.drew
          | inr st' =>
            rw [hpl] at h8
            obtain ⟨rfl, hf, vr', vw', h3, h4⟩ := h8
            have HA : Hid (pLines (i + 1) st' (ls.drop (i + 1)) = POL) := by have := HX.out; rwa [hpl] at this
            have HR8 : Hid (RdB w8 RB st'.k st'.n st'.x vr' vw' ((i + 1 : Nat) : Int)) := h3
            have HRR8 := Lib.hid h4
            have HB8 := Lib.hid (HBa.out.trans hf.1)
            clear hf h3 h4 e0 e1 HX hpl
            go_wp2
            go_roundg (N - i)
            case measure => omega
            case rel => exact ⟨i + 1, st', vr', vw', by omega, by omega, by go_num, HA, HR8, HRR8, HB8⟩
        · obtain rfl : i = N := by omega
          have hltz : ¬ (i : Int) < (i : Int) := by omega
          have HA : Hid ((st, (0 : Int), (0 : Int)) = POL) := by have := HAr.out; rwa [List.drop_eq_nil_of_le (by rw [HN.out]; exact Nat.le_refl _)] at this
          have hwl : w.heap.size < RB := hlt1
          have HZ8 : Hid (Blk wr w.heap.size 26 #[.int .i64 0, .int .i64 0, .bool false, .slice none 0 0]) := HZ1.out.below HBr.out hlt1
          have HB8 := Lib.hid (HB1.out.trans (HBr.out.mono (Nat.le_of_lt hlt1)))
          have p0 := HRr.out.parts.1
          have p1 := HRr.out.parts.2.1
          have p2 := HRr.out.parts.2.2.1
          have p3 := HRr.out.parts.2.2.2.1
          have z0 := HZ8.out.frozen 0
          have z1 := HZ8.out.frozen 1
          have z2 := HZ8.out.frozen 2
          have z3 := HZ8.out.frozen 3
          have y0 := HZ8.out.cell 0
          have y1 := HZ8.out.cell 1
          have y2 := HZ8.out.cell 2
          have y3 := HZ8.out.cell 3
          simp only [List.getElem?_toArray, List.getElem?_cons_zero, List.getElem?_cons_succ] at y0 y1 y2 y3
          obtain ⟨ra, rc, rfl⟩ := HRRr.out.slice
          go_wp2
          have bF := ((((HZ8.out.set 0 (.int .i64 st.k)).set 1 (.int .i64 st.n)).set 2 (.bool st.x)).set 3 (.slice ra st.rules.length rc))
          have hF := ((((HB8.out.setCell (p := ⟨w.heap.size, 0, none⟩) (Nat.le_refl _) (.int .i64 st.k)).setCell (p := ⟨w.heap.size, 1, none⟩) (Nat.le_refl _) (.int .i64 st.n)).setCell (p := ⟨w.heap.size, 2, none⟩) (Nat.le_refl _) (.bool st.x)).setCell (p := ⟨w.heap.size, 3, none⟩) (Nat.le_refl _) (.slice ra st.rules.length rc))
          have e0 := bF.cell 0
          have e1 := bF.cell 1
          have e2 := bF.cell 2
          have e3 := bF.cell 3
          simp at e0 e1 e2 e3
          refine bodyPost_ret (v := .tuple #[PolV st.k st.n st.x (.slice ra st.rules.length rc), .int .i64 0, .int .i64 0]) (by simp [results, PolV, Tryz.results9, go_sem, e0, e1, e2, e3]) rfl ?_
          have hq := (((HRRr.out.setO (g := w.heap.size) (j := 0) (u := .int .i64 st.k) HZ8.out (by decide) (by decide)).setO (g := w.heap.size) (j := 1) (u := .int .i64 st.n) (HZ8.out.set 0 _) (by decide) (by decide)).setO (g := w.heap.size) (j := 2) (u := .bool st.x) ((HZ8.out.set 0 _).set 1 _) (by decide) (by decide)).setO (g := w.heap.size) (j := 3) (u := .slice ra st.rules.length rc) (((HZ8.out.set 0 _).set 1 _).set 2 _) (by decide) (by decide)
          exact parse_post HA.out (hq.lo (by omega)) hF
end Go.Proofs.YtmjipkdejggbfaaGreatDoor
