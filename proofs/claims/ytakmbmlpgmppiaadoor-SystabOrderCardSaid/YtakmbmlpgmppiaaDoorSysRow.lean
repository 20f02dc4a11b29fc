/- strainerref11.row: what is wrong with a row, with those ahead. -/
import Derived.Test.YtakmbmlpgmppiaaDoorSysRName
namespace Go.Proofs.YtakmbmlpgmppiaaDoor
open Go Go.Proofs Go.RowKit

def inR (x : Int) : Prop := -1 ≤ x ∧ x ≤ 1073741823
def muxOk (r : SRow) : Prop := 0 ≤ r.mux ∧ r.mux ≤ 2 ∧ (r.mux = 0 → r.sub = 0) ∧ (0 < r.mux → 1 ≤ r.sub ∧ r.sub ≤ 255)
def rngOk (r : SRow) : Prop := (∀ a, a < 5 → inR (r.num a)) ∧ muxOk r
def muxNo (r : SRow) : Prop := r.n2 = 102 ∨ r.n2 = 117
/-- Row k has a number of row r's, or its multiplexer's. -/
def clash (x r : SRow) : Prop := (∃ a, a < 5 ∧ 0 ≤ r.num a ∧ x.num a = r.num a) ∨ (0 < r.mux ∧ x.mux = r.mux ∧ x.sub = r.sub)
/-- The order of names. -/
def nameGe (l : List SRow) (i : Nat) : Prop := 0 < i ∧ Op.bytesLess (l[i - 1]!).name.toList (l[i]!).name.toList = false
def RowSaid (l : List SRow) (i : Nat) (v : Int) : Prop :=
  (v = 13 ∧ ¬ refNameP (l[i]!).name) ∨
  (refNameP (l[i]!).name ∧
    ((v = 15 ∧ nameGe l i) ∨
     (¬ nameGe l i ∧
       ((v = 16 ∧ ¬ rngOk l[i]!) ∨
        (rngOk l[i]! ∧
          ((v = 17 ∧ muxNo l[i]!) ∨
           (¬ muxNo l[i]! ∧
             ((v = 15 ∧ ∃ k, k < i ∧ clash l[k]! l[i]!) ∨ (v = 0 ∧ ∀ k, k < i → ¬ clash l[k]! l[i]!)))))))))

set_option maxRecDepth 100000 in
set_option maxHeartbeats 3000000 in
theorem row_at (b off c i : Nat) (l : List SRow) (w : World) (hbig : l.length ≤ 1000000) (hi : i < l.length) (hb : b < w.heap.size) (hr : RowsAt w b off l) :
    Calls Tryd.prog 23 #[.slice (some ⟨b, off, none⟩) l.length c, .int .i64 i] w fun e w' => ∃ v, e = .returned (.int .i64 v) ∧ RowSaid l i v ∧ Below w.heap.size w w' := by
  have c0 := hr i hi 0 _ rfl
  have c1 := hr i hi 1 _ rfl
  have c2 := hr i hi 2 _ rfl
  have c3 := hr i hi 3 _ rfl
  have c4 := hr i hi 4 _ rfl
  have c5 := hr i hi 5 _ rfl
  have c6 := hr i hi 6 _ rfl
  have c7 := hr i hi 7 _ rfl
  simp only [Nat.add_zero] at c0
  have Hr := Lib.hid hr
  clear hr
  generalize hy : l[i]! = y at c0 c1 c2 c3 c4 c5 c6 c7
  have Hy := Lib.hid hy
  clear hy
  have q0 : (0 : Int) ≤ (i : Int) := by omega
  have q1 : (i : Int) < (l.length : Int) := by omega
  obtain ⟨n, hn⟩ : ∃ n, l.length = n := ⟨_, rfl⟩
  rw [hn] at hbig q1 hi ⊢
  have Hn := Lib.hid hn
  clear hn
  go_enter Tryd.func23, Tryd.ntmps23
  go_wp2_with fail
  refine (refName_any _ _).mono ?_
  rintro e w1 ⟨v, rfl, hv, m, rfl⟩
  cases v with
  | false =>
    go_wp2
    go_ret
    exact ⟨13, rfl, .inl ⟨rfl, fun h => by rw [Hy.out] at h; exact absurd (hv.2 h) (by simp)⟩, below_drewN ((Below.refl _ w).alloc (Nat.le_refl _) _) _⟩
  | true =>
    have HV := Lib.hid (hv.1 rfl)
    clear hv
    have bR : Blk ((w.alloc (.cells #[.string y.name, .int .i64 y.n0, .int .i64 y.n1, .int .i64 y.n2, .int .i64 y.n3, .int .i64 y.n4, .int .i64 y.mux, .int .i64 y.sub] 37)).drewN m) w.heap.size 37 #[.string y.name, .int .i64 y.n0, .int .i64 y.n1, .int .i64 y.n2, .int .i64 y.n3, .int .i64 y.n4, .int .i64 y.mux, .int .i64 y.sub] := Blk.new w 37 #[.string y.name, .int .i64 y.n0, .int .i64 y.n1, .int .i64 y.n2, .int .i64 y.n3, .int .i64 y.n4, .int .i64 y.mux, .int .i64 y.sub]
    have BW : Below w.heap.size w ((w.alloc (.cells #[.string y.name, .int .i64 y.n0, .int .i64 y.n1, .int .i64 y.n2, .int .i64 y.n3, .int .i64 y.n4, .int .i64 y.mux, .int .i64 y.sub] 37)).drewN m) := below_drewN ((Below.refl _ w).alloc (Nat.le_refl _) _) _
    generalize (w.alloc (.cells #[.string y.name, .int .i64 y.n0, .int .i64 y.n1, .int .i64 y.n2, .int .i64 y.n3, .int .i64 y.n4, .int .i64 y.mux, .int .i64 y.sub] 37)).drewN m = W0 at *
    clear c0 c1 c2 c3 c4 c5 c6 c7
    have t0 := bR.cell 0
    have t1 := bR.cell 1
    have t2 := bR.cell 2
    have t3 := bR.cell 3
    have t4 := bR.cell 4
    have t5 := bR.cell 5
    have t6 := bR.cell 6
    have t7 := bR.cell 7
    simp only [List.getElem?_toArray, List.getElem?_cons_zero, List.getElem?_cons_succ] at t0 t1 t2 t3 t4 t5 t6 t7
    by_cases hi0 : i = 0
    · subst hi0
      have g0 : decide ((0 : Int) < 0) = false := rfl
      have hng : ¬ nameGe l 0 := fun h => absurd h.1 (Nat.lt_irrefl 0)
      have bad16 : ¬ rngOk y → RowSaid l 0 16 := fun h => .inr ⟨by rw [Hy.out]; exact HV.out, .inr ⟨hng, .inl ⟨rfl, by rw [Hy.out]; exact h⟩⟩⟩
      have bad17 : rngOk y → muxNo y → RowSaid l 0 17 := fun h h2 => .inr ⟨by rw [Hy.out]; exact HV.out, .inr ⟨hng, .inr ⟨by rw [Hy.out]; exact h, .inl ⟨rfl, by rw [Hy.out]; exact h2⟩⟩⟩⟩
      have fine : rngOk y → ¬ muxNo y → RowSaid l 0 0 := fun h h2 => .inr ⟨by rw [Hy.out]; exact HV.out, .inr ⟨hng, .inr ⟨by rw [Hy.out]; exact h, .inr ⟨by rw [Hy.out]; exact h2, .inr ⟨rfl, fun k hk => absurd hk (Nat.not_lt_zero k)⟩⟩⟩⟩⟩
      go_wp2_with fail
      go_quiet (fail)
      replace bR : Blk (W0.drewN nq) _ _ _ := bR
      replace BW : Below _ _ (W0.drewN nq) := below_drewN BW nq
      clear t0 t1 t2 t3 t4 t5 t6 t7
      generalize W0.drewN nq = W at *
      have t0 := bR.cell 0
      have t1 := bR.cell 1
      have t2 := bR.cell 2
      have t3 := bR.cell 3
      have t4 := bR.cell 4
      have t5 := bR.cell 5
      have t6 := bR.cell 6
      have t7 := bR.cell 7
      simp only [List.getElem?_toArray, List.getElem?_cons_zero, List.getElem?_cons_succ] at t0 t1 t2 t3 t4 t5 t6 t7
      go_wp2
      go_loopg [6] 5 (fun gg s6 wr => W = wr ∧ ∃ kk : Nat, kk ≤ 5 ∧ 5 - kk ≤ gg ∧ s6 = .int .i64 kk ∧ Hid (∀ a, a < kk → inR (y.num a)))
      case atStart => exact ⟨rfl, 0, by omega, by omega, rfl, fun a ha => absurd ha (Nat.not_lt_zero _)⟩
      case round =>
        obtain ⟨rfl, kk, hkk, hg, rfl, A⟩ := hrel
        rcases kk with _ | _ | _ | _ | _ | _ | kk
        · by_cases z1 : y.n0 < -1
          · have z1' : decide (y.n0 < -1) = true := decide_eq_true z1
            go_wp2
            go_ret
            exact ⟨16, rfl, bad16 (fun h => by have := h.1 0 (by omega); simp only [inR, SRow.num] at this; omega), BW⟩
          · have z1' : decide (y.n0 < -1) = false := decide_eq_false z1
            by_cases z2 : (1073741823 : Int) < y.n0
            · have z2' : decide ((1073741823 : Int) < y.n0) = true := decide_eq_true z2
              go_wp2
              go_ret
              exact ⟨16, rfl, bad16 (fun h => by have := h.1 0 (by omega); simp only [inR, SRow.num] at this; omega), BW⟩
            · have z2' : decide ((1073741823 : Int) < y.n0) = false := decide_eq_false z2
              go_wp2
              go_roundg (5 - 1)
              case measure => omega
              case rel =>
                refine ⟨rfl, 1, by omega, by omega, rfl, (show Hid _ from fun a ha => ?_)⟩
                by_cases e : a = 0
                · subst e; simp only [inR, SRow.num]; omega
                · exact A.out a (by omega)
        · by_cases z1 : y.n1 < -1
          · have z1' : decide (y.n1 < -1) = true := decide_eq_true z1
            go_wp2
            go_ret
            exact ⟨16, rfl, bad16 (fun h => by have := h.1 1 (by omega); simp only [inR, SRow.num] at this; omega), BW⟩
          · have z1' : decide (y.n1 < -1) = false := decide_eq_false z1
            by_cases z2 : (1073741823 : Int) < y.n1
            · have z2' : decide ((1073741823 : Int) < y.n1) = true := decide_eq_true z2
              go_wp2
              go_ret
              exact ⟨16, rfl, bad16 (fun h => by have := h.1 1 (by omega); simp only [inR, SRow.num] at this; omega), BW⟩
            · have z2' : decide ((1073741823 : Int) < y.n1) = false := decide_eq_false z2
              go_wp2
              go_roundg (5 - 2)
              case measure => omega
              case rel =>
                refine ⟨rfl, 2, by omega, by omega, rfl, (show Hid _ from fun a ha => ?_)⟩
                by_cases e : a = 1
                · subst e; simp only [inR, SRow.num]; omega
                · exact A.out a (by omega)
        · by_cases z1 : y.n2 < -1
          · have z1' : decide (y.n2 < -1) = true := decide_eq_true z1
            go_wp2
            go_ret
            exact ⟨16, rfl, bad16 (fun h => by have := h.1 2 (by omega); simp only [inR, SRow.num] at this; omega), BW⟩
          · have z1' : decide (y.n2 < -1) = false := decide_eq_false z1
            by_cases z2 : (1073741823 : Int) < y.n2
            · have z2' : decide ((1073741823 : Int) < y.n2) = true := decide_eq_true z2
              go_wp2
              go_ret
              exact ⟨16, rfl, bad16 (fun h => by have := h.1 2 (by omega); simp only [inR, SRow.num] at this; omega), BW⟩
            · have z2' : decide ((1073741823 : Int) < y.n2) = false := decide_eq_false z2
              go_wp2
              go_roundg (5 - 3)
              case measure => omega
              case rel =>
                refine ⟨rfl, 3, by omega, by omega, rfl, (show Hid _ from fun a ha => ?_)⟩
                by_cases e : a = 2
                · subst e; simp only [inR, SRow.num]; omega
                · exact A.out a (by omega)
        · by_cases z1 : y.n3 < -1
          · have z1' : decide (y.n3 < -1) = true := decide_eq_true z1
            go_wp2
            go_ret
            exact ⟨16, rfl, bad16 (fun h => by have := h.1 3 (by omega); simp only [inR, SRow.num] at this; omega), BW⟩
          · have z1' : decide (y.n3 < -1) = false := decide_eq_false z1
            by_cases z2 : (1073741823 : Int) < y.n3
            · have z2' : decide ((1073741823 : Int) < y.n3) = true := decide_eq_true z2
              go_wp2
              go_ret
              exact ⟨16, rfl, bad16 (fun h => by have := h.1 3 (by omega); simp only [inR, SRow.num] at this; omega), BW⟩
            · have z2' : decide ((1073741823 : Int) < y.n3) = false := decide_eq_false z2
              go_wp2
              go_roundg (5 - 4)
              case measure => omega
              case rel =>
                refine ⟨rfl, 4, by omega, by omega, rfl, (show Hid _ from fun a ha => ?_)⟩
                by_cases e : a = 3
                · subst e; simp only [inR, SRow.num]; omega
                · exact A.out a (by omega)
        · by_cases z1 : y.n4 < -1
          · have z1' : decide (y.n4 < -1) = true := decide_eq_true z1
            go_wp2
            go_ret
            exact ⟨16, rfl, bad16 (fun h => by have := h.1 4 (by omega); simp only [inR, SRow.num] at this; omega), BW⟩
          · have z1' : decide (y.n4 < -1) = false := decide_eq_false z1
            by_cases z2 : (1073741823 : Int) < y.n4
            · have z2' : decide ((1073741823 : Int) < y.n4) = true := decide_eq_true z2
              go_wp2
              go_ret
              exact ⟨16, rfl, bad16 (fun h => by have := h.1 4 (by omega); simp only [inR, SRow.num] at this; omega), BW⟩
            · have z2' : decide ((1073741823 : Int) < y.n4) = false := decide_eq_false z2
              go_wp2
              go_roundg (5 - 5)
              case measure => omega
              case rel =>
                refine ⟨rfl, 5, by omega, by omega, rfl, (show Hid _ from fun a ha => ?_)⟩
                by_cases e : a = 4
                · subst e; simp only [inR, SRow.num]; omega
                · exact A.out a (by omega)
        · have R1 : Hid (∀ a, a < 5 → inR (y.num a)) := A
          clear A
          by_cases m1 : y.mux < 0
          · have m1' : decide (y.mux < 0) = true := decide_eq_true m1
            go_wp2
            go_ret
            exact ⟨16, rfl, bad16 (fun h => by have := h.2; unfold muxOk at this; omega), BW⟩
          · have m1' : decide (y.mux < 0) = false := decide_eq_false m1
            by_cases m2 : 2 < y.mux
            · have m2' : decide (2 < y.mux) = true := decide_eq_true m2
              go_wp2
              go_ret
              exact ⟨16, rfl, bad16 (fun h => by have := h.2; unfold muxOk at this; omega), BW⟩
            · have m2' : decide (2 < y.mux) = false := decide_eq_false m2
              by_cases m3 : y.mux = 0
              · have m3' : (y.mux == 0) = true := by simpa using m3
                have m5' : decide (0 < y.mux) = false := decide_eq_false (by omega)
                by_cases m4 : y.sub = 0
                · have m4' : (y.sub != 0) = false := by simpa using m4
                  have HM : Hid (muxOk y) := ⟨by omega, by omega, fun _ => m4, fun h => absurd h (by omega)⟩
                  have m8 : y.mux ≤ 0 := by omega
                  clear m3 m4
                  by_cases n1 : y.n2 = 102
                  · have n1' : (y.n2 == 102) = true := by simpa using n1
                    go_wp2
                    go_ret
                    exact ⟨17, rfl, bad17 ⟨R1.out, HM.out⟩ (by unfold muxNo; omega), BW⟩
                  · have n1' : (y.n2 == 102) = false := by simpa using n1
                    by_cases n2 : y.n2 = 117
                    · have n2' : (y.n2 == 117) = true := by simpa using n2
                      go_wp2
                      go_ret
                      exact ⟨17, rfl, bad17 ⟨R1.out, HM.out⟩ (by unfold muxNo; omega), BW⟩
                    · have n2' : (y.n2 == 117) = false := by simpa using n2
                      have HN : Hid (¬ muxNo y) := (show ¬ (y.n2 = 102 ∨ y.n2 = 117) by omega)
                      clear n1 n2
                      go_wp2
                      go_loop [7] (fun s7 => s7 = .int .i64 0) (fun _ => 0)
                      case atStart => rfl
                      case round =>
                        obtain rfl := hrel
                        go_wp2
                        go_ret
                        exact ⟨0, rfl, fine ⟨R1.out, HM.out⟩ HN.out, BW⟩
                · have m4' : (y.sub != 0) = true := by simpa using m4
                  go_wp2
                  go_ret
                  exact ⟨16, rfl, bad16 (fun h => by have := h.2; unfold muxOk at this; omega), BW⟩
              · have m3' : (y.mux == 0) = false := by simpa using m3
                have m5' : decide (0 < y.mux) = true := decide_eq_true (by omega)
                by_cases m6 : y.sub < 1
                · have m6' : decide (y.sub < 1) = true := decide_eq_true m6
                  go_wp2
                  go_ret
                  exact ⟨16, rfl, bad16 (fun h => by have := h.2; unfold muxOk at this; omega), BW⟩
                · have m6' : decide (y.sub < 1) = false := decide_eq_false m6
                  by_cases m7 : 255 < y.sub
                  · have m7' : decide (255 < y.sub) = true := decide_eq_true m7
                    go_wp2
                    go_ret
                    exact ⟨16, rfl, bad16 (fun h => by have := h.2; unfold muxOk at this; omega), BW⟩
                  · have m7' : decide (255 < y.sub) = false := decide_eq_false m7
                    have HM : Hid (muxOk y) := ⟨by omega, by omega, fun h => absurd h m3, fun _ => ⟨by omega, by omega⟩⟩
                    by_cases n1 : y.n2 = 102
                    · have n1' : (y.n2 == 102) = true := by simpa using n1
                      go_wp2
                      go_ret
                      exact ⟨17, rfl, bad17 ⟨R1.out, HM.out⟩ (by unfold muxNo; omega), BW⟩
                    · have n1' : (y.n2 == 102) = false := by simpa using n1
                      by_cases n2 : y.n2 = 117
                      · have n2' : (y.n2 == 117) = true := by simpa using n2
                        go_wp2
                        go_ret
                        exact ⟨17, rfl, bad17 ⟨R1.out, HM.out⟩ (by unfold muxNo; omega), BW⟩
                      · have n2' : (y.n2 == 117) = false := by simpa using n2
                        have HN : Hid (¬ muxNo y) := (show ¬ (y.n2 = 102 ∨ y.n2 = 117) by omega)
                        clear n1 n2
                        go_wp2
                        go_loop [7] (fun s7 => s7 = .int .i64 0) (fun _ => 0)
                        case atStart => rfl
                        case round =>
                          obtain rfl := hrel
                          go_wp2
                          go_ret
                          exact ⟨0, rfl, fine ⟨R1.out, HM.out⟩ HN.out, BW⟩
        · omega
    · obtain ⟨j, hj⟩ : ∃ j, i = j + 1 := ⟨i - 1, by omega⟩
      have g0 : decide ((0 : Int) < (i : Int)) = true := decide_eq_true (by omega)
      have hip : 0 < i := by omega
      have g0n : decide (0 < i) = true := decide_eq_true hip
      have hidx : (i : Int) - 1 = (j : Int) := by omega
      have j0 : (0 : Int) ≤ (j : Int) := by omega
      have j1 : (j : Int) < (n : Int) := by omega
      have hprev := (Hr.out.below BW hb).nameCell (j := j) (by rw [Hn.out]; omega)
      generalize hpn : (l[j]!).name = pn at hprev
      have Hpn := Lib.hid hpn
      clear hpn
      have hge : nameGe l i ↔ Op.bytesLess pn.toList y.name.toList = false := by
        unfold nameGe
        rw [show i - 1 = j by omega, Hpn.out, Hy.out]
        exact ⟨fun h => h.2, fun h => ⟨by omega, h⟩⟩
      clear hj
      cases hbl : Op.bytesLess pn.toList y.name.toList with
      | false =>
        have HG : Hid (nameGe l i) := hge.2 hbl
        clear hge
        go_wp2_with fail
        go_quiet (fail)
        go_wp2
        go_ret
        exact ⟨15, rfl, .inr ⟨by rw [Hy.out]; exact HV.out, .inl ⟨rfl, HG.out⟩⟩, below_drewN BW _⟩
      | true =>
        have HG : Hid (¬ nameGe l i) := fun h => by rw [hge, hbl] at h; cases h
        clear hge
        have bad16 : ¬ rngOk y → RowSaid l i 16 := fun h => .inr ⟨by rw [Hy.out]; exact HV.out, .inr ⟨HG.out, .inl ⟨rfl, by rw [Hy.out]; exact h⟩⟩⟩
        have bad17 : rngOk y → muxNo y → RowSaid l i 17 := fun h h2 => .inr ⟨by rw [Hy.out]; exact HV.out, .inr ⟨HG.out, .inr ⟨by rw [Hy.out]; exact h, .inl ⟨rfl, by rw [Hy.out]; exact h2⟩⟩⟩⟩
        have badc : rngOk y → ¬ muxNo y → ∀ k, k < i → clash l[k]! y → RowSaid l i 15 := fun h h2 k hk hc => .inr ⟨by rw [Hy.out]; exact HV.out, .inr ⟨HG.out, .inr ⟨by rw [Hy.out]; exact h, .inr ⟨by rw [Hy.out]; exact h2, .inl ⟨rfl, k, hk, by rw [Hy.out]; exact hc⟩⟩⟩⟩⟩
        have fine : rngOk y → ¬ muxNo y → (∀ k, k < i → ¬ clash l[k]! l[i]!) → RowSaid l i 0 := fun h h2 h3 => .inr ⟨by rw [Hy.out]; exact HV.out, .inr ⟨HG.out, .inr ⟨by rw [Hy.out]; exact h, .inr ⟨by rw [Hy.out]; exact h2, .inr ⟨rfl, h3⟩⟩⟩⟩⟩
        go_wp2_with fail
        go_quiet (fail)
        replace bR : Blk (W0.drewN nq) _ _ _ := bR
        replace BW : Below _ _ (W0.drewN nq) := below_drewN BW nq
        clear t0 t1 t2 t3 t4 t5 t6 t7 hprev hidx j0 j1 hbl
        generalize W0.drewN nq = W at *
        have t0 := bR.cell 0
        have t1 := bR.cell 1
        have t2 := bR.cell 2
        have t3 := bR.cell 3
        have t4 := bR.cell 4
        have t5 := bR.cell 5
        have t6 := bR.cell 6
        have t7 := bR.cell 7
        simp only [List.getElem?_toArray, List.getElem?_cons_zero, List.getElem?_cons_succ] at t0 t1 t2 t3 t4 t5 t6 t7
        go_wp2
        go_loopg [6] 5 (fun gg s6 wr => W = wr ∧ ∃ kk : Nat, kk ≤ 5 ∧ 5 - kk ≤ gg ∧ s6 = .int .i64 kk ∧ Hid (∀ a, a < kk → inR (y.num a)))
        case atStart => exact ⟨rfl, 0, by omega, by omega, rfl, fun a ha => absurd ha (Nat.not_lt_zero _)⟩
        case round =>
          obtain ⟨rfl, kk, hkk, hg, rfl, A⟩ := hrel
          rcases kk with _ | _ | _ | _ | _ | _ | kk
          · by_cases z1 : y.n0 < -1
            · have z1' : decide (y.n0 < -1) = true := decide_eq_true z1
              go_wp2
              go_ret
              exact ⟨16, rfl, bad16 (fun h => by have := h.1 0 (by omega); simp only [inR, SRow.num] at this; omega), BW⟩
            · have z1' : decide (y.n0 < -1) = false := decide_eq_false z1
              by_cases z2 : (1073741823 : Int) < y.n0
              · have z2' : decide ((1073741823 : Int) < y.n0) = true := decide_eq_true z2
                go_wp2
                go_ret
                exact ⟨16, rfl, bad16 (fun h => by have := h.1 0 (by omega); simp only [inR, SRow.num] at this; omega), BW⟩
              · have z2' : decide ((1073741823 : Int) < y.n0) = false := decide_eq_false z2
                go_wp2
                go_roundg (5 - 1)
                case measure => omega
                case rel =>
                  refine ⟨rfl, 1, by omega, by omega, rfl, (show Hid _ from fun a ha => ?_)⟩
                  by_cases e : a = 0
                  · subst e; simp only [inR, SRow.num]; omega
                  · exact A.out a (by omega)
          · by_cases z1 : y.n1 < -1
            · have z1' : decide (y.n1 < -1) = true := decide_eq_true z1
              go_wp2
              go_ret
              exact ⟨16, rfl, bad16 (fun h => by have := h.1 1 (by omega); simp only [inR, SRow.num] at this; omega), BW⟩
            · have z1' : decide (y.n1 < -1) = false := decide_eq_false z1
              by_cases z2 : (1073741823 : Int) < y.n1
              · have z2' : decide ((1073741823 : Int) < y.n1) = true := decide_eq_true z2
                go_wp2
                go_ret
                exact ⟨16, rfl, bad16 (fun h => by have := h.1 1 (by omega); simp only [inR, SRow.num] at this; omega), BW⟩
              · have z2' : decide ((1073741823 : Int) < y.n1) = false := decide_eq_false z2
                go_wp2
                go_roundg (5 - 2)
                case measure => omega
                case rel =>
                  refine ⟨rfl, 2, by omega, by omega, rfl, (show Hid _ from fun a ha => ?_)⟩
                  by_cases e : a = 1
                  · subst e; simp only [inR, SRow.num]; omega
                  · exact A.out a (by omega)
          · by_cases z1 : y.n2 < -1
            · have z1' : decide (y.n2 < -1) = true := decide_eq_true z1
              go_wp2
              go_ret
              exact ⟨16, rfl, bad16 (fun h => by have := h.1 2 (by omega); simp only [inR, SRow.num] at this; omega), BW⟩
            · have z1' : decide (y.n2 < -1) = false := decide_eq_false z1
              by_cases z2 : (1073741823 : Int) < y.n2
              · have z2' : decide ((1073741823 : Int) < y.n2) = true := decide_eq_true z2
                go_wp2
                go_ret
                exact ⟨16, rfl, bad16 (fun h => by have := h.1 2 (by omega); simp only [inR, SRow.num] at this; omega), BW⟩
              · have z2' : decide ((1073741823 : Int) < y.n2) = false := decide_eq_false z2
                go_wp2
                go_roundg (5 - 3)
                case measure => omega
                case rel =>
                  refine ⟨rfl, 3, by omega, by omega, rfl, (show Hid _ from fun a ha => ?_)⟩
                  by_cases e : a = 2
                  · subst e; simp only [inR, SRow.num]; omega
                  · exact A.out a (by omega)
          · by_cases z1 : y.n3 < -1
            · have z1' : decide (y.n3 < -1) = true := decide_eq_true z1
              go_wp2
              go_ret
              exact ⟨16, rfl, bad16 (fun h => by have := h.1 3 (by omega); simp only [inR, SRow.num] at this; omega), BW⟩
            · have z1' : decide (y.n3 < -1) = false := decide_eq_false z1
              by_cases z2 : (1073741823 : Int) < y.n3
              · have z2' : decide ((1073741823 : Int) < y.n3) = true := decide_eq_true z2
                go_wp2
                go_ret
                exact ⟨16, rfl, bad16 (fun h => by have := h.1 3 (by omega); simp only [inR, SRow.num] at this; omega), BW⟩
              · have z2' : decide ((1073741823 : Int) < y.n3) = false := decide_eq_false z2
                go_wp2
                go_roundg (5 - 4)
                case measure => omega
                case rel =>
                  refine ⟨rfl, 4, by omega, by omega, rfl, (show Hid _ from fun a ha => ?_)⟩
                  by_cases e : a = 3
                  · subst e; simp only [inR, SRow.num]; omega
                  · exact A.out a (by omega)
          · by_cases z1 : y.n4 < -1
            · have z1' : decide (y.n4 < -1) = true := decide_eq_true z1
              go_wp2
              go_ret
              exact ⟨16, rfl, bad16 (fun h => by have := h.1 4 (by omega); simp only [inR, SRow.num] at this; omega), BW⟩
            · have z1' : decide (y.n4 < -1) = false := decide_eq_false z1
              by_cases z2 : (1073741823 : Int) < y.n4
              · have z2' : decide ((1073741823 : Int) < y.n4) = true := decide_eq_true z2
                go_wp2
                go_ret
                exact ⟨16, rfl, bad16 (fun h => by have := h.1 4 (by omega); simp only [inR, SRow.num] at this; omega), BW⟩
              · have z2' : decide ((1073741823 : Int) < y.n4) = false := decide_eq_false z2
                go_wp2
                go_roundg (5 - 5)
                case measure => omega
                case rel =>
                  refine ⟨rfl, 5, by omega, by omega, rfl, (show Hid _ from fun a ha => ?_)⟩
                  by_cases e : a = 4
                  · subst e; simp only [inR, SRow.num]; omega
                  · exact A.out a (by omega)
          · have R1 : Hid (∀ a, a < 5 → inR (y.num a)) := A
            clear A
            by_cases m1 : y.mux < 0
            · have m1' : decide (y.mux < 0) = true := decide_eq_true m1
              go_wp2
              go_ret
              exact ⟨16, rfl, bad16 (fun h => by have := h.2; unfold muxOk at this; omega), BW⟩
            · have m1' : decide (y.mux < 0) = false := decide_eq_false m1
              by_cases m2 : 2 < y.mux
              · have m2' : decide (2 < y.mux) = true := decide_eq_true m2
                go_wp2
                go_ret
                exact ⟨16, rfl, bad16 (fun h => by have := h.2; unfold muxOk at this; omega), BW⟩
              · have m2' : decide (2 < y.mux) = false := decide_eq_false m2
                by_cases m3 : y.mux = 0
                · have m3' : (y.mux == 0) = true := by simpa using m3
                  have m5' : decide (0 < y.mux) = false := decide_eq_false (by omega)
                  by_cases m4 : y.sub = 0
                  · have m4' : (y.sub != 0) = false := by simpa using m4
                    have HM : Hid (muxOk y) := ⟨by omega, by omega, fun _ => m4, fun h => absurd h (by omega)⟩
                    have m8 : y.mux ≤ 0 := by omega
                    clear m3 m4
                    by_cases n1 : y.n2 = 102
                    · have n1' : (y.n2 == 102) = true := by simpa using n1
                      go_wp2
                      go_ret
                      exact ⟨17, rfl, bad17 ⟨R1.out, HM.out⟩ (by unfold muxNo; omega), BW⟩
                    · have n1' : (y.n2 == 102) = false := by simpa using n1
                      by_cases n2 : y.n2 = 117
                      · have n2' : (y.n2 == 117) = true := by simpa using n2
                        go_wp2
                        go_ret
                        exact ⟨17, rfl, bad17 ⟨R1.out, HM.out⟩ (by unfold muxNo; omega), BW⟩
                      · have n2' : (y.n2 == 117) = false := by simpa using n2
                        have HN : Hid (¬ muxNo y) := (show ¬ (y.n2 = 102 ∨ y.n2 = 117) by omega)
                        clear n1 n2
                        go_wp2
                        go_loopg [7] i (fun gg s7 wr => ∃ kk : Nat, kk ≤ i ∧ i - kk ≤ gg ∧ s7 = .int .i64 kk ∧ Hid (∃ m, wr = W.drewN m) ∧ Hid (∀ k, k < kk → ¬ clash l[k]! y))
                        case atStart => exact ⟨0, by omega, by omega, rfl, ⟨0, rfl⟩, fun k hk => absurd hk (Nat.not_lt_zero _)⟩
                        case round =>
                          obtain ⟨kk, hkk, hg, rfl, BM, A⟩ := hrel
                          obtain ⟨m, rfl⟩ := BM.out
                          clear BM
                          by_cases hlt : kk < i
                          · have hltz : (kk : Int) < (i : Int) := by omega
                            have hltn : (kk : Int) < (n : Int) := by omega
                            have hrow := (Hr.out.below BW hb) kk (by rw [Hn.out]; omega)
                            generalize hx : l[kk]! = x at hrow
                            have Hx := Lib.hid hx
                            clear hx
                            have x1 := hrow 1 _ rfl
                            have x2 := hrow 2 _ rfl
                            have x3 := hrow 3 _ rfl
                            have x4 := hrow 4 _ rfl
                            have x5 := hrow 5 _ rfl
                            have x6 := hrow 6 _ rfl
                            have x7 := hrow 7 _ rfl
                            clear hrow
                            go_wp2
                            go_loopg [8] 5 (fun gg s8 wr => ∃ kk2 : Nat, kk2 ≤ 5 ∧ 5 - kk2 ≤ gg ∧ s8 = .int .i64 kk2 ∧ Hid (∃ m, wr = W.drewN m) ∧ Hid (∀ a, a < kk2 → ¬ (0 ≤ y.num a ∧ x.num a = y.num a)))
                            case atStart => exact ⟨0, by omega, by omega, rfl, ⟨m, rfl⟩, fun a ha => absurd ha (Nat.not_lt_zero _)⟩
                            case round =>
                              obtain ⟨kk2, hkk2, hg2, rfl, BM2, A2⟩ := hrel
                              obtain ⟨m2, rfl⟩ := BM2.out
                              clear BM2
                              rcases kk2 with _ | _ | _ | _ | _ | _ | kk2
                              · by_cases z1 : 0 ≤ y.n0
                                · have z1' : decide (0 ≤ y.n0) = true := decide_eq_true z1
                                  by_cases z2 : x.n0 = y.n0
                                  · have z2' : (x.n0 == y.n0) = true := by simpa using z2
                                    have HC : Hid (clash x y) := .inl ⟨0, by omega, z1, z2⟩
                                    clear z2
                                    go_wp2_with fail
                                    go_quiet (fail)
                                    go_wp2
                                    go_ret
                                    exact ⟨15, rfl, badc ⟨R1.out, HM.out⟩ HN.out kk hlt (by rw [Hx.out]; exact HC.out), below_drewN (below_drewN BW _) _⟩
                                  · have z2' : (x.n0 == y.n0) = false := by simpa using z2
                                    go_wp2_with fail
                                    go_quiet (fail)
                                    go_wp2
                                    go_roundg (5 - 1)
                                    case measure => omega
                                    case rel =>
                                      refine ⟨1, by omega, by omega, rfl, ⟨_, rfl⟩, (show Hid _ from fun a ha => ?_)⟩
                                      by_cases e : a = 0
                                      · subst e; exact fun h => z2 h.2
                                      · exact A2.out a (by omega)
                                · have z1' : decide (0 ≤ y.n0) = false := decide_eq_false z1
                                  go_wp2_with fail
                                  go_quiet (fail)
                                  go_wp2
                                  go_roundg (5 - 1)
                                  case measure => omega
                                  case rel =>
                                    refine ⟨1, by omega, by omega, rfl, ⟨_, rfl⟩, (show Hid _ from fun a ha => ?_)⟩
                                    by_cases e : a = 0
                                    · subst e; exact fun h => by have h1 := h.1; simp only [SRow.num] at h1; omega
                                    · exact A2.out a (by omega)
                              · by_cases z1 : 0 ≤ y.n1
                                · have z1' : decide (0 ≤ y.n1) = true := decide_eq_true z1
                                  by_cases z2 : x.n1 = y.n1
                                  · have z2' : (x.n1 == y.n1) = true := by simpa using z2
                                    have HC : Hid (clash x y) := .inl ⟨1, by omega, z1, z2⟩
                                    clear z2
                                    go_wp2_with fail
                                    go_quiet (fail)
                                    go_wp2
                                    go_ret
                                    exact ⟨15, rfl, badc ⟨R1.out, HM.out⟩ HN.out kk hlt (by rw [Hx.out]; exact HC.out), below_drewN (below_drewN BW _) _⟩
                                  · have z2' : (x.n1 == y.n1) = false := by simpa using z2
                                    go_wp2_with fail
                                    go_quiet (fail)
                                    go_wp2
                                    go_roundg (5 - 2)
                                    case measure => omega
                                    case rel =>
                                      refine ⟨2, by omega, by omega, rfl, ⟨_, rfl⟩, (show Hid _ from fun a ha => ?_)⟩
                                      by_cases e : a = 1
                                      · subst e; exact fun h => z2 h.2
                                      · exact A2.out a (by omega)
                                · have z1' : decide (0 ≤ y.n1) = false := decide_eq_false z1
                                  go_wp2_with fail
                                  go_quiet (fail)
                                  go_wp2
                                  go_roundg (5 - 2)
                                  case measure => omega
                                  case rel =>
                                    refine ⟨2, by omega, by omega, rfl, ⟨_, rfl⟩, (show Hid _ from fun a ha => ?_)⟩
                                    by_cases e : a = 1
                                    · subst e; exact fun h => by have h1 := h.1; simp only [SRow.num] at h1; omega
                                    · exact A2.out a (by omega)
                              · by_cases z1 : 0 ≤ y.n2
                                · have z1' : decide (0 ≤ y.n2) = true := decide_eq_true z1
                                  by_cases z2 : x.n2 = y.n2
                                  · have z2' : (x.n2 == y.n2) = true := by simpa using z2
                                    have HC : Hid (clash x y) := .inl ⟨2, by omega, z1, z2⟩
                                    clear z2
                                    go_wp2_with fail
                                    go_quiet (fail)
                                    go_wp2
                                    go_ret
                                    exact ⟨15, rfl, badc ⟨R1.out, HM.out⟩ HN.out kk hlt (by rw [Hx.out]; exact HC.out), below_drewN (below_drewN BW _) _⟩
                                  · have z2' : (x.n2 == y.n2) = false := by simpa using z2
                                    go_wp2_with fail
                                    go_quiet (fail)
                                    go_wp2
                                    go_roundg (5 - 3)
                                    case measure => omega
                                    case rel =>
                                      refine ⟨3, by omega, by omega, rfl, ⟨_, rfl⟩, (show Hid _ from fun a ha => ?_)⟩
                                      by_cases e : a = 2
                                      · subst e; exact fun h => z2 h.2
                                      · exact A2.out a (by omega)
                                · have z1' : decide (0 ≤ y.n2) = false := decide_eq_false z1
                                  go_wp2_with fail
                                  go_quiet (fail)
                                  go_wp2
                                  go_roundg (5 - 3)
                                  case measure => omega
                                  case rel =>
                                    refine ⟨3, by omega, by omega, rfl, ⟨_, rfl⟩, (show Hid _ from fun a ha => ?_)⟩
                                    by_cases e : a = 2
                                    · subst e; exact fun h => by have h1 := h.1; simp only [SRow.num] at h1; omega
                                    · exact A2.out a (by omega)
                              · by_cases z1 : 0 ≤ y.n3
                                · have z1' : decide (0 ≤ y.n3) = true := decide_eq_true z1
                                  by_cases z2 : x.n3 = y.n3
                                  · have z2' : (x.n3 == y.n3) = true := by simpa using z2
                                    have HC : Hid (clash x y) := .inl ⟨3, by omega, z1, z2⟩
                                    clear z2
                                    go_wp2_with fail
                                    go_quiet (fail)
                                    go_wp2
                                    go_ret
                                    exact ⟨15, rfl, badc ⟨R1.out, HM.out⟩ HN.out kk hlt (by rw [Hx.out]; exact HC.out), below_drewN (below_drewN BW _) _⟩
                                  · have z2' : (x.n3 == y.n3) = false := by simpa using z2
                                    go_wp2_with fail
                                    go_quiet (fail)
                                    go_wp2
                                    go_roundg (5 - 4)
                                    case measure => omega
                                    case rel =>
                                      refine ⟨4, by omega, by omega, rfl, ⟨_, rfl⟩, (show Hid _ from fun a ha => ?_)⟩
                                      by_cases e : a = 3
                                      · subst e; exact fun h => z2 h.2
                                      · exact A2.out a (by omega)
                                · have z1' : decide (0 ≤ y.n3) = false := decide_eq_false z1
                                  go_wp2_with fail
                                  go_quiet (fail)
                                  go_wp2
                                  go_roundg (5 - 4)
                                  case measure => omega
                                  case rel =>
                                    refine ⟨4, by omega, by omega, rfl, ⟨_, rfl⟩, (show Hid _ from fun a ha => ?_)⟩
                                    by_cases e : a = 3
                                    · subst e; exact fun h => by have h1 := h.1; simp only [SRow.num] at h1; omega
                                    · exact A2.out a (by omega)
                              · by_cases z1 : 0 ≤ y.n4
                                · have z1' : decide (0 ≤ y.n4) = true := decide_eq_true z1
                                  by_cases z2 : x.n4 = y.n4
                                  · have z2' : (x.n4 == y.n4) = true := by simpa using z2
                                    have HC : Hid (clash x y) := .inl ⟨4, by omega, z1, z2⟩
                                    clear z2
                                    go_wp2_with fail
                                    go_quiet (fail)
                                    go_wp2
                                    go_ret
                                    exact ⟨15, rfl, badc ⟨R1.out, HM.out⟩ HN.out kk hlt (by rw [Hx.out]; exact HC.out), below_drewN (below_drewN BW _) _⟩
                                  · have z2' : (x.n4 == y.n4) = false := by simpa using z2
                                    go_wp2_with fail
                                    go_quiet (fail)
                                    go_wp2
                                    go_roundg (5 - 5)
                                    case measure => omega
                                    case rel =>
                                      refine ⟨5, by omega, by omega, rfl, ⟨_, rfl⟩, (show Hid _ from fun a ha => ?_)⟩
                                      by_cases e : a = 4
                                      · subst e; exact fun h => z2 h.2
                                      · exact A2.out a (by omega)
                                · have z1' : decide (0 ≤ y.n4) = false := decide_eq_false z1
                                  go_wp2_with fail
                                  go_quiet (fail)
                                  go_wp2
                                  go_roundg (5 - 5)
                                  case measure => omega
                                  case rel =>
                                    refine ⟨5, by omega, by omega, rfl, ⟨_, rfl⟩, (show Hid _ from fun a ha => ?_)⟩
                                    by_cases e : a = 4
                                    · subst e; exact fun h => by have h1 := h.1; simp only [SRow.num] at h1; omega
                                    · exact A2.out a (by omega)
                              · skip
                                go_wp2_with fail
                                go_quiet (fail)
                                go_wp2
                                go_roundg (i - (kk + 1))
                                case measure => omega
                                case rel =>
                                  refine ⟨kk + 1, by omega, by omega, by go_num, ⟨_, rfl⟩, (show Hid _ from fun k hk => ?_)⟩
                                  by_cases e : k = kk
                                  · subst e; rw [Hx.out]; exact (fun h => h.elim (fun ⟨a, ha, h1, h2⟩ => A2.out a ha ⟨h1, h2⟩) (fun h => absurd h.1 (by omega)))
                                  · exact A.out k (by omega)
                              · omega
                          · have hltz : ¬ (kk : Int) < (i : Int) := by omega
                            obtain rfl : kk = i := by omega
                            go_wp2
                            go_ret
                            exact ⟨0, rfl, fine ⟨R1.out, HM.out⟩ HN.out (by intro k hk; rw [Hy.out]; exact A.out k hk), below_drewN BW _⟩
                  · have m4' : (y.sub != 0) = true := by simpa using m4
                    go_wp2
                    go_ret
                    exact ⟨16, rfl, bad16 (fun h => by have := h.2; unfold muxOk at this; omega), BW⟩
                · have m3' : (y.mux == 0) = false := by simpa using m3
                  have m5' : decide (0 < y.mux) = true := decide_eq_true (by omega)
                  by_cases m6 : y.sub < 1
                  · have m6' : decide (y.sub < 1) = true := decide_eq_true m6
                    go_wp2
                    go_ret
                    exact ⟨16, rfl, bad16 (fun h => by have := h.2; unfold muxOk at this; omega), BW⟩
                  · have m6' : decide (y.sub < 1) = false := decide_eq_false m6
                    by_cases m7 : 255 < y.sub
                    · have m7' : decide (255 < y.sub) = true := decide_eq_true m7
                      go_wp2
                      go_ret
                      exact ⟨16, rfl, bad16 (fun h => by have := h.2; unfold muxOk at this; omega), BW⟩
                    · have m7' : decide (255 < y.sub) = false := decide_eq_false m7
                      have HM : Hid (muxOk y) := ⟨by omega, by omega, fun h => absurd h m3, fun _ => ⟨by omega, by omega⟩⟩
                      by_cases n1 : y.n2 = 102
                      · have n1' : (y.n2 == 102) = true := by simpa using n1
                        go_wp2
                        go_ret
                        exact ⟨17, rfl, bad17 ⟨R1.out, HM.out⟩ (by unfold muxNo; omega), BW⟩
                      · have n1' : (y.n2 == 102) = false := by simpa using n1
                        by_cases n2 : y.n2 = 117
                        · have n2' : (y.n2 == 117) = true := by simpa using n2
                          go_wp2
                          go_ret
                          exact ⟨17, rfl, bad17 ⟨R1.out, HM.out⟩ (by unfold muxNo; omega), BW⟩
                        · have n2' : (y.n2 == 117) = false := by simpa using n2
                          have HN : Hid (¬ muxNo y) := (show ¬ (y.n2 = 102 ∨ y.n2 = 117) by omega)
                          clear n1 n2
                          go_wp2
                          go_loopg [7] i (fun gg s7 wr => ∃ kk : Nat, kk ≤ i ∧ i - kk ≤ gg ∧ s7 = .int .i64 kk ∧ Hid (∃ m, wr = W.drewN m) ∧ Hid (∀ k, k < kk → ¬ clash l[k]! y))
                          case atStart => exact ⟨0, by omega, by omega, rfl, ⟨0, rfl⟩, fun k hk => absurd hk (Nat.not_lt_zero _)⟩
                          case round =>
                            obtain ⟨kk, hkk, hg, rfl, BM, A⟩ := hrel
                            obtain ⟨m, rfl⟩ := BM.out
                            clear BM
                            by_cases hlt : kk < i
                            · have hltz : (kk : Int) < (i : Int) := by omega
                              have hltn : (kk : Int) < (n : Int) := by omega
                              have hrow := (Hr.out.below BW hb) kk (by rw [Hn.out]; omega)
                              generalize hx : l[kk]! = x at hrow
                              have Hx := Lib.hid hx
                              clear hx
                              have x1 := hrow 1 _ rfl
                              have x2 := hrow 2 _ rfl
                              have x3 := hrow 3 _ rfl
                              have x4 := hrow 4 _ rfl
                              have x5 := hrow 5 _ rfl
                              have x6 := hrow 6 _ rfl
                              have x7 := hrow 7 _ rfl
                              clear hrow
                              go_wp2
                              go_loopg [8] 5 (fun gg s8 wr => ∃ kk2 : Nat, kk2 ≤ 5 ∧ 5 - kk2 ≤ gg ∧ s8 = .int .i64 kk2 ∧ Hid (∃ m, wr = W.drewN m) ∧ Hid (∀ a, a < kk2 → ¬ (0 ≤ y.num a ∧ x.num a = y.num a)))
                              case atStart => exact ⟨0, by omega, by omega, rfl, ⟨m, rfl⟩, fun a ha => absurd ha (Nat.not_lt_zero _)⟩
                              case round =>
                                obtain ⟨kk2, hkk2, hg2, rfl, BM2, A2⟩ := hrel
                                obtain ⟨m2, rfl⟩ := BM2.out
                                clear BM2
                                rcases kk2 with _ | _ | _ | _ | _ | _ | kk2
                                · by_cases z1 : 0 ≤ y.n0
                                  · have z1' : decide (0 ≤ y.n0) = true := decide_eq_true z1
                                    by_cases z2 : x.n0 = y.n0
                                    · have z2' : (x.n0 == y.n0) = true := by simpa using z2
                                      have HC : Hid (clash x y) := .inl ⟨0, by omega, z1, z2⟩
                                      clear z2
                                      go_wp2_with fail
                                      go_quiet (fail)
                                      go_wp2
                                      go_ret
                                      exact ⟨15, rfl, badc ⟨R1.out, HM.out⟩ HN.out kk hlt (by rw [Hx.out]; exact HC.out), below_drewN (below_drewN BW _) _⟩
                                    · have z2' : (x.n0 == y.n0) = false := by simpa using z2
                                      go_wp2_with fail
                                      go_quiet (fail)
                                      go_wp2
                                      go_roundg (5 - 1)
                                      case measure => omega
                                      case rel =>
                                        refine ⟨1, by omega, by omega, rfl, ⟨_, rfl⟩, (show Hid _ from fun a ha => ?_)⟩
                                        by_cases e : a = 0
                                        · subst e; exact fun h => z2 h.2
                                        · exact A2.out a (by omega)
                                  · have z1' : decide (0 ≤ y.n0) = false := decide_eq_false z1
                                    go_wp2_with fail
                                    go_quiet (fail)
                                    go_wp2
                                    go_roundg (5 - 1)
                                    case measure => omega
                                    case rel =>
                                      refine ⟨1, by omega, by omega, rfl, ⟨_, rfl⟩, (show Hid _ from fun a ha => ?_)⟩
                                      by_cases e : a = 0
                                      · subst e; exact fun h => by have h1 := h.1; simp only [SRow.num] at h1; omega
                                      · exact A2.out a (by omega)
                                · by_cases z1 : 0 ≤ y.n1
                                  · have z1' : decide (0 ≤ y.n1) = true := decide_eq_true z1
                                    by_cases z2 : x.n1 = y.n1
                                    · have z2' : (x.n1 == y.n1) = true := by simpa using z2
                                      have HC : Hid (clash x y) := .inl ⟨1, by omega, z1, z2⟩
                                      clear z2
                                      go_wp2_with fail
                                      go_quiet (fail)
                                      go_wp2
                                      go_ret
                                      exact ⟨15, rfl, badc ⟨R1.out, HM.out⟩ HN.out kk hlt (by rw [Hx.out]; exact HC.out), below_drewN (below_drewN BW _) _⟩
                                    · have z2' : (x.n1 == y.n1) = false := by simpa using z2
                                      go_wp2_with fail
                                      go_quiet (fail)
                                      go_wp2
                                      go_roundg (5 - 2)
                                      case measure => omega
                                      case rel =>
                                        refine ⟨2, by omega, by omega, rfl, ⟨_, rfl⟩, (show Hid _ from fun a ha => ?_)⟩
                                        by_cases e : a = 1
                                        · subst e; exact fun h => z2 h.2
                                        · exact A2.out a (by omega)
                                  · have z1' : decide (0 ≤ y.n1) = false := decide_eq_false z1
                                    go_wp2_with fail
                                    go_quiet (fail)
                                    go_wp2
                                    go_roundg (5 - 2)
                                    case measure => omega
                                    case rel =>
                                      refine ⟨2, by omega, by omega, rfl, ⟨_, rfl⟩, (show Hid _ from fun a ha => ?_)⟩
                                      by_cases e : a = 1
                                      · subst e; exact fun h => by have h1 := h.1; simp only [SRow.num] at h1; omega
                                      · exact A2.out a (by omega)
                                · by_cases z1 : 0 ≤ y.n2
                                  · have z1' : decide (0 ≤ y.n2) = true := decide_eq_true z1
                                    by_cases z2 : x.n2 = y.n2
                                    · have z2' : (x.n2 == y.n2) = true := by simpa using z2
                                      have HC : Hid (clash x y) := .inl ⟨2, by omega, z1, z2⟩
                                      clear z2
                                      go_wp2_with fail
                                      go_quiet (fail)
                                      go_wp2
                                      go_ret
                                      exact ⟨15, rfl, badc ⟨R1.out, HM.out⟩ HN.out kk hlt (by rw [Hx.out]; exact HC.out), below_drewN (below_drewN BW _) _⟩
                                    · have z2' : (x.n2 == y.n2) = false := by simpa using z2
                                      go_wp2_with fail
                                      go_quiet (fail)
                                      go_wp2
                                      go_roundg (5 - 3)
                                      case measure => omega
                                      case rel =>
                                        refine ⟨3, by omega, by omega, rfl, ⟨_, rfl⟩, (show Hid _ from fun a ha => ?_)⟩
                                        by_cases e : a = 2
                                        · subst e; exact fun h => z2 h.2
                                        · exact A2.out a (by omega)
                                  · have z1' : decide (0 ≤ y.n2) = false := decide_eq_false z1
                                    go_wp2_with fail
                                    go_quiet (fail)
                                    go_wp2
                                    go_roundg (5 - 3)
                                    case measure => omega
                                    case rel =>
                                      refine ⟨3, by omega, by omega, rfl, ⟨_, rfl⟩, (show Hid _ from fun a ha => ?_)⟩
                                      by_cases e : a = 2
                                      · subst e; exact fun h => by have h1 := h.1; simp only [SRow.num] at h1; omega
                                      · exact A2.out a (by omega)
                                · by_cases z1 : 0 ≤ y.n3
                                  · have z1' : decide (0 ≤ y.n3) = true := decide_eq_true z1
                                    by_cases z2 : x.n3 = y.n3
                                    · have z2' : (x.n3 == y.n3) = true := by simpa using z2
                                      have HC : Hid (clash x y) := .inl ⟨3, by omega, z1, z2⟩
                                      clear z2
                                      go_wp2_with fail
                                      go_quiet (fail)
                                      go_wp2
                                      go_ret
                                      exact ⟨15, rfl, badc ⟨R1.out, HM.out⟩ HN.out kk hlt (by rw [Hx.out]; exact HC.out), below_drewN (below_drewN BW _) _⟩
                                    · have z2' : (x.n3 == y.n3) = false := by simpa using z2
                                      go_wp2_with fail
                                      go_quiet (fail)
                                      go_wp2
                                      go_roundg (5 - 4)
                                      case measure => omega
                                      case rel =>
                                        refine ⟨4, by omega, by omega, rfl, ⟨_, rfl⟩, (show Hid _ from fun a ha => ?_)⟩
                                        by_cases e : a = 3
                                        · subst e; exact fun h => z2 h.2
                                        · exact A2.out a (by omega)
                                  · have z1' : decide (0 ≤ y.n3) = false := decide_eq_false z1
                                    go_wp2_with fail
                                    go_quiet (fail)
                                    go_wp2
                                    go_roundg (5 - 4)
                                    case measure => omega
                                    case rel =>
                                      refine ⟨4, by omega, by omega, rfl, ⟨_, rfl⟩, (show Hid _ from fun a ha => ?_)⟩
                                      by_cases e : a = 3
                                      · subst e; exact fun h => by have h1 := h.1; simp only [SRow.num] at h1; omega
                                      · exact A2.out a (by omega)
                                · by_cases z1 : 0 ≤ y.n4
                                  · have z1' : decide (0 ≤ y.n4) = true := decide_eq_true z1
                                    by_cases z2 : x.n4 = y.n4
                                    · have z2' : (x.n4 == y.n4) = true := by simpa using z2
                                      have HC : Hid (clash x y) := .inl ⟨4, by omega, z1, z2⟩
                                      clear z2
                                      go_wp2_with fail
                                      go_quiet (fail)
                                      go_wp2
                                      go_ret
                                      exact ⟨15, rfl, badc ⟨R1.out, HM.out⟩ HN.out kk hlt (by rw [Hx.out]; exact HC.out), below_drewN (below_drewN BW _) _⟩
                                    · have z2' : (x.n4 == y.n4) = false := by simpa using z2
                                      go_wp2_with fail
                                      go_quiet (fail)
                                      go_wp2
                                      go_roundg (5 - 5)
                                      case measure => omega
                                      case rel =>
                                        refine ⟨5, by omega, by omega, rfl, ⟨_, rfl⟩, (show Hid _ from fun a ha => ?_)⟩
                                        by_cases e : a = 4
                                        · subst e; exact fun h => z2 h.2
                                        · exact A2.out a (by omega)
                                  · have z1' : decide (0 ≤ y.n4) = false := decide_eq_false z1
                                    go_wp2_with fail
                                    go_quiet (fail)
                                    go_wp2
                                    go_roundg (5 - 5)
                                    case measure => omega
                                    case rel =>
                                      refine ⟨5, by omega, by omega, rfl, ⟨_, rfl⟩, (show Hid _ from fun a ha => ?_)⟩
                                      by_cases e : a = 4
                                      · subst e; exact fun h => by have h1 := h.1; simp only [SRow.num] at h1; omega
                                      · exact A2.out a (by omega)
                                · skip
                                  by_cases p1 : x.mux = y.mux
                                  · have p1' : (x.mux == y.mux) = true := by simpa using p1
                                    by_cases p2 : x.sub = y.sub
                                    · have p2' : (x.sub == y.sub) = true := by simpa using p2
                                      have HC : Hid (clash x y) := .inr ⟨by omega, p1, p2⟩
                                      clear p1 p2
                                      go_wp2_with fail
                                      go_quiet (fail)
                                      go_wp2
                                      go_ret
                                      exact ⟨15, rfl, badc ⟨R1.out, HM.out⟩ HN.out kk hlt (by rw [Hx.out]; exact HC.out), below_drewN (below_drewN BW _) _⟩
                                    · have p2' : (x.sub == y.sub) = false := by simpa using p2
                                      go_wp2_with fail
                                      go_quiet (fail)
                                      go_wp2
                                      go_roundg (i - (kk + 1))
                                      case measure => omega
                                      case rel =>
                                        refine ⟨kk + 1, by omega, by omega, by go_num, ⟨_, rfl⟩, (show Hid _ from fun k hk => ?_)⟩
                                        by_cases e : k = kk
                                        · subst e; rw [Hx.out]; exact (fun h => h.elim (fun ⟨a, ha, h1, h2⟩ => A2.out a ha ⟨h1, h2⟩) (fun h => p2 h.2.2))
                                        · exact A.out k (by omega)
                                  · have p1' : (x.mux == y.mux) = false := by simpa using p1
                                    go_wp2_with fail
                                    go_quiet (fail)
                                    go_wp2
                                    go_roundg (i - (kk + 1))
                                    case measure => omega
                                    case rel =>
                                      refine ⟨kk + 1, by omega, by omega, by go_num, ⟨_, rfl⟩, (show Hid _ from fun k hk => ?_)⟩
                                      by_cases e : k = kk
                                      · subst e; rw [Hx.out]; exact (fun h => h.elim (fun ⟨a, ha, h1, h2⟩ => A2.out a ha ⟨h1, h2⟩) (fun h => p1 h.2.1))
                                      · exact A.out k (by omega)
                                · omega
                            · have hltz : ¬ (kk : Int) < (i : Int) := by omega
                              obtain rfl : kk = i := by omega
                              go_wp2
                              go_ret
                              exact ⟨0, rfl, fine ⟨R1.out, HM.out⟩ HN.out (by intro k hk; rw [Hy.out]; exact A.out k hk), below_drewN BW _⟩
          · omega
end Go.Proofs.YtakmbmlpgmppiaaDoor
