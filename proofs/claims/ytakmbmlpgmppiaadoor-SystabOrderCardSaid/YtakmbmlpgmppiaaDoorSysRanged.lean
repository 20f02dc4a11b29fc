/- systab's ranged, and met. -/
import Derived.Test.YtakmbmlpgmppiaaDoorSysNamed
import Derived.Test.YtakmbmlpgmppiaaDoorMapB
namespace Go.Proofs.YtakmbmlpgmppiaaDoor
open Go Go.Proofs Go.RowKit

def rngBad (x : Int) : Bool := decide (x < -1) || decide (1073741823 < x)
theorem rngBad_iff (x : Int) : rngBad x = true ↔ ¬ inR x := by
  unfold rngBad inR
  simp
  omega
theorem rng1_any (x : Int) (w : World) : Calls Tryd.prog 36 #[.int .i64 x] w fun e w' => e = .returned (.bool (rngBad x)) ∧ w = w' := by
  by_cases h1 : x < -1
  · have d1 : decide (x < -1) = true := decide_eq_true h1
    go_enter Tryd.func36, Tryd.ntmps36
    go_wp2
    go_ret
    exact ⟨retB (by unfold rngBad; rw [d1]; rfl), rfl⟩
  · have d1 : decide (x < -1) = false := decide_eq_false h1
    go_enter Tryd.func36, Tryd.ntmps36
    go_wp2
    go_ret
    exact ⟨retB (by unfold rngBad; rw [d1]; rfl), rfl⟩

def Idx5Post (y : SRow) (w : World) (e : Ending) (w' : World) : Prop := ∃ i : Int, e = .returned (.int .i64 i) ∧ (0 ≤ i ↔ ∃ a, a < 5 ∧ ¬ inR (y.num a)) ∧ w = w'
set_option maxRecDepth 100000 in
theorem idx5_any (b : Nat) (y : SRow) (w : World) (hc : ∀ a, a < 5 → w.cell? ⟨b, 1 + a, none⟩ = some (.int .i64 (y.num a))) :
    Calls Tryd.prog 48 #[.slice (some ⟨b, 1, none⟩) 5 5, .func (.func 36) #[] #[]] w (Idx5Post y w) := by
  have Hc := Lib.hid hc
  clear hc
  go_enter Tryd.func48, Tryd.ntmps48
  go_wp2
  go_loopg [5, 8] 5 (fun gg _ s8 wr => w = wr ∧ ∃ kk : Nat, kk ≤ 5 ∧ 5 - kk ≤ gg ∧ s8 = .int .i64 kk ∧ Hid (∀ a, a < kk → inR (y.num a)))
  case atStart => exact ⟨rfl, 0, by omega, by omega, rfl, fun a ha => absurd ha (Nat.not_lt_zero _)⟩
  case round =>
    obtain ⟨rfl, kk, hkk, hg, rfl, A⟩ := hrel
    by_cases hlt : kk < 5
    · have hltz : (kk : Int) < (5 : Int) := by omega
      have c := Hc.out kk hlt
      have hcall := rng1_any (y.num kk)
      have hiff := rngBad_iff (y.num kk)
      generalize hx : y.num kk = x at c hcall hiff
      have HX := Lib.hid hx
      clear hx
      cases hb : rngBad x with
      | true =>
        rw [hb] at hcall hiff
        have Hcall := Lib.hid hcall
        have HB : Hid (¬ inR x) := hiff.1 rfl
        clear hcall hiff hb
        go_wp2_with fail
        refine (Hcall.out _).mono ?_
        rintro e w' ⟨rfl, rfl⟩
        go_wp2
        go_ret
        exact ⟨(kk : Int), rfl, ⟨fun _ => ⟨kk, hlt, by rw [HX.out]; exact HB.out⟩, fun _ => by omega⟩, rfl⟩
      | false =>
        have HB : Hid (inR x) := by
          by_cases h : inR x
          · exact h
          · rw [hiff.2 h] at hb; cases hb
        rw [hb] at hcall
        have Hcall := Lib.hid hcall
        clear hcall hiff hb
        go_wp2_with fail
        refine (Hcall.out _).mono ?_
        rintro e w' ⟨rfl, rfl⟩
        go_wp2
        go_roundg (5 - (kk + 1))
        case measure => omega
        case rel =>
          refine ⟨rfl, kk + 1, by omega, by omega, by go_num, (show Hid _ from fun a ha => ?_)⟩
          by_cases e : a = kk
          · subst e; rw [HX.out]; exact HB.out
          · exact A.out a (by omega)
    · have hltz : ¬ (kk : Int) < (5 : Int) := by omega
      obtain rfl : kk = 5 := by omega
      go_wp2
      go_ret
      exact ⟨-1, rfl, ⟨fun h => by omega, fun ⟨a, ha, hn⟩ => absurd (A.out a ha) hn⟩, rfl⟩

def Cont5Post (y : SRow) (w : World) (e : Ending) (w' : World) : Prop := ∃ v : Bool, e = .returned (.bool v) ∧ (v = true ↔ ∃ a, a < 5 ∧ ¬ inR (y.num a)) ∧ w = w'
theorem cont5_any (b : Nat) (y : SRow) (w : World) (hc : ∀ a, a < 5 → w.cell? ⟨b, 1 + a, none⟩ = some (.int .i64 (y.num a))) :
    Calls Tryd.prog 35 #[.slice (some ⟨b, 1, none⟩) 5 5, .func (.func 36) #[] #[]] w (Cont5Post y w) := by
  have Hi := Lib.hid (idx5_any b y w hc)
  clear hc
  go_enter Tryd.func35, Tryd.ntmps35
  go_wp2_with fail
  refine Hi.out.mono ?_
  rintro e w' ⟨i, rfl, hi, rfl⟩
  have HI := Lib.hid hi
  clear hi Hi
  go_wp2
  go_ret
  exact ⟨_, rfl, ⟨fun h => HI.out.1 (by simpa using h), fun h => by simpa using HI.out.2 h⟩, rfl⟩

def RangedPost (y : SRow) (w : World) (e : Ending) (w' : World) : Prop := ∃ v : Bool, e = .returned (.bool v) ∧ (v = true ↔ rngOk y) ∧ Below w.heap.size w w'
set_option maxRecDepth 100000 in
set_option maxHeartbeats 1000000 in
theorem ranged_any (y : SRow) (w : World) :
    Calls Tryd.prog 21 #[.agg #[.string y.name, .int .i64 y.n0, .int .i64 y.n1, .int .i64 y.n2, .int .i64 y.n3, .int .i64 y.n4, .int .i64 y.mux, .int .i64 y.sub]] w (RangedPost y w) := by
  have bY := Blk.new w 36 #[.string y.name, .int .i64 y.n0, .int .i64 y.n1, .int .i64 y.n2, .int .i64 y.n3, .int .i64 y.n4, .int .i64 y.mux, .int .i64 y.sub]
  have hcont := cont5_any w.heap.size y _ (fun a ha => by
    have := bY.cell (1 + a)
    rw [this]
    match a, ha with
    | 0, _ => rfl
    | 1, _ => rfl
    | 2, _ => rfl
    | 3, _ => rfl
    | 4, _ => rfl)
  have Hc := Lib.hid hcont
  clear hcont bY
  go_enter Tryd.func21, Tryd.ntmps21
  go_wp2_with fail
  refine Hc.out.mono ?_
  rintro e w' ⟨v, rfl, hv, rfl⟩
  have HV := Lib.hid hv
  have HB := Lib.hid ((Below.refl _ w).alloc (Nat.le_refl _) (.cells #[.string y.name, .int .i64 y.n0, .int .i64 y.n1, .int .i64 y.n2, .int .i64 y.n3, .int .i64 y.n4, .int .i64 y.mux, .int .i64 y.sub] 36))
  clear hv Hc
  cases v with
  | true =>
    go_wp2
    go_ret
    exact ⟨false, rfl, ⟨fun h => (by cases h), fun h => by obtain ⟨a, ha, hn⟩ := HV.out.1 (by simp); exact absurd (h.1 a ha) hn⟩, HB.out⟩
  | false =>
    have HA : Hid (∀ a, a < 5 → inR (y.num a)) := by
      intro a ha
      by_cases h : inR (y.num a)
      · exact h
      · exact absurd (HV.out.2 ⟨a, ha, h⟩) (by simp)
    clear HV
    have fin : ∀ v : Bool, (v = true ↔ muxOk y) → RangedPost y w (.returned (.bool v)) (w.alloc (.cells #[.string y.name, .int .i64 y.n0, .int .i64 y.n1, .int .i64 y.n2, .int .i64 y.n3, .int .i64 y.n4, .int .i64 y.mux, .int .i64 y.sub] 36)) :=
      fun v h => ⟨v, rfl, ⟨fun h2 => ⟨HA.out, h.1 h2⟩, fun h2 => h.2 h2.2⟩, HB.out⟩
    have Fin := Lib.hid fin
    clear fin HA HB
    by_cases m0 : y.mux = 0
    · have e0 : (y.mux == 0) = true := by simpa using m0
      have Hm := Lib.hid m0
      clear m0
      go_wp2
      go_ret
      exact Fin.out _ (by have := Hm.out; unfold muxOk; simp; omega)
    · have e0 : (y.mux == 0) = false := by simpa using m0
      by_cases m1 : y.mux = 1
      · have e1 : (y.mux == 1) = true := by simpa using m1
        have Hm := Lib.hid m1
        clear m1
        by_cases s1 : 1 ≤ y.sub
        · have f1 : decide (1 ≤ y.sub) = true := decide_eq_true s1
          go_wp2
          go_ret
          exact Fin.out _ (by have := Hm.out; unfold muxOk; simp; omega)
        · have f1 : decide (1 ≤ y.sub) = false := decide_eq_false s1
          go_wp2
          go_ret
          exact Fin.out _ (by have := Hm.out; unfold muxOk; simp; omega)
      · have e1 : (y.mux == 1) = false := by simpa using m1
        by_cases m2 : y.mux = 2
        · have e2 : (y.mux == 2) = true := by simpa using m2
          have Hm := Lib.hid m2
          clear m2 m1
          by_cases s1 : 1 ≤ y.sub
          · have f1 : decide (1 ≤ y.sub) = true := decide_eq_true s1
            go_wp2
            go_ret
            exact Fin.out _ (by have := Hm.out; unfold muxOk; simp; omega)
          · have f1 : decide (1 ≤ y.sub) = false := decide_eq_false s1
            go_wp2
            go_ret
            exact Fin.out _ (by have := Hm.out; unfold muxOk; simp; omega)
        · have e2 : (y.mux == 2) = false := by simpa using m2
          have Hm : Hid (¬ y.mux = 0 ∧ ¬ y.mux = 1 ∧ ¬ y.mux = 2) := ⟨m0, m1, m2⟩
          clear m0 m1 m2
          go_wp2
          go_ret
          exact Fin.out _ (by have := Hm.out; unfold muxOk; simp; omega)

def MetPost (B : Nat) (S : List (Int × Int)) (p : Int × Int) (w : World) (e : Ending) (w' : World) : Prop :=
  e = .returned (.bool (decide (p ∈ S))) ∧ MapS w' B (addS S p) ∧ w.heap.size ≤ w'.heap.size ∧ w.os = w'.os ∧ w.tape = w'.tape ∧ w.output = w'.output ∧ ∀ b, b < w.heap.size → b ≠ B → w'.heap[b]? = w.heap[b]?
set_option maxRecDepth 100000 in
theorem met_any (B : Nat) (S : List (Int × Int)) (p : Int × Int) (w : World) (h : MapS w B S) (hp : In64 p) :
    Calls Tryd.prog 22 #[.map (some B), .int .i64 p.1, .int .i64 p.2] w (MetPost B S p w) := by
  have h1 := h.alloc (.cells #[.int .i64 p.1, .int .i64 p.2] 66)
  have hl := mapS_look h1 p hp
  obtain ⟨W', hu, h2, hg⟩ := mapS_upd h1 p hp
  unfold keyV at hl hu
  have H2 := Lib.hid h2
  have HG := Lib.hid hg
  clear h h1 h2 hg
  go_enter Tryd.func22, Tryd.ntmps22
  go_wp2
  go_ret
  refine ⟨rfl, H2.out, ?_, ?_, ?_, ?_, ?_⟩
  · have := HG.out.size; simp at this; omega
  · exact HG.out.os.symm
  · exact HG.out.tape.symm
  · exact HG.out.output.symm
  · intro b hb hne
    exact (HG.out.block b (by simp; omega) (by simpa using hne)).trans ((World.grownBy_alloc w _ none).block b hb (by simp))
end Go.Proofs.YtakmbmlpgmppiaaDoor
