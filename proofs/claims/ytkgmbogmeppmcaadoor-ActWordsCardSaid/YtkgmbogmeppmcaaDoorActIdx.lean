/- act: slices.IndexFunc over its kinds' rows; the kind of a code. -/
import Derived.Test.YtkgmbogmeppmcaaDoorActRef
import Derived.Deep.LoopGhost
import Derived.Shelf.SlicesQ.IndexFunc
namespace Go.Proofs.YtkgmbogmeppmcaaDoor
open Go Go.Proofs Go.RowKit

/-- The rows lie in block g, their bounds in blocks s and s + 1. -/
def ActRows (W : World) (g : Nat) : Prop := ∃ s, Blk W g 64 (actCells s) ∧ Blk W s 3 #[.int .i64 4096] ∧ Blk W (s + 1) 3 #[.int .i64 65536]
theorem ActRows.lt {W : World} {g : Nat} (h : ActRows W g) : g < W.heap.size := by obtain ⟨s, h, _⟩ := h; exact h.lt
theorem ActRows.below {W W' : World} {g : Nat} (h : ActRows W g) (hb : Below W.heap.size W W') : ActRows W' g := by
  obtain ⟨s, h1, h2, h3⟩ := h
  exact ⟨s, h1.below hb h1.lt, h2.below hb h2.lt, h3.below hb h3.lt⟩
theorem ActRows.cell {W : World} {g : Nat} (h : ActRows W g) (j : Nat) (hj : j < 8) :
    ∃ mv, W.cell? ⟨g, j * 3, none⟩ = some (.string (actWord (j + 1))) ∧ W.cell? ⟨g, j * 3 + 1, none⟩ = some (.int .u32 (actCode (j + 1))) ∧ W.cell? ⟨g, j * 3 + 2, none⟩ = some mv ∧ MostAt W (actMost (j + 1)) mv := by
  obtain ⟨s, h1, h2, h3⟩ := h
  match j, hj with
  | 0, _ => exact ⟨_, (h1.cell 0).trans rfl, (h1.cell 1).trans rfl, (h1.cell 2).trans rfl, rfl⟩
  | 1, _ => exact ⟨_, (h1.cell 3).trans rfl, (h1.cell 4).trans rfl, (h1.cell 5).trans rfl, rfl⟩
  | 2, _ => exact ⟨_, (h1.cell 6).trans rfl, (h1.cell 7).trans rfl, (h1.cell 8).trans rfl, rfl⟩
  | 3, _ => exact ⟨_, (h1.cell 9).trans rfl, (h1.cell 10).trans rfl, (h1.cell 11).trans rfl, ⟨_, rfl, h2⟩⟩
  | 4, _ => exact ⟨_, (h1.cell 12).trans rfl, (h1.cell 13).trans rfl, (h1.cell 14).trans rfl, rfl⟩
  | 5, _ => exact ⟨_, (h1.cell 15).trans rfl, (h1.cell 16).trans rfl, (h1.cell 17).trans rfl, ⟨_, rfl, h3⟩⟩
  | 6, _ => exact ⟨_, (h1.cell 18).trans rfl, (h1.cell 19).trans rfl, (h1.cell 20).trans rfl, rfl⟩
  | 7, _ => exact ⟨_, (h1.cell 21).trans rfl, (h1.cell 22).trans rfl, (h1.cell 23).trans rfl, rfl⟩

/-- The first kind that meets p, less one; -1: none. -/
def firstN (p : Nat → Bool) : Int := if p 0 = true then 0 else if p 1 = true then 1 else if p 2 = true then 2 else if p 3 = true then 3 else if p 4 = true then 4 else if p 5 = true then 5 else if p 6 = true then 6 else if p 7 = true then 7 else -1
theorem firstN_hit (p : Nat → Bool) (k : Nat) (hk : k < 8) (h : ∀ j, j < k → p j = false) (hp : p k = true) : firstN p = k := by
  match k, hk, h, hp with
  | 0, _, h, hp => simp [firstN, hp]
  | 1, _, h, hp => simp [firstN, hp, h 0]
  | 2, _, h, hp => simp [firstN, hp, h 0, h 1]
  | 3, _, h, hp => simp [firstN, hp, h 0, h 1, h 2]
  | 4, _, h, hp => simp [firstN, hp, h 0, h 1, h 2, h 3]
  | 5, _, h, hp => simp [firstN, hp, h 0, h 1, h 2, h 3, h 4]
  | 6, _, h, hp => simp [firstN, hp, h 0, h 1, h 2, h 3, h 4, h 5]
  | 7, _, h, hp => simp [firstN, hp, h 0, h 1, h 2, h 3, h 4, h 5, h 6]
theorem firstN_miss (p : Nat → Bool) (h : ∀ j, j < 8 → p j = false) : firstN p = -1 := by
  simp [firstN, h 0, h 1, h 2, h 3, h 4, h 5, h 6, h 7]
theorem firstN_cases (p : Nat → Bool) : (firstN p = -1 ∧ ∀ j, j < 8 → p j = false) ∨ ∃ k : Nat, k < 8 ∧ firstN p = k ∧ p k = true ∧ ∀ j, j < k → p j = false := by
  by_cases h : ∀ j, j < 8 → p j = false
  · exact .inl ⟨firstN_miss p h, h⟩
  · right
    have go : ∀ n, n ≤ 8 → (∀ j, j < n → p j = false) ∨ ∃ k : Nat, k < 8 ∧ firstN p = k ∧ p k = true ∧ ∀ j, j < k → p j = false := by
      intro n
      induction n with
      | zero => exact fun _ => .inl (fun j hj => absurd hj (Nat.not_lt_zero _))
      | succ n ih =>
        intro hn
        rcases ih (by omega) with hl | hr
        · by_cases e : p n = true
          · exact .inr ⟨n, by omega, firstN_hit p n (by omega) hl e, e, hl⟩
          · refine .inl (fun j hj => ?_)
            by_cases e' : j = n
            · subst e'; simpa using e
            · exact hl j (by omega)
        · exact .inr hr
    exact (go 8 (Nat.le_refl _)).resolve_left h

set_option maxRecDepth 100000 in
set_option maxHeartbeats 1000000 in
theorem indexFunc_act (p : Nat → Bool) (f : Nat) (lb : Array Value) (eg : ∀ args w, (callFunc f args).run Tryd.prog w = .ok (.enter f args) w) (g : Nat) (w : World)
    (hp : ∀ (W : World) (j : Nat) (mv : Value), j < 8 → Below w.heap.size w W → MostAt W (actMost (j + 1)) mv → Calls Tryd.prog f (#[.agg #[.string (actWord (j + 1)), .int .u32 (actCode (j + 1)), mv]] ++ lb) W fun e w' => e = .returned (.bool (p j)) ∧ Below W.heap.size W w')
    (hr : ActRows w g) :
    Calls Tryd.prog 30 #[.slice (some ⟨g, 0, none⟩) 8 8, .func (.func f) #[] lb] w fun e w' => e = .returned (.int .i64 (firstN p)) ∧ Below w.heap.size w w' := by
  have Hr := Lib.hid hr
  have Hp := Lib.hid hp
  clear hr hp
  go_enter Tryd.func30, Tryd.ntmps30
  go_wp2
  go_loopg [5, 8] 8 (fun gg _ s8 wr => ∃ kk : Nat, kk ≤ 8 ∧ 8 - kk ≤ gg ∧ s8 = .int .i64 kk ∧ Hid (Below w.heap.size w wr) ∧ Hid (∀ j, j < kk → p j = false))
  case atStart => exact ⟨0, Nat.zero_le _, by omega, rfl, Below.refl _ w, fun j hj => absurd hj (Nat.not_lt_zero _)⟩
  case round =>
    obtain ⟨kk, hkk, hg, rfl, BW, A⟩ := hrel
    by_cases hlt : kk < 8
    · have hltz : (kk : Int) < 8 := by omega
      have hltz0 : (0 : Int) ≤ (kk : Int) := by omega
      obtain ⟨mv, c0, c1, c2, hm⟩ := (Hr.out.below BW.out).cell kk hlt
      have hcall := Hp.out wr kk mv hlt BW.out hm
      generalize actWord (kk + 1) = nm at c0 hcall
      generalize actCode (kk + 1) = cd at c1 hcall
      clear hm
      cases hq : p kk with
      | true =>
        rw [hq] at hcall
        have Hcall := Lib.hid hcall
        have Hq := Lib.hid hq
        clear hcall hq
        go_wp2_with fail
        refine Hcall.out.mono ?_
        rintro e w' ⟨rfl, hb'⟩
        go_wp2
        go_ret
        refine ⟨retI ?_, BW.out.trans (hb'.mono BW.out.size)⟩
        rw [firstN_hit p kk hlt A.out Hq.out]
      | false =>
        rw [hq] at hcall
        have Hcall := Lib.hid hcall
        have Hq := Lib.hid hq
        clear hcall hq
        go_wp2_with fail
        refine Hcall.out.mono ?_
        rintro e w' ⟨rfl, hb'⟩
        go_wp2
        go_roundg (8 - (kk + 1))
        case measure => omega
        case rel =>
          refine ⟨kk + 1, by omega, by omega, by go_num, BW.out.trans (hb'.mono BW.out.size), (show Hid _ from fun j hj => ?_)⟩
          by_cases e : j = kk
          · subst e
            exact Hq.out
          · exact A.out j (by omega)
    · obtain rfl : kk = 8 := by omega
      go_wp2
      go_ret
      refine ⟨retI ?_, BW.out⟩
      rw [firstN_miss p (fun j hj => A.out j hj)]

/-- Is c a code of kind k? -/
def fromP (c k : Int) : Prop := actCode k ≤ c ∧ c ≤ actCode k + actGreatest k
instance (c k : Int) : Decidable (fromP c k) := by unfold fromP; infer_instance
def fromB (c : Int) (j : Nat) : Bool := decide (fromP c (j + 1))
/-- The kind of a code; 0: none. -/
def fromK (c : Int) : Int := firstN (fromB c) + 1
/-- The number of a code's action. -/
def fromN (c : Int) : Int := if fromK c = 0 then 0 else c - actCode (fromK c)

theorem code_range (k : Int) (h1 : 1 ≤ k) (h8 : k ≤ 8) : 0 ≤ actCode k ∧ actCode k ≤ 2147483648 ∧ 0 ≤ actGreatest k ∧ actGreatest k ≤ 65535 := by
  have h : k = 1 ∨ k = 2 ∨ k = 3 ∨ k = 4 ∨ k = 5 ∨ k = 6 ∨ k = 7 ∨ k = 8 := by omega
  rcases h with rfl | rfl | rfl | rfl | rfl | rfl | rfl | rfl <;> decide

theorem cellLater {w wx : World} {a : Addr} {v : Value} (hb : Below w.heap.size w wx) (h : w.cell? a = some v) : wx.cell? a = some v := (hb.cell (World.block_lt_of_cell? _ _ h)).trans h

set_option maxRecDepth 100000 in
set_option maxHeartbeats 1000000 in
theorem from1_any (c k : Int) (hc0 : 0 ≤ c) (hc1 : c < 4294967296) (h1 : 1 ≤ k) (h8 : k ≤ 8) (B : Nat) (mv : Value) (w : World) (hB : Blk w B 24 #[.int .u32 c]) (hm : MostAt w (actMost k) mv) :
    Calls Tryd.prog 32 #[.agg #[.string (actWord k), .int .u32 (actCode k), mv], .pointer (some ⟨B, 0, none⟩)] w fun e w' => e = .returned (.bool (decide (fromP c k))) ∧ Below w.heap.size w w' := by
  obtain ⟨d0, d1, g0, g1⟩ := code_range k h1 h8
  have hg : ∀ W, Below w.heap.size w W → Calls Tryd.prog 33 #[.agg #[.string (actWord k), .int .u32 (actCode k), mv]] W fun e w' => e = .returned (.int .i64 (actGreatest k)) ∧ Below W.heap.size W w' := by
    intro W hW
    refine greatest_any _ _ k mv W ?_
    unfold MostAt at hm ⊢
    split at hm
    · exact hm
    · obtain ⟨B', h, hb⟩ := hm
      exact ⟨B', h, hb.below hW hb.lt⟩
  have hbx := Blk.new w 64 #[.string (actWord k), .int .u32 (actCode k), mv]
  have x0 := hbx.cell 0
  have x1 := hbx.cell 1
  have x2 := hbx.cell 2
  have y0 := (hB.alloc (.cells #[.string (actWord k), .int .u32 (actCode k), mv] 64)).cell 0
  simp only [List.getElem?_toArray, List.getElem?_cons_zero, List.getElem?_cons_succ] at x0 x1 x2 y0
  have hb0 := (Below.refl w.heap.size w).alloc (Nat.le_refl _) (.cells #[.string (actWord k), .int .u32 (actCode k), mv] 64)
  have HB0 := Lib.hid hb0
  have HG := Lib.hid hg
  have hP : decide (fromP c k) = (decide (actCode k ≤ c) && decide (c - actCode k ≤ actGreatest k)) := by
    rw [← Bool.decide_and]
    exact decide_eq_decide.2 (by unfold fromP; omega)
  rw [hP]
  clear hg hbx hb0 hB hm hP
  generalize actCode k = cd at *
  generalize actGreatest k = gr at *
  generalize actWord k = nm at *
  by_cases hA : cd ≤ c
  · have hd : decide (cd ≤ c) = true := decide_eq_true hA
    have w1 : IntKind.u32.wrap (c - cd) = c - cd := by show (c - cd) % 4294967296 = _; omega
    have w2 : IntKind.u32.wrap gr = gr := by show gr % 4294967296 = _; omega
    rw [hd]
    go_enter Tryd.func32, Tryd.ntmps32
    go_wp2
    go_region_held3 (fun w' => w'.cell? ⟨w.heap.size, 0, none⟩ = some (.string nm) ∧ w'.cell? ⟨w.heap.size, 1, none⟩ = some (.int .u32 cd) ∧ w'.cell? ⟨w.heap.size, 2, none⟩ = some mv ∧ w'.cell? ⟨B, 0, none⟩ = some (.int .u32 c) ∧ Below w.heap.size w w') (first | exact ⟨x0, x1, x2, y0, HB0.out.drew⟩ | exact ⟨cellLater hb2 x0, cellLater hb2 x1, cellLater hb2 x2, cellLater hb2 y0, HB0.out.drew.trans (hb2.mono HB0.out.size)⟩ | go_keep) (first | (go_at_call 33; refine Calls.mono (HG.out _ HB0.out.drew) ?_; rintro e w2 ⟨rfl, hb2⟩))
    go_wp2
    go_ret
    exact ⟨rfl, HB0.out.drew.trans (hb2.mono HB0.out.size)⟩
  · have hd : decide (cd ≤ c) = false := decide_eq_false hA
    rw [hd]
    go_enter Tryd.func32, Tryd.ntmps32
    go_wp2
    go_quiet (fail)
    go_wp2
    go_ret
    exact ⟨rfl, below_drewN HB0.out _⟩
end Go.Proofs.YtkgmbogmeppmcaaDoor
