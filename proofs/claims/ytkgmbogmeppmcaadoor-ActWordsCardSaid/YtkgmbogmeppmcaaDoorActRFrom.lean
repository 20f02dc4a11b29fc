/- strainerref09.From: the action of any code. -/
import Derived.Test.YtkgmbogmeppmcaaDoorActFrom
namespace Go.Proofs.YtkgmbogmeppmcaaDoor
open Go Go.Proofs Go.RowKit

theorem fromK_at {c : Int} {k : Nat} (hk : k < 8) (h : ∀ j, j < k → fromB c j = false) (hp : fromB c k = true) : fromK c = k + 1 ∧ fromN c = c - actCode (k + 1) := by
  have e : fromK c = k + 1 := by unfold fromK; rw [firstN_hit _ k hk h hp]
  refine ⟨e, ?_⟩
  unfold fromN
  rw [e, if_neg (by omega)]
theorem fromK_none {c : Int} (h : ∀ j, j < 8 → fromB c j = false) : fromK c = 0 ∧ fromN c = 0 := by
  have e : fromK c = 0 := by unfold fromK; rw [firstN_miss _ h]; rfl
  refine ⟨e, ?_⟩
  unfold fromN
  rw [e, if_pos rfl]

theorem blkB {W W' : World} {B : Nat} {t : TypeId} {cs : Array Value} (h : Hid (Blk W B t cs)) (hb : Below W.heap.size W W') : Hid (Blk W' B t cs) := h.out.below hb h.out.lt
theorem belB {a W W' : World} (h : Hid (Below a.heap.size a W)) (hb : Below W.heap.size W W') : Hid (Below a.heap.size a W') := h.out.trans (hb.mono h.out.size)

set_option maxRecDepth 100000 in
set_option maxHeartbeats 1000000 in
theorem refFrom_any (c : Int) (hc0 : 0 ≤ c) (hc1 : c < 4294967296) (w : World) :
    Calls Tryd.prog 15 #[.int .i64 c] w fun e w' => e = .returned (.agg #[.int .i64 (fromK c), .int .i64 (fromN c)]) ∧ Below w.heap.size w w' := by
  have bZ := Blk.new w 23 #[.int .i64 0, .int .i64 0]
  have hb1 := (Below.refl w.heap.size w).alloc (Nat.le_refl _) (.cells #[.int .i64 0, .int .i64 0] 23)
  have HZ := Lib.hid bZ
  have HB1 := Lib.hid hb1
  clear bZ hb1
  go_enter Tryd.func15, Tryd.ntmps15
  go_wp2_with fail
  go_loopg [3] 8 (fun gg s3 wr => ∃ kk : Nat, kk ≤ 8 ∧ 8 - kk ≤ gg ∧ s3 = .int .i64 ((kk : Int) + 1) ∧ Hid (Below w.heap.size w wr) ∧ Hid (Blk wr w.heap.size 23 #[.int .i64 0, .int .i64 0]) ∧ Hid (∀ j, j < kk → fromB c j = false))
  case atStart => exact ⟨0, Nat.zero_le _, by omega, rfl, HB1, HZ, fun j hj => absurd hj (Nat.not_lt_zero _)⟩
  case round =>
    obtain ⟨kk, hkk, hg, rfl, BW, ZW, A⟩ := hrel
    obtain ⟨K, hK⟩ : ∃ K : Int, (kk : Int) + 1 = K := ⟨_, rfl⟩
    rw [hK]
    have HK := Lib.hid hK
    clear HB1 HZ
    by_cases hlt : kk < 8
    · have hK1 : 1 ≤ K := by omega
      have hK8 : K ≤ 8 := by omega
      have hbase := fun W => base_any K (by omega) hK8 W
      have hmost := fun W => most_any K W
      have hP : fromB c kk = (decide (actCode K ≤ c) && decide (c ≤ actCode K + actGreatest K)) := by
        unfold fromB
        rw [hK, ← Bool.decide_and]
        exact decide_eq_decide.2 Iff.rfl
      obtain ⟨e0, e1, e2, e3⟩ := code_range K hK1 hK8
      have hat : ∀ b, fromB c kk = b → b = true → fromK c = K ∧ fromN c = c - actCode K := fun b h1 h2 => by
        have := fromK_at hlt A.out (by rw [h1, h2])
        rw [hK] at this
        exact this
      have HAT := Lib.hid hat
      clear hK hat
      have HP := Lib.hid hP
      have Hbase := Lib.hid hbase
      have Hmost := Lib.hid hmost
      clear hP hbase hmost
      generalize actCode K = cd at *
      generalize actGreatest K = gr at *
      have w1 : IntKind.i64.wrap (cd + gr) = cd + gr := IntWalk.i64_in _ (by omega)
      have w2 : IntKind.i64.wrap (c - cd) = c - cd := IntWalk.i64_in _ (by omega)
      have w3 : IntKind.i64.wrap (K + 1) = K + 1 := IntWalk.i64_in _ (by omega)
      by_cases h1 : cd ≤ c
      · have d1 : decide (cd ≤ c) = true := decide_eq_true h1
        by_cases h2 : c ≤ cd + gr
        · have d2 : decide (c ≤ cd + gr) = true := decide_eq_true h2
          have HAT2 := Lib.hid (HAT.out true (by rw [HP.out, d1, d2]; rfl) rfl)
          go_wp2_with (first | (go_at_call 34; refine (Hbase.out _).mono ?_; rintro e wb ⟨rfl, hb⟩; have zb : Hid (Blk wb w.heap.size 23 #[.int .i64 0, .int .i64 0]) := blkB (by assumption) hb; have bb : Hid (Below w.heap.size w wb) := belB (by assumption) hb; have z0 := zb.out.frozen 0; have z1 := zb.out.frozen 1; have y0 : wb.cell? ⟨w.heap.size, 0, none⟩ = some (.int .i64 0) := zb.out.cell 0; have y1 : wb.cell? ⟨w.heap.size, 1, none⟩ = some (.int .i64 0) := zb.out.cell 1) | (go_at_call 35; refine (Hmost.out _).mono ?_; rintro e wm ⟨rfl, rfl⟩))
          have bF := ((zb.out.set 0 (.int .i64 K)).set 1 (.int .i64 (c - cd)))
          have e0 := bF.cell 0
          have e1 := bF.cell 1
          simp at e0 e1
          refine bodyPost_ret (v := .agg #[.int .i64 K, .int .i64 (c - cd)]) (by simp [results, Tryd.results15, go_sem, e0, e1]) rfl ⟨by rw [HAT2.out.1, HAT2.out.2], ?_⟩
          exact (bb.out.setCell (p := ⟨w.heap.size, 0, none⟩) (Nat.le_refl _) _).setCell (p := ⟨w.heap.size, 1, none⟩) (Nat.le_refl _) _
        · have d2 : decide (c ≤ cd + gr) = false := decide_eq_false h2
          have HF : Hid (fromB c kk = false) := by show _ = false; rw [HP.out, d1, d2]; rfl
          go_wp2_with (first | (go_at_call 34; refine (Hbase.out _).mono ?_; rintro e wb ⟨rfl, hb⟩; have zb : Hid (Blk wb w.heap.size 23 #[.int .i64 0, .int .i64 0]) := blkB (by assumption) hb; have bb : Hid (Below w.heap.size w wb) := belB (by assumption) hb; have z0 := zb.out.frozen 0; have z1 := zb.out.frozen 1; have y0 : wb.cell? ⟨w.heap.size, 0, none⟩ = some (.int .i64 0) := zb.out.cell 0; have y1 : wb.cell? ⟨w.heap.size, 1, none⟩ = some (.int .i64 0) := zb.out.cell 1) | (go_at_call 35; refine (Hmost.out _).mono ?_; rintro e wm ⟨rfl, rfl⟩))
          go_roundg (8 - (kk + 1))
          case measure => omega
          case rel =>
            refine ⟨kk + 1, by omega, by omega, by rw [← HK.out]; go_num, bb, zb, (show Hid _ from fun j hj => ?_)⟩
            by_cases e : j = kk
            · subst e; exact HF.out
            · exact A.out j (by omega)
      · have d1 : decide (cd ≤ c) = false := decide_eq_false h1
        have HF : Hid (fromB c kk = false) := by show _ = false; rw [HP.out, d1]; rfl
        go_wp2_with (first | (go_at_call 34; refine (Hbase.out _).mono ?_; rintro e wb ⟨rfl, hb⟩; have zb : Hid (Blk wb w.heap.size 23 #[.int .i64 0, .int .i64 0]) := blkB (by assumption) hb; have bb : Hid (Below w.heap.size w wb) := belB (by assumption) hb; have z0 := zb.out.frozen 0; have z1 := zb.out.frozen 1; have y0 : wb.cell? ⟨w.heap.size, 0, none⟩ = some (.int .i64 0) := zb.out.cell 0; have y1 : wb.cell? ⟨w.heap.size, 1, none⟩ = some (.int .i64 0) := zb.out.cell 1) | (go_at_call 35; refine (Hmost.out _).mono ?_; rintro e wm ⟨rfl, rfl⟩))
        go_roundg (8 - (kk + 1))
        case measure => omega
        case rel =>
          refine ⟨kk + 1, by omega, by omega, by rw [← HK.out]; go_num, bb, zb, (show Hid _ from fun j hj => ?_)⟩
          by_cases e : j = kk
          · subst e; exact HF.out
          · exact A.out j (by omega)
    · obtain rfl : kk = 8 := by omega
      obtain rfl : K = 9 := by omega
      have hN := Lib.hid (fromK_none A.out)
      have z0 := ZW.out.frozen 0
      have z1 := ZW.out.frozen 1
      have y0 : wr.cell? ⟨w.heap.size, 0, none⟩ = some (.int .i64 0) := ZW.out.cell 0
      have y1 : wr.cell? ⟨w.heap.size, 1, none⟩ = some (.int .i64 0) := ZW.out.cell 1
      clear hK
      go_wp2
      have bF := ((ZW.out.set 0 (.int .i64 0)).set 1 (.int .i64 0))
      have e0 := bF.cell 0
      have e1 := bF.cell 1
      simp at e0 e1
      refine bodyPost_ret (v := .agg #[.int .i64 0, .int .i64 0]) (by simp [results, Tryd.results15, go_sem, e0, e1]) rfl ⟨by rw [hN.out.1, hN.out.2], ?_⟩
      exact (BW.out.setCell (p := ⟨w.heap.size, 0, none⟩) (Nat.le_refl _) _).setCell (p := ⟨w.heap.size, 1, none⟩) (Nat.le_refl _) _
end Go.Proofs.YtkgmbogmeppmcaaDoor
