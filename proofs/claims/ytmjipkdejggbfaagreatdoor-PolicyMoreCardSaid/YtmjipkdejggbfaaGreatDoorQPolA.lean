/- policy: the reader's action, condition, first line, x32. -/
import Derived.Test.YtmjipkdejggbfaaGreatDoorQPolNm
namespace Go.Proofs.YtmjipkdejggbfaaGreatDoor
open Go Go.Proofs Go.RowKit

/-- What a part of the reader leaves of the memory: all but the reader's own block. -/
def FrR (R : Nat) (w w' : World) : Prop := Below R w w' ∧ w.heap.size ≤ w'.heap.size ∧ ∀ k, k < w.heap.size → k ≠ R → w'.heap[k]? = w.heap[k]?
theorem FrR.refl (R : Nat) (w : World) : FrR R w w := ⟨Below.refl _ _, Nat.le_refl _, fun _ _ _ => rfl⟩
theorem FrR.trans {R : Nat} {a b c : World} (h : FrR R a b) (k : FrR R b c) : FrR R a c := ⟨h.1.trans k.1, Nat.le_trans h.2.1 k.2.1, fun j hj hne => (k.2.2 j (Nat.lt_of_lt_of_le hj h.2.1) hne).trans (h.2.2 j hj hne)⟩
theorem FrR.below {R : Nat} {a b : World} (h : Below a.heap.size a b) (hR : R ≤ a.heap.size) : FrR R a b := ⟨h.mono hR, h.size, fun j hj _ => h.block j hj⟩
theorem FrR.alloc {R : Nat} {a : World} (o : Obj) (hR : R ≤ a.heap.size) : FrR R a (a.alloc o) := FrR.below ((Below.refl _ a).alloc (Nat.le_refl _) o) hR
theorem FrR.set {R : Nat} {a : World} (j : Nat) (v : Value) : FrR R a (a.setCell ⟨R, j, none⟩ v) := ⟨(Below.refl _ a).setCell (p := ⟨R, j, none⟩) (Nat.le_refl _) _, by simp, fun k _ hne => Below.heap_setCell a ⟨R, j, none⟩ v k hne⟩
theorem FrR.blk {R : Nat} {a b : World} {B : Nat} {t : TypeId} {cs : Array Value} (h : FrR R a b) (hB : Blk a B t cs) (hne : B ≠ R) : Blk b B t cs := (h.2.2 B hB.lt hne).trans hB
theorem FrR.own {R : Nat} {a b : World} {B e size n : Nat} {v : Value} {xs : List Value} (h : FrR R a b) (ho : a.ownsRow B e size v n xs) (hB : R < B) : b.ownsRow B e size v n xs := by
  refine ⟨ho.1, ?_⟩
  rcases ho.2 with h2 | ⟨g, cap, cur, h1, h2, h3, h4⟩
  · exact .inl h2
  · exact .inr ⟨g, cap, cur, h1, h2, (h.2.2 g (Array.getElem?_eq_some_iff.1 h3).1 (by omega)).trans h3, h4⟩
theorem FrR.setNew {R B : Nat} {a b : World} (h : FrR R a b) (hB : a.heap.size ≤ B) (hR : R ≤ a.heap.size) (j : Nat) (v : Value) : FrR R a (b.setCell ⟨B, j, none⟩ v) :=
  ⟨h.1.setCell (p := ⟨B, j, none⟩) (Nat.le_trans hR hB) _, by have := h.2.1; simpa using this, fun k hk hne => (Below.heap_setCell b ⟨B, j, none⟩ v k (show k ≠ B by omega)).trans (h.2.2 k hk hne)⟩

theorem act_cnt {ws : List ByteArray} {K N M : Int} (h : ActP.readAns ws = (K, N, M, 0)) : ∃ m : Nat, M = (m : Int) ∧ m ≤ ws.length ∧ 1 ≤ m := by
  cases ws with
  | nil => cases h
  | cons s r =>
    have e : ActP.readAns (s :: r) = if ActP.firstN (ActP.wordB s) = -1 then (0, 0, 0, 14) else if ¬ (ActP.firstN (ActP.wordB s) + 1 = 4 ∨ ActP.firstN (ActP.wordB s) + 1 = 6) then (ActP.firstN (ActP.wordB s) + 1, 0, 1, 0) else ActP.readRest (ActP.firstN (ActP.wordB s) + 1) r := rfl
    rw [e] at h
    split at h
    · cases h
    · split at h
      · cases h; exact ⟨1, rfl, by simp, Nat.le_refl _⟩
      · cases r with
        | nil => cases h
        | cons t r =>
          have e2 : ActP.readRest (ActP.firstN (ActP.wordB s) + 1) (t :: r) = (match ActP.refNum t with | none => (0, 0, 0, 13) | some n => if ActP.actGreatest (ActP.firstN (ActP.wordB s) + 1) < (n : Int) then (0, 0, 0, 16) else (ActP.firstN (ActP.wordB s) + 1, (n : Int), 2, 0)) := rfl
          rw [e2] at h
          cases hn : ActP.refNum t with
          | none => rw [hn] at h; cases h
          | some n =>
            rw [hn] at h
            dsimp only at h
            split at h
            · cases h
            · cases h; exact ⟨2, rfl, by simp, by decide⟩

set_option maxRecDepth 100000 in
set_option maxHeartbeats 4000000 in
theorem act_ok {R : Nat} {k n : Int} {x : Bool} {vr vw : Value} {cnt : Int} {ws : List ByteArray} {K N : Int} {m : Nat} (hbig : ws.length ≤ 1000000) (hsz : ∀ s ∈ ws, s.size ≤ 1000000) (hans : ActP.readAns ws = (K, N, (m : Int), 0)) (hml : m ≤ ws.length) (w : World) (hR : RdB w R k n x vr vw cnt) (hW : PWords R w vw ws) :
    Calls Tryz.prog 66 #[.pointer (some ⟨R, 0, none⟩)] w fun e w' => e = .returned (.agg #[.int .i64 K, .int .i64 N]) ∧ ∃ vw', PWords R w' vw' (ws.drop m) ∧ RdB w' R k n x vr vw' cnt ∧ FrR R w w' := by
  obtain ⟨vw', hW', hrun⟩ := hW.drop m hml
  obtain ⟨a', c', rfl, _⟩ := id hW'
  have hRl := Blk.lt hR
  have hz0 := (Below.refl w.heap.size w).alloc (Nat.le_refl _) (.cells #[.int .i64 0, .int .i64 0] 23)
  have hcall := ActP.read_any vw ws hbig hsz (w.alloc (.cells #[.int .i64 0, .int .i64 0] 23)) (hW.below (hz0.mono (Nat.le_of_lt hRl)) hz0.size).act
  rw [hans] at hcall
  have hcall2 : Calls Tryz.prog 81 #[vw] (w.alloc (.cells #[.int .i64 0, .int .i64 0] 23)) fun e w' => e = .returned (.tuple #[.agg #[.int .i64 K, .int .i64 N], .int .i64 (m : Int), .int .i64 0]) ∧ Below (w.alloc (.cells #[.int .i64 0, .int .i64 0] 23)).heap.size (w.alloc (.cells #[.int .i64 0, .int .i64 0] 23)) w' := hcall
  have HCALL := Lib.hid hcall2
  have HR0 := Lib.hid (RdB.below hR hz0 hRl)
  have HZ := Lib.hid (Blk.new w 23 #[.int .i64 0, .int .i64 0])
  have HF := Lib.hid (FrR.alloc (a := w) (R := R) (.cells #[.int .i64 0, .int .i64 0] 23) (Nat.le_of_lt hRl))
  have HWN := Lib.hid hW'
  have hl0 : (m : Int) ≤ (ws.length : Int) := by omega
  obtain ⟨a, c, rfl, hle, _⟩ := id hW
  obtain ⟨L, hL⟩ : ∃ L, ws.length = L := ⟨_, rfl⟩
  rw [hL] at HCALL HR0 hrun hl0
  have z4 := Blk.cell HR0.out 4
  simp only [List.getElem?_toArray, List.getElem?_cons_zero, List.getElem?_cons_succ] at z4
  clear hcall hcall2 hz0 hR hW hW' hL hans hsz
  go_enter Tryz.func66, Tryz.ntmps66
  go_wp2_with fail
  refine HCALL.out.mono ?_
  rintro e w1 ⟨rfl, hb1⟩
  have HR1 := Lib.hid (RdB.below HR0.out hb1 (by simp; omega))
  have HZ1 := Lib.hid ((HZ.out.below hb1 (by simp)).alloc (.cells #[.int .i64 K, .int .i64 N] 23))
  have HF1 := Lib.hid ((HF.out.trans (FrR.below hb1 (by simp; omega))).trans (FrR.alloc (.cells #[.int .i64 K, .int .i64 N] 23) (by have := hb1.size; simp at this; omega)))
  have HR2 := Lib.hid (RdB.below HR1.out ((Below.refl w1.heap.size w1).alloc (Nat.le_refl _) (.cells #[.int .i64 K, .int .i64 N] 23)) (by have := hb1.size; simp at this; omega))
  have HI := Lib.hid (Blk.new w1 23 #[.int .i64 K, .int .i64 N])
  have hlt1 : w.heap.size < w1.heap.size := by have := hb1.size; simp at this; omega
  clear hb1 HR0 HZ HF HR1 z4 HCALL
  go_upto_region 2 with fail
  generalize w1.alloc (.cells #[.int .i64 K, .int .i64 N] 23) = w2 at *
  generalize w1.heap.size = IB at *
  go_wp2_with fail
  refine (ptold_ok _).mono ?_
  rintro e _ ⟨rfl, rfl⟩
  have z4 := Blk.cell HR2.out 4
  have f4 := Blk.frozen HR2.out 4
  have d0 := HI.out.cell 0
  have d1 := HI.out.cell 1
  have y0 := HZ1.out.cell 0
  have g0 := HZ1.out.frozen 0
  have y1 := HZ1.out.cell 1
  have g1 := HZ1.out.frozen 1
  simp only [List.getElem?_toArray, List.getElem?_cons_zero, List.getElem?_cons_succ] at z4 d0 d1 y0 y1
  have hne1 : ¬ R = w.heap.size := Nat.ne_of_lt hRl
  have hne2 : ¬ w.heap.size = R := fun h => hne1 h.symm
  have hne3 : ¬ IB = R := by omega
  have hne4 : ¬ R = IB := by omega
  have hne5 : ¬ w.heap.size = IB := by omega
  have HB3 := Lib.hid (HZ1.out.other (B' := R) hne2 4 (.slice a' (ws.drop m).length c'))
  have HFIN := Lib.hid (HF1.out.trans (FrR.set (a := w2) (R := R) 4 (.slice a' (ws.drop m).length c')))
  have HRF := Lib.hid (Blk.set 4 (.slice a' (ws.drop m).length c') HR2.out)
  generalize hLD : (ws.drop m).length = LD at *
  have HLD := Lib.hid hLD
  clear hLD
  go_wp2
  have bF := ((HB3.out.set 0 (.int .i64 K)).set 1 (.int .i64 N))
  have e0 := bF.cell 0
  have e1 := bF.cell 1
  simp at e0 e1
  have hF := (FrR.setNew (FrR.setNew HFIN.out (Nat.le_refl _) (Nat.le_of_lt hRl) 0 (.int .i64 K)) (Nat.le_refl _) (Nat.le_of_lt hRl) 1 (.int .i64 N))
  exact bodyPost_ret (v := .agg #[.int .i64 K, .int .i64 N]) (by simp [results, Tryz.results66, go_sem, e0, e1]) rfl ⟨rfl, .slice a' LD c', HWN.out.below hF.1 hF.2.1, (Blk.other (Blk.other HRF.out hne1 0 (.int .i64 K)) hne1 1 (.int .i64 N)), hF⟩
set_option maxRecDepth 100000 in
set_option maxHeartbeats 4000000 in
theorem act_bad {R : Nat} {k n : Int} {x : Bool} {vr vw : Value} {cnt : Int} {ws : List ByteArray} {K N M0 E : Int} (hbig : ws.length ≤ 1000000) (hsz : ∀ s ∈ ws, s.size ≤ 1000000) (hans : ActP.readAns ws = (K, N, M0, E)) (hne : E ≠ 0) (w : World) (hR : RdB w R k n x vr vw cnt) (hW : PWords R w vw ws) :
    Calls Tryz.prog 66 #[.pointer (some ⟨R, 0, none⟩)] w fun e w' => e = .panicked (wrongP (formE E)) ∧ FrR R w w' := by
  have hRl := Blk.lt hR
  have hz0 := (Below.refl w.heap.size w).alloc (Nat.le_refl _) (.cells #[.int .i64 0, .int .i64 0] 23)
  have hcall := ActP.read_any vw ws hbig hsz (w.alloc (.cells #[.int .i64 0, .int .i64 0] 23)) (hW.below (hz0.mono (Nat.le_of_lt hRl)) hz0.size).act
  rw [hans] at hcall
  have hcall2 : Calls Tryz.prog 81 #[vw] (w.alloc (.cells #[.int .i64 0, .int .i64 0] 23)) fun e w' => e = .returned (.tuple #[.agg #[.int .i64 K, .int .i64 N], .int .i64 M0, .int .i64 E]) ∧ Below (w.alloc (.cells #[.int .i64 0, .int .i64 0] 23)).heap.size (w.alloc (.cells #[.int .i64 0, .int .i64 0] 23)) w' := hcall
  have HCALL := Lib.hid hcall2
  have HR0 := Lib.hid (RdB.below hR hz0 hRl)
  have HF := Lib.hid (FrR.alloc (a := w) (R := R) (.cells #[.int .i64 0, .int .i64 0] 23) (Nat.le_of_lt hRl))
  have HTO := Lib.hid (fun W => ptold_bad E hne W)
  obtain ⟨a, c, rfl, hle, _⟩ := id hW
  have z4 := Blk.cell HR0.out 4
  simp only [List.getElem?_toArray, List.getElem?_cons_zero, List.getElem?_cons_succ] at z4
  clear hcall hcall2 hz0 hR hW hans hsz hne
  go_enter Tryz.func66, Tryz.ntmps66
  go_wp2_with fail
  refine HCALL.out.mono ?_
  rintro e w1 ⟨rfl, hb1⟩
  have HF1 := Lib.hid ((HF.out.trans (FrR.below hb1 (by simp; omega))).trans (FrR.alloc (.cells #[.int .i64 K, .int .i64 N] 23) (by have := hb1.size; simp at this; omega)))
  clear hb1 HR0 HF z4 HCALL
  go_wp2_with fail
  refine (HTO.out _).mono ?_
  rintro e _ ⟨rfl, rfl⟩
  go_wp2
  exact ⟨rfl, rfl, HF1.out⟩

set_option maxRecDepth 100000 in
set_option maxHeartbeats 4000000 in
theorem cnd_ok {R : Nat} {k n : Int} {x : Bool} {vr vw : Value} {cnt : Int} {ws : List ByteArray} {A O M V : Int} {m : Nat} (hbig : ws.length ≤ 1000000) (hsz : ∀ s ∈ ws, s.size ≤ 1000000) (hans : CondP.readAns ws = ⟨A, O, M, V, (m : Int), 0⟩) (hml : m ≤ ws.length) (w : World) (hE : CondP.ErrV w) (hR : RdB w R k n x vr vw cnt) (hW : PWords R w vw ws) :
    Calls Tryz.prog 67 #[.pointer (some ⟨R, 0, none⟩)] w fun e w' => e = .returned (.agg #[.int .i64 A, .int .i64 O, .int .u64 M, .int .u64 V]) ∧ ∃ vw', PWords R w' vw' (ws.drop m) ∧ RdB w' R k n x vr vw' cnt ∧ FrR R w w' := by
  obtain ⟨vw', hW', hrun⟩ := hW.drop m hml
  obtain ⟨a', c', rfl, _⟩ := id hW'
  have hRl := Blk.lt hR
  have hz0 := (Below.refl w.heap.size w).alloc (Nat.le_refl _) (.cells #[.int .i64 0, .int .i64 0, .int .u64 0, .int .u64 0] 74)
  have hcall := CondP.read_any vw ws hbig hsz (w.alloc (.cells #[.int .i64 0, .int .i64 0, .int .u64 0, .int .u64 0] 74)) (hE.below hz0) (hW.below (hz0.mono (Nat.le_of_lt hRl)) hz0.size).cond
  rw [hans] at hcall
  have hcall2 : Calls Tryz.prog 83 #[vw] (w.alloc (.cells #[.int .i64 0, .int .i64 0, .int .u64 0, .int .u64 0] 74)) fun e w' => e = .returned (.tuple #[.agg #[.int .i64 A, .int .i64 O, .int .u64 M, .int .u64 V], .int .i64 (m : Int), .int .i64 0]) ∧ Below (w.alloc (.cells #[.int .i64 0, .int .i64 0, .int .u64 0, .int .u64 0] 74)).heap.size (w.alloc (.cells #[.int .i64 0, .int .i64 0, .int .u64 0, .int .u64 0] 74)) w' := hcall
  have HCALL := Lib.hid hcall2
  have HR0 := Lib.hid (RdB.below hR hz0 hRl)
  have HZ := Lib.hid (Blk.new w 74 #[.int .i64 0, .int .i64 0, .int .u64 0, .int .u64 0])
  have HF := Lib.hid (FrR.alloc (a := w) (R := R) (.cells #[.int .i64 0, .int .i64 0, .int .u64 0, .int .u64 0] 74) (Nat.le_of_lt hRl))
  have HWN := Lib.hid hW'
  have hl0 : (m : Int) ≤ (ws.length : Int) := by omega
  obtain ⟨a, c, rfl, hle, _⟩ := id hW
  obtain ⟨L, hL⟩ : ∃ L, ws.length = L := ⟨_, rfl⟩
  rw [hL] at HCALL HR0 hrun hl0
  have z4 := Blk.cell HR0.out 4
  simp only [List.getElem?_toArray, List.getElem?_cons_zero, List.getElem?_cons_succ] at z4
  clear hcall hcall2 hz0 hR hW hW' hL hans hsz hE
  go_enter Tryz.func67, Tryz.ntmps67
  go_wp2_with fail
  refine HCALL.out.mono ?_
  rintro e w1 ⟨rfl, hb1⟩
  have HR1 := Lib.hid (RdB.below HR0.out hb1 (by simp; omega))
  have HZ1 := Lib.hid ((HZ.out.below hb1 (by simp)).alloc (.cells #[.int .i64 A, .int .i64 O, .int .u64 M, .int .u64 V] 74))
  have HF1 := Lib.hid ((HF.out.trans (FrR.below hb1 (by simp; omega))).trans (FrR.alloc (.cells #[.int .i64 A, .int .i64 O, .int .u64 M, .int .u64 V] 74) (by have := hb1.size; simp at this; omega)))
  have HR2 := Lib.hid (RdB.below HR1.out ((Below.refl w1.heap.size w1).alloc (Nat.le_refl _) (.cells #[.int .i64 A, .int .i64 O, .int .u64 M, .int .u64 V] 74)) (by have := hb1.size; simp at this; omega))
  have HI := Lib.hid (Blk.new w1 74 #[.int .i64 A, .int .i64 O, .int .u64 M, .int .u64 V])
  have hlt1 : w.heap.size < w1.heap.size := by have := hb1.size; simp at this; omega
  clear hb1 HR0 HZ HF HR1 z4 HCALL
  go_upto_region 2 with fail
  generalize w1.alloc (.cells #[.int .i64 A, .int .i64 O, .int .u64 M, .int .u64 V] 74) = w2 at *
  generalize w1.heap.size = IB at *
  go_wp2_with fail
  refine (ptold_ok _).mono ?_
  rintro e _ ⟨rfl, rfl⟩
  have z4 := Blk.cell HR2.out 4
  have f4 := Blk.frozen HR2.out 4
  have d0 := HI.out.cell 0
  have d1 := HI.out.cell 1
  have d2 := HI.out.cell 2
  have d3 := HI.out.cell 3
  have y0 := HZ1.out.cell 0
  have g0 := HZ1.out.frozen 0
  have y1 := HZ1.out.cell 1
  have g1 := HZ1.out.frozen 1
  have y2 := HZ1.out.cell 2
  have g2 := HZ1.out.frozen 2
  have y3 := HZ1.out.cell 3
  have g3 := HZ1.out.frozen 3
  simp only [List.getElem?_toArray, List.getElem?_cons_zero, List.getElem?_cons_succ] at z4 d0 d1 d2 d3 y0 y1 y2 y3
  have hne1 : ¬ R = w.heap.size := Nat.ne_of_lt hRl
  have hne2 : ¬ w.heap.size = R := fun h => hne1 h.symm
  have hne3 : ¬ IB = R := by omega
  have hne4 : ¬ R = IB := by omega
  have hne5 : ¬ w.heap.size = IB := by omega
  have HB3 := Lib.hid (HZ1.out.other (B' := R) hne2 4 (.slice a' (ws.drop m).length c'))
  have HFIN := Lib.hid (HF1.out.trans (FrR.set (a := w2) (R := R) 4 (.slice a' (ws.drop m).length c')))
  have HRF := Lib.hid (Blk.set 4 (.slice a' (ws.drop m).length c') HR2.out)
  generalize hLD : (ws.drop m).length = LD at *
  have HLD := Lib.hid hLD
  clear hLD
  go_wp2
  have bF := ((((HB3.out.set 0 (.int .i64 A)).set 1 (.int .i64 O)).set 2 (.int .u64 M)).set 3 (.int .u64 V))
  have e0 := bF.cell 0
  have e1 := bF.cell 1
  have e2 := bF.cell 2
  have e3 := bF.cell 3
  simp at e0 e1 e2 e3
  have hF := (FrR.setNew (FrR.setNew (FrR.setNew (FrR.setNew HFIN.out (Nat.le_refl _) (Nat.le_of_lt hRl) 0 (.int .i64 A)) (Nat.le_refl _) (Nat.le_of_lt hRl) 1 (.int .i64 O)) (Nat.le_refl _) (Nat.le_of_lt hRl) 2 (.int .u64 M)) (Nat.le_refl _) (Nat.le_of_lt hRl) 3 (.int .u64 V))
  exact bodyPost_ret (v := .agg #[.int .i64 A, .int .i64 O, .int .u64 M, .int .u64 V]) (by simp [results, Tryz.results67, go_sem, e0, e1, e2, e3]) rfl ⟨rfl, .slice a' LD c', HWN.out.below hF.1 hF.2.1, (Blk.other (Blk.other (Blk.other (Blk.other HRF.out hne1 0 (.int .i64 A)) hne1 1 (.int .i64 O)) hne1 2 (.int .u64 M)) hne1 3 (.int .u64 V)), hF⟩
set_option maxRecDepth 100000 in
set_option maxHeartbeats 4000000 in
theorem cnd_bad {R : Nat} {k n : Int} {x : Bool} {vr vw : Value} {cnt : Int} {ws : List ByteArray} {A O M V M0 E : Int} (hbig : ws.length ≤ 1000000) (hsz : ∀ s ∈ ws, s.size ≤ 1000000) (hans : CondP.readAns ws = ⟨A, O, M, V, M0, E⟩) (hne : E ≠ 0) (w : World) (hE : CondP.ErrV w) (hR : RdB w R k n x vr vw cnt) (hW : PWords R w vw ws) :
    Calls Tryz.prog 67 #[.pointer (some ⟨R, 0, none⟩)] w fun e w' => e = .panicked (wrongP (formE E)) ∧ FrR R w w' := by
  have hRl := Blk.lt hR
  have hz0 := (Below.refl w.heap.size w).alloc (Nat.le_refl _) (.cells #[.int .i64 0, .int .i64 0, .int .u64 0, .int .u64 0] 74)
  have hcall := CondP.read_any vw ws hbig hsz (w.alloc (.cells #[.int .i64 0, .int .i64 0, .int .u64 0, .int .u64 0] 74)) (hE.below hz0) (hW.below (hz0.mono (Nat.le_of_lt hRl)) hz0.size).cond
  rw [hans] at hcall
  have hcall2 : Calls Tryz.prog 83 #[vw] (w.alloc (.cells #[.int .i64 0, .int .i64 0, .int .u64 0, .int .u64 0] 74)) fun e w' => e = .returned (.tuple #[.agg #[.int .i64 A, .int .i64 O, .int .u64 M, .int .u64 V], .int .i64 M0, .int .i64 E]) ∧ Below (w.alloc (.cells #[.int .i64 0, .int .i64 0, .int .u64 0, .int .u64 0] 74)).heap.size (w.alloc (.cells #[.int .i64 0, .int .i64 0, .int .u64 0, .int .u64 0] 74)) w' := hcall
  have HCALL := Lib.hid hcall2
  have HR0 := Lib.hid (RdB.below hR hz0 hRl)
  have HF := Lib.hid (FrR.alloc (a := w) (R := R) (.cells #[.int .i64 0, .int .i64 0, .int .u64 0, .int .u64 0] 74) (Nat.le_of_lt hRl))
  have HTO := Lib.hid (fun W => ptold_bad E hne W)
  obtain ⟨a, c, rfl, hle, _⟩ := id hW
  have z4 := Blk.cell HR0.out 4
  simp only [List.getElem?_toArray, List.getElem?_cons_zero, List.getElem?_cons_succ] at z4
  clear hcall hcall2 hz0 hR hW hans hsz hne hE
  go_enter Tryz.func67, Tryz.ntmps67
  go_wp2_with fail
  refine HCALL.out.mono ?_
  rintro e w1 ⟨rfl, hb1⟩
  have HF1 := Lib.hid ((HF.out.trans (FrR.below hb1 (by simp; omega))).trans (FrR.alloc (.cells #[.int .i64 A, .int .i64 O, .int .u64 M, .int .u64 V] 74) (by have := hb1.size; simp at this; omega)))
  clear hb1 HR0 HF z4 HCALL
  go_wp2_with fail
  refine (HTO.out _).mono ?_
  rintro e _ ⟨rfl, rfl⟩
  go_wp2
  exact ⟨rfl, rfl, HF1.out⟩
end Go.Proofs.YtmjipkdejggbfaaGreatDoor
