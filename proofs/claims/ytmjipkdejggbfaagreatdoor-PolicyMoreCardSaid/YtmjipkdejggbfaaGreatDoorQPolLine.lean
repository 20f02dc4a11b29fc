/- policy: the reader's line. -/
import Derived.Test.YtmjipkdejggbfaaGreatDoorQPolDo
namespace Go.Proofs.YtmjipkdejggbfaaGreatDoor
open Go Go.Proofs Go.RowKit Go.Maps Go.WideMaps Go.ChangeMaps

theorem bytesT {a b : ByteArray} (h : a.toList = b.toList) : a = b := by
  rw [ByteArray.toList_eq, ByteArray.toList_eq] at h
  exact ByteArray.ext (Array.toList_inj.1 h)
def lpPost (R : Nat) (vr : Value) (cnt : Nat) (w : World) (res : Int ⊕ PSt) (e : Ending) (w' : World) : Prop :=
  match res with
  | .inl c => e = .returned (.int .i64 c) ∧ FrR R w w'
  | .inr st => e = .returned (.int .i64 0) ∧ FrV R vr.ownBlock w w' ∧ ∃ vr' vw', RdB w' R st.k st.n st.x vr' vw' ((cnt : Int) + 1) ∧ RulesR TRl TCd (R + 1) w' vr' st.rules
theorem FrR.trV {R : Nat} {row : Option Nat} {a b c : World} (h : FrR R a b) (k : FrV R row b c) : FrV R row a c := ⟨h.1.trans k.1, Nat.le_trans h.2.1 k.2.1, fun j hj hne hr => (k.2.2 j (Nat.lt_of_lt_of_le hj h.2.1) hne hr).trans (h.2.2 j hj hne)⟩
theorem FrV.setR {R : Nat} {row : Option Nat} {a b : World} (h : FrV R row a b) (j : Nat) (v : Value) : FrV R row a (b.setCell ⟨R, j, none⟩ v) :=
  ⟨h.1.setCell (p := ⟨R, j, none⟩) (Nat.le_refl _) _, by have := h.2.1; simpa using this, fun k hk hne hr => (Below.heap_setCell b ⟨R, j, none⟩ v k hne).trans (h.2.2 k hk hne hr)⟩
theorem FrV.setNew {R B : Nat} {row : Option Nat} {a b : World} (h : FrV R row a b) (hB : a.heap.size ≤ B) (hR : R ≤ a.heap.size) (j : Nat) (v : Value) : FrV R row a (b.setCell ⟨B, j, none⟩ v) :=
  ⟨h.1.setCell (p := ⟨B, j, none⟩) (Nat.le_trans hR hB) _, by have := h.2.1; simpa using this, fun k hk hne hr => (Below.heap_setCell b ⟨B, j, none⟩ v k (show k ≠ B by omega)).trans (h.2.2 k hk hne hr)⟩
theorem FrV.blk {R : Nat} {row : Option Nat} {a b : World} {B : Nat} {t : TypeId} {cs : Array Value} (h : FrV R row a b) (hB : Blk a B t cs) (hne : B ≠ R) (hr : some B ≠ row) : Blk b B t cs := (h.2.2 B hB.lt hne hr).trans hB
theorem ownP_setO {W : World} {B e size n g j t : Nat} {v u : Value} {xs : List Value} {cs : Array Value} (h : W.ownsRow B e size v n xs) (hg : Blk W g t cs) (hne : e ≠ t) : (W.setCell ⟨g, j, none⟩ u).ownsRow B e size v n xs := by
  refine ⟨h.1, ?_⟩
  rcases h.2 with h2 | ⟨g1, cap, cur, h1, h2, h3, h4⟩
  · exact .inl h2
  · refine .inr ⟨g1, cap, cur, h1, h2, (Below.heap_setCell W ⟨g, j, none⟩ u g1 (show g1 ≠ g from fun e2 => ?_)).trans h3, h4⟩
    subst e2
    have := h3.symm.trans hg
    exact hne (by injection this with h5; injection h5)
theorem RulesR.setO {R g j t : Nat} {W : World} {v u : Value} {rs : List PRule} {cs : Array Value} (h : RulesR TRl TCd (R + 1) W v rs) (hg : Blk W g t cs) (h1 : TRl ≠ t) (h2 : TCd ≠ t) : RulesR TRl TCd (R + 1) (W.setCell ⟨g, j, none⟩ u) v rs := by
  obtain ⟨us, e1, e2, e3⟩ := h
  exact ⟨us, e1, ownP_setO e2 hg h1, fun j u r hu hr => ownP_setO (e3 j u r hu hr) hg h2⟩
theorem blk_setB {W : World} {B MB : Nat} {t : TypeId} {cs : Array Value} {o : Obj} (h : Blk W B t cs) (hne : B ≠ MB) : Blk (setBlock W MB o) B t cs := by
  show (W.heap.setIfInBounds MB o)[B]? = _
  rw [Array.getElem?_setIfInBounds_ne (Ne.symm hne)]
  exact h
theorem frR_setB {R MB : Nat} {a b : World} (h : FrR R a b) (hM : a.heap.size ≤ MB) (hR : R ≤ a.heap.size) (o : Obj) : FrR R a (setBlock b MB o) :=
  ⟨⟨h.1.os, h.1.tape, h.1.output, by have := h.1.size; simpa [setBlock] using this, fun k hk => by
      have h1 := h.1.block k hk
      show (b.heap.setIfInBounds MB o)[k]? = _
      rw [Array.getElem?_setIfInBounds_ne (by omega)]
      exact h1⟩,
    by have := h.2.1; simpa [setBlock] using this, fun k hk hne => by
      show (b.heap.setIfInBounds MB o)[k]? = _
      rw [Array.getElem?_setIfInBounds_ne (by omega)]
      exact h.2.2 k hk hne⟩
set_option maxRecDepth 100000 in
set_option maxHeartbeats 8000000 in
theorem pline_any {R : Nat} {st : PSt} {vr vw vws : Value} {cnt : Nat} {w0 : ByteArray} {r : List ByteArray} (hcnt : cnt ≤ 1000000) (hs : w0.size ≤ 1000000) (hbig : r.length ≤ 900000) (hsz : ∀ s ∈ r, s.size ≤ 1000000) (w : World) (hE : CondP.ErrV w) (hgR : 5 < R) (hR : RdB w R st.k st.n st.x vr vw (cnt : Int)) (hW : PWords R w vws (w0 :: r)) (hRR : RulesR TRl TCd (R + 1) w vr st.rules) :
    Calls Tryz.prog 19 #[.pointer (some ⟨R, 0, none⟩), vws] w (lpPost R vr cnt w (pLine cnt st w0 r)) := by
  have hmf : ∀ (fn : Fn) (first cap : Array Value) (w : World), (Instr.makeFunc fn first cap).run Tryz.prog w = .ok (.func fn first cap) w := fun _ _ _ _ => rfl
  have hfn : ∀ (fn : Fn) (first cap : Array Value) (w : World), (binOp .eql 1 (.func fn first cap) .nilFunc).run Tryz.prog w = .ok (.bool false) w := fun _ _ _ _ => by kernel_rfl
  have hnn : ∀ (w : World), (binOp .eql 1 .nilFunc .nilFunc).run Tryz.prog w = .ok (.bool true) w := fun _ => by kernel_rfl
  have hmm := @run_makeMap Tryz.prog
  have hRl := Blk.lt hR
  have HR := Lib.hid hR
  have HW := Lib.hid hW
  have HRR := Lib.hid hRR
  have HE := Lib.hid hE
  have HSZ := Lib.hid hsz
  obtain ⟨RES, hRES⟩ : ∃ RES, pLine cnt st w0 r = RES := ⟨_, rfl⟩
  rw [hRES]
  have HRES := Lib.hid hRES
  have HFA := Lib.hid ((FrR.alloc (a := w) (R := R) (.cells #[.pointer (some ⟨R, 0, none⟩)] 53) (Nat.le_of_lt hRl)).trans (FrR.alloc (.cells #[.int .i64 0] 27) (by simp; omega)))
  have HP0 := Lib.hid ((Blk.new w 53 #[.pointer (some ⟨R, 0, none⟩)]).alloc (.cells #[.int .i64 0] 27))
  have he0 := Blk.new (w.alloc (.cells #[.pointer (some ⟨R, 0, none⟩)] 53)) 27 #[.int .i64 0]
  simp only [World.size_alloc] at he0
  have HE0 := Lib.hid he0
  have HR1 : Hid (RdB ((w.alloc (.cells #[.pointer (some ⟨R, 0, none⟩)] 53)).alloc (.cells #[.int .i64 0] 27)) R st.k st.n st.x vr vw (cnt : Int)) := (Blk.alloc (Blk.alloc hR _) _)
  clear hR hW hRR hE hsz hRES he0
  go_enter_defers Tryz.func19, Tryz.ntmps19
  obtain ⟨wb, woff, wcap, rfl, _, _⟩ := HW.out.head
  go_upto_region 2 with fail
  generalize (w.alloc (.cells #[.pointer (some ⟨R, 0, none⟩)] 53)).alloc (.cells #[.int .i64 0] 27) = w1 at *
  have z4 := HR1.out.parts.2.2.2.2.1
  have f4 := Blk.frozen HR1.out 4
  have p0 := HP0.out.cell 0
  simp only [List.getElem?_toArray, List.getElem?_cons_zero, List.getElem?_cons_succ] at p0
  have hne1 : ¬ R = w.heap.size := Nat.ne_of_lt hRl
  have hne2 : ¬ R = w.heap.size + 1 := by omega
  have hP0l := HP0.out.lt
  have hE0l := HE0.out.lt
  -- the words
  have HR2 : Hid (RdB (w1.setCell ⟨R, 4, none⟩ (.slice (some ⟨wb, woff, none⟩) (r.length + 1) wcap)) R st.k st.n st.x vr (.slice (some ⟨wb, woff, none⟩) (r.length + 1) wcap) (cnt : Int)) := Blk.set 4 _ HR1.out
  have HF2 := Lib.hid (HFA.out.trans (FrR.set (a := w1) (R := R) 4 (.slice (some ⟨wb, woff, none⟩) (r.length + 1) wcap)))
  have HW2 := Lib.hid (HW.out.below HF2.out.1 HF2.out.2.1)
  have HP2 := Lib.hid (HP0.out.other (B' := R) (Ne.symm hne1) 4 (.slice (some ⟨wb, woff, none⟩) (r.length + 1) wcap))
  have HE2 := Lib.hid (HE0.out.other (B' := R) (Ne.symm hne2) 4 (.slice (some ⟨wb, woff, none⟩) (r.length + 1) wcap))
  have HZ2 : Hid ((w1.setCell ⟨R, 4, none⟩ (.slice (some ⟨wb, woff, none⟩) (r.length + 1) wcap)).heap.size = w1.heap.size) := by show _ = _; simp
  go_upto_region 3 with fail
  clear HR1 HFA HW HP0 HE0 z4 f4 p0
  generalize w1.setCell ⟨R, 4, none⟩ (.slice (some ⟨wb, woff, none⟩) (r.length + 1) wcap) = w2 at *
  have p0 := HP2.out.cell 0
  simp only [List.getElem?_toArray, List.getElem?_cons_zero, List.getElem?_cons_succ] at p0
  go_wp2_with fail
  refine (next_any (by omega) w2 HR2.out HW2.out).mono ?_
  rintro e w3 ⟨rfl, vw3, hw3, hr3, hs3⟩
  have HZ3 : Hid (w3.heap.size = w2.heap.size) := by show _ = _; rw [hs3]; simp
  have hS0 : w.heap.size + 2 ≤ w3.heap.size := by have := HZ2.out; have := HZ3.out; omega
  have HF3 := Lib.hid ((HF2.out.trans (FrR.ofSet hs3)).trans (FrR.alloc (.cells #[.string w0] 9) (by omega)))
  have HR3 : Hid (RdB (w3.alloc (.cells #[.string w0] 9)) R st.k st.n st.x vr vw3 (cnt : Int)) := Blk.alloc hr3 _
  have HP3 : Hid (Blk (w3.alloc (.cells #[.string w0] 9)) w.heap.size 53 #[.pointer (some ⟨R, 0, none⟩)]) := Blk.alloc ((FrR.ofSet hs3).blk HP2.out (Ne.symm hne1)) _
  have HE3 : Hid (Blk (w3.alloc (.cells #[.string w0] 9)) (w.heap.size + 1) 27 #[.int .i64 0]) := Blk.alloc ((FrR.ofSet hs3).blk HE2.out (Ne.symm hne2)) _
  have HS3 := Lib.hid (Blk.new w3 9 #[.string w0])
  have HW3 := Lib.hid (hw3.below ((Below.refl R w3).alloc (by omega) (.cells #[.string w0] 9)) (by simp))
  clear hw3 hr3 hs3 HR2 HF2 HW2 HP2 HE2 p0
  go_upto_region 4 with fail
  have hM0 : w3.heap.size < (w3.alloc (.cells #[.string w0] 9)).heap.size := by simp
  generalize w3.alloc (.cells #[.string w0] 9) = w4 at *
  generalize w3.heap.size = S0 at *
  -- the map
  have hb5 := World.alloc_heap_new w4 (.map #[] 0)
  have HI1 := Lib.hid (fm_ins (W := w4.alloc (.map #[] 0)) ⟨#[100, 101, 102, 97, 117, 108, 116]⟩ (by decide) (.func (.func 42) #[.pointer (some ⟨R, 0, none⟩)] #[]) hb5 (fun e he => by simp at he))
  have hb6 := heap_setBlock_same hb5 (.map #[⟨.string ⟨#[100, 101, 102, 97, 117, 108, 116]⟩, .func (.func 42) #[.pointer (some ⟨R, 0, none⟩)] #[], 0⟩] 1)
  have HF6 := Lib.hid (frR_setB (HF3.out.trans (FrR.alloc (.map #[] 0) (by omega))) (MB := w4.heap.size) (by omega) (by omega) (.map #[⟨.string ⟨#[100, 101, 102, 97, 117, 108, 116]⟩, .func (.func 42) #[.pointer (some ⟨R, 0, none⟩)] #[], 0⟩] 1))
  have HR6 : Hid (RdB (setBlock (w4.alloc (.map #[] 0)) w4.heap.size (.map #[⟨.string ⟨#[100, 101, 102, 97, 117, 108, 116]⟩, .func (.func 42) #[.pointer (some ⟨R, 0, none⟩)] #[], 0⟩] 1)) R st.k st.n st.x vr vw3 (cnt : Int)) := blk_setB (Blk.alloc HR3.out _) (by omega)
  have HP6 := Lib.hid (blk_setB (MB := w4.heap.size) (o := (.map #[⟨.string ⟨#[100, 101, 102, 97, 117, 108, 116]⟩, .func (.func 42) #[.pointer (some ⟨R, 0, none⟩)] #[], 0⟩] 1)) (HP3.out.alloc (.map #[] 0)) (by omega))
  have HE6 := Lib.hid (blk_setB (MB := w4.heap.size) (o := (.map #[⟨.string ⟨#[100, 101, 102, 97, 117, 108, 116]⟩, .func (.func 42) #[.pointer (some ⟨R, 0, none⟩)] #[], 0⟩] 1)) (HE3.out.alloc (.map #[] 0)) (by omega))
  have HS6 := Lib.hid (blk_setB (MB := w4.heap.size) (o := (.map #[⟨.string ⟨#[100, 101, 102, 97, 117, 108, 116]⟩, .func (.func 42) #[.pointer (some ⟨R, 0, none⟩)] #[], 0⟩] 1)) (HS3.out.alloc (.map #[] 0)) (by omega))
  have hM6 : w4.heap.size < (setBlock (w4.alloc (.map #[] 0)) w4.heap.size (.map #[⟨.string ⟨#[100, 101, 102, 97, 117, 108, 116]⟩, .func (.func 42) #[.pointer (some ⟨R, 0, none⟩)] #[], 0⟩] 1)).heap.size := by simp [setBlock]
  obtain ⟨w6, hw6⟩ : ∃ w6, setBlock (w4.alloc (.map #[] 0)) w4.heap.size (.map #[⟨.string ⟨#[100, 101, 102, 97, 117, 108, 116]⟩, .func (.func 42) #[.pointer (some ⟨R, 0, none⟩)] #[], 0⟩] 1) = w6 := ⟨_, rfl⟩
  have i1 : (Instr.mapUpdate 101 (.map (some w4.heap.size)) (.string ⟨#[100, 101, 102, 97, 117, 108, 116]⟩) (.func (.func 42) #[.pointer (some ⟨R, 0, none⟩)] #[])).run Tryz.prog (w4.alloc (.map #[] 0)) = .ok () w6 := by rw [← hw6]; exact HI1.out
  rw [hw6] at hb6 HF6 HR6 HP6 HE6 HS6 hM6
  have HI2 := Lib.hid (fm_ins (W := w6) ⟨#[120, 51, 50]⟩ (by decide) (.func (.func 43) #[.pointer (some ⟨R, 0, none⟩)] #[]) hb6 (fun e he => by simp at he; subst he; exact ⟨⟨#[100, 101, 102, 97, 117, 108, 116]⟩, rfl, by decide, by decide⟩))
  have hb7 := heap_setBlock_same hb6 (.map #[⟨.string ⟨#[100, 101, 102, 97, 117, 108, 116]⟩, .func (.func 42) #[.pointer (some ⟨R, 0, none⟩)] #[], 0⟩, ⟨.string ⟨#[120, 51, 50]⟩, .func (.func 43) #[.pointer (some ⟨R, 0, none⟩)] #[], 1⟩] 2)
  have HF7 := Lib.hid (frR_setB HF6.out (MB := w4.heap.size) (by omega) (by omega) (.map #[⟨.string ⟨#[100, 101, 102, 97, 117, 108, 116]⟩, .func (.func 42) #[.pointer (some ⟨R, 0, none⟩)] #[], 0⟩, ⟨.string ⟨#[120, 51, 50]⟩, .func (.func 43) #[.pointer (some ⟨R, 0, none⟩)] #[], 1⟩] 2))
  have HR7 : Hid (RdB (setBlock w6 w4.heap.size (.map #[⟨.string ⟨#[100, 101, 102, 97, 117, 108, 116]⟩, .func (.func 42) #[.pointer (some ⟨R, 0, none⟩)] #[], 0⟩, ⟨.string ⟨#[120, 51, 50]⟩, .func (.func 43) #[.pointer (some ⟨R, 0, none⟩)] #[], 1⟩] 2)) R st.k st.n st.x vr vw3 (cnt : Int)) := blk_setB HR6.out (by omega)
  have HP7 := Lib.hid (blk_setB (MB := w4.heap.size) (o := (.map #[⟨.string ⟨#[100, 101, 102, 97, 117, 108, 116]⟩, .func (.func 42) #[.pointer (some ⟨R, 0, none⟩)] #[], 0⟩, ⟨.string ⟨#[120, 51, 50]⟩, .func (.func 43) #[.pointer (some ⟨R, 0, none⟩)] #[], 1⟩] 2)) HP6.out (by omega))
  have HE7 := Lib.hid (blk_setB (MB := w4.heap.size) (o := (.map #[⟨.string ⟨#[100, 101, 102, 97, 117, 108, 116]⟩, .func (.func 42) #[.pointer (some ⟨R, 0, none⟩)] #[], 0⟩, ⟨.string ⟨#[120, 51, 50]⟩, .func (.func 43) #[.pointer (some ⟨R, 0, none⟩)] #[], 1⟩] 2)) HE6.out (by omega))
  have HS7 := Lib.hid (blk_setB (MB := w4.heap.size) (o := (.map #[⟨.string ⟨#[100, 101, 102, 97, 117, 108, 116]⟩, .func (.func 42) #[.pointer (some ⟨R, 0, none⟩)] #[], 0⟩, ⟨.string ⟨#[120, 51, 50]⟩, .func (.func 43) #[.pointer (some ⟨R, 0, none⟩)] #[], 1⟩] 2)) HS6.out (by omega))
  have hM7 : w4.heap.size < (setBlock w6 w4.heap.size (.map #[⟨.string ⟨#[100, 101, 102, 97, 117, 108, 116]⟩, .func (.func 42) #[.pointer (some ⟨R, 0, none⟩)] #[], 0⟩, ⟨.string ⟨#[120, 51, 50]⟩, .func (.func 43) #[.pointer (some ⟨R, 0, none⟩)] #[], 1⟩] 2)).heap.size := by simpa [setBlock] using hM6
  obtain ⟨w7, hw7⟩ : ∃ w7, setBlock w6 w4.heap.size (.map #[⟨.string ⟨#[100, 101, 102, 97, 117, 108, 116]⟩, .func (.func 42) #[.pointer (some ⟨R, 0, none⟩)] #[], 0⟩, ⟨.string ⟨#[120, 51, 50]⟩, .func (.func 43) #[.pointer (some ⟨R, 0, none⟩)] #[], 1⟩] 2) = w7 := ⟨_, rfl⟩
  have i2 : (Instr.mapUpdate 101 (.map (some w4.heap.size)) (.string ⟨#[120, 51, 50]⟩) (.func (.func 43) #[.pointer (some ⟨R, 0, none⟩)] #[])).run Tryz.prog w6 = .ok () w7 := by rw [← hw7]; exact HI2.out
  rw [hw7] at hb7 HF7 HR7 HP7 HE7 HS7 hM7
  have hlk := fm_look (W := w7) w0 hs (by decide) (by decide) (by decide) hb7
  have HLK := Lib.hid hlk
  have HW7 := Lib.hid (HW3.out.below (W' := w7) (by
    have h1 : FrR R w4 w7 := by
      rw [← hw7, ← hw6]
      exact frR_setB (frR_setB (FrR.alloc (.map #[] 0) (by omega)) (Nat.le_refl _) (by omega) _) (Nat.le_refl _) (by omega) _
    exact h1.1) (by omega))
  have HRR7 := Lib.hid (HRR.out.fr HF7.out)
  have HE7v : Hid (CondP.ErrV w7) := HE.out.kept HF7.out.1 hgR
  have hVO : ∀ q, vr.ownBlock = some q → q < w.heap.size := fun q e => by obtain ⟨us, _, h2, _⟩ := HRR.out; exact (h2.lt q e).2
  have HVO := Lib.hid hVO
  clear hw6 hw7 hb5 hb6 hb7 HI1 HI2 hlk hVO HF6 HR6 HE6 HF3 HR3 HE3 HW3 HRR HE
  have p3 := HP3.out.cell 0
  have p4 := (HP3.out.alloc (.map #[] 0)).cell 0
  have p6 := HP6.out.cell 0
  have s7 := HS7.out.cell 0
  have p7 := HP7.out.cell 0
  simp only [List.getElem?_toArray, List.getElem?_cons_zero, List.getElem?_cons_succ] at p3 p4 p6 p7 s7
  have hne3 : ¬ w.heap.size = w4.heap.size := by omega
  -- what the word does
  by_cases hd : (w0.toList == defaultB) = true
  · obtain rfl : w0 = ⟨#[100, 101, 102, 97, 117, 108, 116]⟩ := bytesT ((show w0.toList = defaultB by simpa using hd).trans (by decide +kernel))
    have lk : (Instr.lookup 101 (.map (some w4.heap.size)) (.string ⟨#[100, 101, 102, 97, 117, 108, 116]⟩) false).run Tryz.prog w7 = .ok (.func (.func 42) #[.pointer (some ⟨R, 0, none⟩)] #[]) w7 := by rw [HLK.out, if_pos rfl]
    have hDO := first_do hd (by omega) HSZ.out w7 HR7.out HW7.out HRR7.out
    rw [HRES.out] at hDO
    have HDO := Lib.hid hDO
    clear hDO HLK hd HRES HP3 HP6 HS3 HS6
    cases RES with
    | inl c =>
      go_upto_region 7 with fail
      go_wp2_with fail
      refine HDO.out.mono ?_
      rintro e w8 ⟨rfl, hf8⟩
      have HE8 := Lib.hid (hf8.blk HE7.out (Ne.symm hne2))
      have HF8 := Lib.hid (HF7.out.trans hf8)
      clear hf8
      go_wp2
      refine leaves_cons (f := 40) (args := #[.pointer (some ⟨w.heap.size + 1, 0, none⟩)]) (by simp) (by simp [go_sem]) ?_
      refine (pcatch_wrong c (w.heap.size + 1) _ _ HE8.out).mono ?_
      rintro e u' w'' ⟨rfl, rfl, rfl⟩
      have e0 := ((HE8.out.alloc (.cells #[.int .i64 c] 99)).set 0 (.int .i64 c)).cell 0
      simp at e0
      have hF := (HF8.out.trans (FrR.alloc (.cells #[.int .i64 c] 99) (by have := Blk.lt HE8.out; omega))).setNew (B := w.heap.size + 1) (by omega) (by omega) 0 (.int .i64 c)
      exact ⟨.int .i64 c, by simp [results, Tryz.results19, go_sem, e0], rfl, hF⟩
    | inr st' =>
      go_upto_region 7 with fail
      go_wp2_with fail
      refine HDO.out.mono ?_
      rintro e w8 ⟨rfl, hf8, vr8, vw8, hr8, hrr8⟩
      have HE8 := Lib.hid (hf8.blk HE7.out (Ne.symm hne2) (fun e => by have := HVO.out _ e.symm; omega))
      have HP8 := Lib.hid (hf8.blk HP7.out (Ne.symm hne1) (fun e => by have := HVO.out _ e.symm; omega))
      have HF8 := Lib.hid (HF7.out.trV hf8)
      have HR8 : Hid (RdB w8 R st'.k st'.n st'.x vr8 vw8 (cnt : Int)) := hr8
      have HRR8 := Lib.hid hrr8
      clear hf8 hr8 hrr8
      have p8 := HP8.out.cell 0
      have y8 := HE8.out.cell 0
      have c8 := HR8.out.parts.2.2.2.2.2
      have f8 := Blk.frozen HR8.out 5
      have g8 := Blk.frozen HE8.out 0
      simp only [List.getElem?_toArray, List.getElem?_cons_zero, List.getElem?_cons_succ] at p8 y8
      go_wp2
      refine leaves_cons (f := 40) (args := #[.pointer (some ⟨w.heap.size + 1, 0, none⟩)]) (by simp) (by simp [go_sem]) ?_
      refine (pcatch_idle ⟨w.heap.size + 1, 0, none⟩ _).mono ?_
      rintro e u' w'' ⟨rfl, rfl, rfl⟩
      have hE9 := (HE8.out.other (B' := R) (Ne.symm hne2) 5 (.int .i64 ((cnt : Int) + 1)))
      have e0 := (hE9.set 0 (.int .i64 0)).cell 0
      simp at e0
      have hF := (HF8.out.setR 5 (.int .i64 ((cnt : Int) + 1))).setNew (B := w.heap.size + 1) (by omega) (by omega) 0 (.int .i64 0)
      have hR9 : RdB (w8.setCell ⟨R, 5, none⟩ (.int .i64 ((cnt : Int) + 1))) R st'.k st'.n st'.x vr8 vw8 ((cnt : Int) + 1) := Blk.set 5 _ HR8.out
      have hR10 : RdB ((w8.setCell ⟨R, 5, none⟩ (.int .i64 ((cnt : Int) + 1))).setCell ⟨w.heap.size + 1, 0, none⟩ (.int .i64 0)) R st'.k st'.n st'.x vr8 vw8 ((cnt : Int) + 1) := Blk.other hR9 hne2 0 _
      have hQ := (HRR8.out.setO (g := R) (j := 5) (u := .int .i64 ((cnt : Int) + 1)) HR8.out (by decide) (by decide)).setO (g := w.heap.size + 1) (j := 0) (u := .int .i64 0) hE9 (by decide) (by decide)
      exact ⟨.int .i64 0, by simp [results, Tryz.results19, go_sem, e0], rfl, hF, vr8, vw8, hR10, hQ⟩
  · by_cases hx : (w0.toList == x32B) = true
    · obtain rfl : w0 = ⟨#[120, 51, 50]⟩ := bytesT ((show w0.toList = x32B by simpa using hx).trans (by decide +kernel))
      have lk : (Instr.lookup 101 (.map (some w4.heap.size)) (.string ⟨#[120, 51, 50]⟩) false).run Tryz.prog w7 = .ok (.func (.func 43) #[.pointer (some ⟨R, 0, none⟩)] #[]) w7 := by rw [HLK.out, if_neg (by decide), if_pos rfl]
      have hDO := x32_do (by simpa using hd) hx (by omega) w7 HR7.out HW7.out HRR7.out
      rw [HRES.out] at hDO
      have HDO := Lib.hid hDO
      clear hDO HLK hd hx HRES HP3 HP6 HS3 HS6
      cases RES with
      | inl c =>
        go_upto_region 7 with fail
        go_wp2_with fail
        refine HDO.out.mono ?_
        rintro e w8 ⟨rfl, hf8⟩
        have HE8 := Lib.hid (hf8.blk HE7.out (Ne.symm hne2))
        have HF8 := Lib.hid (HF7.out.trans hf8)
        clear hf8
        go_wp2
        refine leaves_cons (f := 40) (args := #[.pointer (some ⟨w.heap.size + 1, 0, none⟩)]) (by simp) (by simp [go_sem]) ?_
        refine (pcatch_wrong c (w.heap.size + 1) _ _ HE8.out).mono ?_
        rintro e u' w'' ⟨rfl, rfl, rfl⟩
        have e0 := ((HE8.out.alloc (.cells #[.int .i64 c] 99)).set 0 (.int .i64 c)).cell 0
        simp at e0
        have hF := (HF8.out.trans (FrR.alloc (.cells #[.int .i64 c] 99) (by have := Blk.lt HE8.out; omega))).setNew (B := w.heap.size + 1) (by omega) (by omega) 0 (.int .i64 c)
        exact ⟨.int .i64 c, by simp [results, Tryz.results19, go_sem, e0], rfl, hF⟩
      | inr st' =>
        go_upto_region 7 with fail
        go_wp2_with fail
        refine HDO.out.mono ?_
        rintro e w8 ⟨rfl, hf8, vr8, vw8, hr8, hrr8⟩
        have HE8 := Lib.hid (hf8.blk HE7.out (Ne.symm hne2) (fun e => by have := HVO.out _ e.symm; omega))
        have HP8 := Lib.hid (hf8.blk HP7.out (Ne.symm hne1) (fun e => by have := HVO.out _ e.symm; omega))
        have HF8 := Lib.hid (HF7.out.trV hf8)
        have HR8 : Hid (RdB w8 R st'.k st'.n st'.x vr8 vw8 (cnt : Int)) := hr8
        have HRR8 := Lib.hid hrr8
        clear hf8 hr8 hrr8
        have p8 := HP8.out.cell 0
        have y8 := HE8.out.cell 0
        have c8 := HR8.out.parts.2.2.2.2.2
        have f8 := Blk.frozen HR8.out 5
        have g8 := Blk.frozen HE8.out 0
        simp only [List.getElem?_toArray, List.getElem?_cons_zero, List.getElem?_cons_succ] at p8 y8
        go_wp2
        refine leaves_cons (f := 40) (args := #[.pointer (some ⟨w.heap.size + 1, 0, none⟩)]) (by simp) (by simp [go_sem]) ?_
        refine (pcatch_idle ⟨w.heap.size + 1, 0, none⟩ _).mono ?_
        rintro e u' w'' ⟨rfl, rfl, rfl⟩
        have hE9 := (HE8.out.other (B' := R) (Ne.symm hne2) 5 (.int .i64 ((cnt : Int) + 1)))
        have e0 := (hE9.set 0 (.int .i64 0)).cell 0
        simp at e0
        have hF := (HF8.out.setR 5 (.int .i64 ((cnt : Int) + 1))).setNew (B := w.heap.size + 1) (by omega) (by omega) 0 (.int .i64 0)
        have hR9 : RdB (w8.setCell ⟨R, 5, none⟩ (.int .i64 ((cnt : Int) + 1))) R st'.k st'.n st'.x vr8 vw8 ((cnt : Int) + 1) := Blk.set 5 _ HR8.out
        have hR10 : RdB ((w8.setCell ⟨R, 5, none⟩ (.int .i64 ((cnt : Int) + 1))).setCell ⟨w.heap.size + 1, 0, none⟩ (.int .i64 0)) R st'.k st'.n st'.x vr8 vw8 ((cnt : Int) + 1) := Blk.other hR9 hne2 0 _
        have hQ := (HRR8.out.setO (g := R) (j := 5) (u := .int .i64 ((cnt : Int) + 1)) HR8.out (by decide) (by decide)).setO (g := w.heap.size + 1) (j := 0) (u := .int .i64 0) hE9 (by decide) (by decide)
        exact ⟨.int .i64 0, by simp [results, Tryz.results19, go_sem, e0], rfl, hF, vr8, vw8, hR10, hQ⟩
    · have hd' : (w0.toList == defaultB) = false := by simpa using hd
      have hx' : (w0.toList == x32B) = false := by simpa using hx
      have lk : (Instr.lookup 101 (.map (some w4.heap.size)) (.string w0) false).run Tryz.prog w7 = .ok .nilFunc w7 := by
        rw [HLK.out, if_neg (fun e => by rw [e] at hd'; revert hd'; decide +kernel), if_neg (fun e => by rw [e] at hx'; revert hx'; decide +kernel)]
      have hDO := line2_do w7 p7 s7 (rule_do hd' hx' hs (by omega) HSZ.out w7 HE7v.out hgR HR7.out HW7.out HRR7.out)
      rw [HRES.out] at hDO
      have HDO := Lib.hid hDO
      clear hDO HLK hd hx hd' hx' HRES HP3 HP6 HS3 HS6
      cases RES with
      | inl c =>
        go_upto_region 7 with fail
        go_wp2_with fail
        refine HDO.out.mono ?_
        rintro e w8 ⟨rfl, hf8⟩
        have HE8 := Lib.hid (hf8.blk HE7.out (Ne.symm hne2))
        have HF8 := Lib.hid (HF7.out.trans hf8)
        clear hf8
        go_wp2
        refine leaves_cons (f := 40) (args := #[.pointer (some ⟨w.heap.size + 1, 0, none⟩)]) (by simp) (by simp [go_sem]) ?_
        refine (pcatch_wrong c (w.heap.size + 1) _ _ HE8.out).mono ?_
        rintro e u' w'' ⟨rfl, rfl, rfl⟩
        have e0 := ((HE8.out.alloc (.cells #[.int .i64 c] 99)).set 0 (.int .i64 c)).cell 0
        simp at e0
        have hF := (HF8.out.trans (FrR.alloc (.cells #[.int .i64 c] 99) (by have := Blk.lt HE8.out; omega))).setNew (B := w.heap.size + 1) (by omega) (by omega) 0 (.int .i64 c)
        exact ⟨.int .i64 c, by simp [results, Tryz.results19, go_sem, e0], rfl, hF⟩
      | inr st' =>
        go_upto_region 7 with fail
        go_wp2_with fail
        refine HDO.out.mono ?_
        rintro e w8 ⟨rfl, hf8, vr8, vw8, hr8, hrr8⟩
        have HE8 := Lib.hid (hf8.blk HE7.out (Ne.symm hne2) (fun e => by have := HVO.out _ e.symm; omega))
        have HP8 := Lib.hid (hf8.blk HP7.out (Ne.symm hne1) (fun e => by have := HVO.out _ e.symm; omega))
        have HF8 := Lib.hid (HF7.out.trV hf8)
        have HR8 : Hid (RdB w8 R st'.k st'.n st'.x vr8 vw8 (cnt : Int)) := hr8
        have HRR8 := Lib.hid hrr8
        clear hf8 hr8 hrr8
        have p8 := HP8.out.cell 0
        have y8 := HE8.out.cell 0
        have c8 := HR8.out.parts.2.2.2.2.2
        have f8 := Blk.frozen HR8.out 5
        have g8 := Blk.frozen HE8.out 0
        simp only [List.getElem?_toArray, List.getElem?_cons_zero, List.getElem?_cons_succ] at p8 y8
        go_wp2
        refine leaves_cons (f := 40) (args := #[.pointer (some ⟨w.heap.size + 1, 0, none⟩)]) (by simp) (by simp [go_sem]) ?_
        refine (pcatch_idle ⟨w.heap.size + 1, 0, none⟩ _).mono ?_
        rintro e u' w'' ⟨rfl, rfl, rfl⟩
        have hE9 := (HE8.out.other (B' := R) (Ne.symm hne2) 5 (.int .i64 ((cnt : Int) + 1)))
        have e0 := (hE9.set 0 (.int .i64 0)).cell 0
        simp at e0
        have hF := (HF8.out.setR 5 (.int .i64 ((cnt : Int) + 1))).setNew (B := w.heap.size + 1) (by omega) (by omega) 0 (.int .i64 0)
        have hR9 : RdB (w8.setCell ⟨R, 5, none⟩ (.int .i64 ((cnt : Int) + 1))) R st'.k st'.n st'.x vr8 vw8 ((cnt : Int) + 1) := Blk.set 5 _ HR8.out
        have hR10 : RdB ((w8.setCell ⟨R, 5, none⟩ (.int .i64 ((cnt : Int) + 1))).setCell ⟨w.heap.size + 1, 0, none⟩ (.int .i64 0)) R st'.k st'.n st'.x vr8 vw8 ((cnt : Int) + 1) := Blk.other hR9 hne2 0 _
        have hQ := (HRR8.out.setO (g := R) (j := 5) (u := .int .i64 ((cnt : Int) + 1)) HR8.out (by decide) (by decide)).setO (g := w.heap.size + 1) (j := 0) (u := .int .i64 0) hE9 (by decide) (by decide)
        exact ⟨.int .i64 0, by simp [results, Tryz.results19, go_sem, e0], rfl, hF, vr8, vw8, hR10, hQ⟩
end Go.Proofs.YtmjipkdejggbfaaGreatDoor
