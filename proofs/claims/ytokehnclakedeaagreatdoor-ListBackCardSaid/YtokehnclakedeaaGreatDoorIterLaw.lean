/- A range over an iterator that keeps a state of its own in memory (a captured variable, an inner loop's record): its contract, and the law for a loop over it. -/
import Derived.RangeFuncNested
import Derived.RangeFuncBound
import Derived.RangeFuncCalls
import Derived.RangeFuncLeaves
import Derived.WalkKit
import Derived.OwnWalkIn
import Derived.TacticsInMore
namespace Go.Proofs.YtokehnclakedeaaGreatDoor
open Go Go.Proofs Go.RowKit

/-- J abides new blocks, and a turn of any one of these blocks. -/
def AbidesR {β : Type} (own : Nat → Prop) (J : β → World → Prop) : Prop :=
  ∀ s A B row, J s A → A.grownBy B row → (∀ r, row = some r → own r) → J s B

/-- These blocks lie as they lay. -/
def KeepsAt (R : Nat → Prop) (A B : World) : Prop := A.heap.size ≤ B.heap.size ∧ ∀ r, r < A.heap.size → R r → B.heap[r]? = A.heap[r]?

theorem KeepsAt.refl (R : Nat → Prop) (A : World) : KeepsAt R A A := ⟨Nat.le_refl _, fun _ _ _ => rfl⟩
theorem KeepsAt.trans {R : Nat → Prop} {A B C : World} (h : KeepsAt R A B) (k : KeepsAt R B C) : KeepsAt R A C :=
  ⟨Nat.le_trans h.1 k.1, fun r hr hR => (k.2 r (Nat.lt_of_lt_of_le hr h.1) hR).trans (h.2 r hr hR)⟩
theorem KeepsAt.imp {R R' : Nat → Prop} {A B : World} (h : KeepsAt R A B) (hi : ∀ r, r < A.heap.size → R' r → R r) : KeepsAt R' A B := ⟨h.1, fun r hr hR => h.2 r hr (hi r hr hR)⟩
theorem KeepsAt.grown {R : Nat → Prop} {A B : World} {row : Option Nat} (hg : A.grownBy B row) (hr : ∀ r, row = some r → ¬ R r) : KeepsAt R A B :=
  ⟨hg.size, fun k hk hR => hg.block k hk (fun e => hr k e.symm hR)⟩
theorem KeepsAt.below {R : Nat → Prop} {A B : World} (h : Below A.heap.size A B) : KeepsAt R A B := ⟨h.size, fun k hk _ => h.block k hk⟩
theorem KeepsAt.belowN {R : Nat → Prop} {n : Nat} {A B : World} (h : Below n A B) (hs : A.heap.size ≤ B.heap.size) (hR : ∀ r, R r → r < n) : KeepsAt R A B := ⟨hs, fun k _ hk => h.block k (hR k hk)⟩
theorem KeepsAt.putObj {R : Nat → Prop} (A : World) (l : Nat) (o : Obj) (hR : ¬ R l) : KeepsAt R A (A.putObj l o) := .grown (grownBy_putObj' A l o) (fun r e => by cases e; exact hR)
theorem KeepsAt.setCell {R : Nat → Prop} (A : World) (a : Addr) (v : Value) (hR : ¬ R a.block) : KeepsAt R A (A.setCell a v) :=
  ⟨(KeepsOthers.setCell A a v).size, fun k _ hk => Below.heap_setCell A a v k (fun e => hR (e ▸ hk))⟩
theorem KeepsAt.alloc {R : Nat → Prop} (A : World) (o : Obj) : KeepsAt R A (A.alloc o) := .grown (World.grownBy_alloc A o none) (fun r e => by cases e)

theorem AbidesR.alloc {β : Type} {own : Nat → Prop} {J : β → World → Prop} (h : AbidesR own J) {s : β} {W : World} (o : Obj) (hs : J s W) : J s (W.alloc o) := h s W _ none hs (World.grownBy_alloc W o none) (fun r e => by cases e)
theorem AbidesR.putObj {β : Type} {own : Nat → Prop} {J : β → World → Prop} (h : AbidesR own J) {s : β} {W : World} (l : Nat) (o : Obj) (hl : own l) (hs : J s W) : J s (W.putObj l o) := h s W _ (some l) hs (grownBy_putObj' W l o) (fun r e => by cases e; exact hl)
theorem AbidesR.set {β : Type} {own : Nat → Prop} {J : β → World → Prop} (h : AbidesR own J) {s : β} {W : World} (l j : Nat) (v : Value) (hl : own l) (hs : J s W) : J s (W.setCell ⟨l, j, none⟩ v) :=
  h s W _ (some l) hs ⟨rfl, rfl, rfl, by show W.heap.size ≤ (W.heap.modify l _).size; rw [Array.size_modify]; exact Nat.le_refl _, fun k _ hk => Below.heap_setCell W _ v k (fun e => hk (by rw [e]))⟩ (fun r e => by cases e; exact hl)
theorem AbidesR.mono {β : Type} {own own' : Nat → Prop} {J : β → World → Prop} (h : AbidesR own J) (hi : ∀ r, own' r → own r) : AbidesR own' J := fun s A B row hs hg hr => h s A B row hs hg (fun r e => hi r (hr r e))
theorem AbidesR.and {β : Type} {own : Nat → Prop} {J J' : β → World → Prop} (h : AbidesR own J) (h' : AbidesR own J') : AbidesR own (fun s W => J s W ∧ J' s W) := fun s A B row hs hg hr => ⟨h s A B row hs.1 hg hr, h' s A B row hs.2 hg hr⟩
theorem abidesR_pure {β : Type} (own : Nat → Prop) (p : β → Prop) : AbidesR own (fun s (_ : World) => p s) := fun _ _ _ _ hs _ _ => hs
theorem abidesR_block {β : Type} {own : Nat → Prop} {b : Nat} (hb : ¬ own b) (o : β → Obj) : AbidesR own (fun s W => W.heap[b]? = some (o s)) := fun s A B row hs hg hr =>
  (hg.block b (Array.getElem?_eq_some_iff.1 hs).1 (fun e => hb (hr b e.symm))).trans hs
theorem abidesR_below {β : Type} {own : Nat → Prop} {m : Nat} {w : World} (hm : m ≤ w.heap.size) (ho : ∀ r, own r → m ≤ r) : AbidesR own (fun (_ : β) W => Below m w W) := fun _ _ _ _ hs hg hr =>
  hs.grown hg (Nat.le_trans hm hs.size) (fun k e => ho k (hr k e))

/-- The contract of an iterator that turns blocks `own h` (h: the heap's size when it is called), and wants the blocks `kp h` kept in each round; from the first round on there are K blocks more. -/
def SeqStopsR {α : Type} (F : Fence) (n : Nat) (P : Program) (g : Nat) (lb : Array Value) (encs : α → Array Value) (own kp : Nat → Nat → Prop) (K : Nat) (S Sp : List α → Prop) (w : World) : Prop :=
  ∀ (l : Nat) (J Jx : List α → World → Prop) (W : World), Below w.heap.size w W → AbidesR (own W.heap.size) J → AbidesR (own W.heap.size) Jx →
    (∀ pre x W1, J pre W1 → Sp (pre ++ [x]) → W.heap.size + K ≤ W1.heap.size → YieldAt F (n - 1) P l (encs x) W1 fun e W' =>
      KeepsAt (kp W.heap.size) W1 W' ∧ ((e = .returned (.bool true) ∧ J (pre ++ [x]) W') ∨ (e = .returned (.bool false) ∧ Jx (pre ++ [x]) W'))) →
    J [] W →
    CallsIn F n P g (#[.func (.yield l) #[] #[]] ++ lb) W fun e W' => (∃ v, e = .returned v) ∧ ((∃ xs, S xs ∧ J xs W') ∨ (∃ pre, Sp pre ∧ Jx pre W'))

/-- How the body of a round may be left. -/
def ownPostR {α : Type} (R : Nat → Prop) (I : List α → World → Prop) (Ix : Code → List α → World → Prop) (xs : List α) (W : World) : Exit → Act → World → Prop
  | .normal, _, W' => KeepsAt R W W' ∧ I xs W'
  | .ret, _, W' => KeepsAt R W W' ∧ Ix .ret xs W'
  | .exit id, _, W' => KeepsAt R W W' ∧ Ix (.exit id) xs W'
  | .goto t, _, W' => KeepsAt R W W' ∧ Ix (.goto t) xs W'
  | .panic _, _, _ => False
  | .outgrown, _, _ => False

/-- What a round keeps: the law's own two blocks, and what the iterator wants. -/
def roundKeeps (kp : Nat → Nat → Prop) (h : Nat) (r : Nat) : Prop := r = h ∨ r = h + 1 ∨ kp (h + 2) r

variable {F : Fence} {n : Nat} {P : Program}

/-- THE LAW for a loop over such an iterator. -/
theorem wpIn_rangeFunc_ownR {α : Type} {g : Operand} {ps : Array Tmp} {assign body : Code} {Q : Exit → Act → World → Prop} {a : Act} {w : World}
    (hro : F.round = none) (h1 : 1 ≤ n) {gf : Nat} {lb : Array Value} (hg : a.eval g = .func (.func gf) #[] lb) (hFg : F.fn gf) (eg : ∀ args w, (callFunc gf args).run P w = .ok (.enter gf args) w)
    {encs : α → Array Value} {own kp : Nat → Nat → Prop} {K : Nat} {S Sp : List α → Prop} {w0 : World} (hseq : SeqStopsR F (n - 1) P gf lb encs own kp K S Sp w0)
    (hown : ∀ r, own (w.heap.size + 2) r → r ≠ w.heap.size ∧ r ≠ w.heap.size + 1) (hkp : ∀ r, kp (w.heap.size + 2) r → r ≠ w.heap.size ∧ r ≠ w.heap.size + 1)
    (hb0 : Below w0.heap.size w0 w) (hps : ∀ x, (encs x).size = ps.size)
    (I : List α → World → Prop) (Ix : Code → List α → World → Prop) (hI : AbidesR (fun r => r = w.heap.size + 1 ∨ own (w.heap.size + 2) r) I) (hIx : ∀ c, AbidesR (fun r => r = w.heap.size + 1 ∨ own (w.heap.size + 2) r) (Ix c)) (h0 : I [] w)
    (Ax : α → Act → World → Prop) (hAx : ∀ x a', AbidesR (fun r => r = w.heap.size + 1) (fun (_ : Unit) W => Ax x a' W))
    (hassign : ∀ (l : Nat) (pre : List α) (x : α) (W : World) (C : Act → World → Prop), I pre W → Sp (pre ++ [x]) → w.heap.size + 2 + K ≤ W.heap.size → (∀ a' W', KeepsAt (roundKeeps kp w.heap.size) W W' → I pre W' → Ax x a' W' → C a' W') →
      assign.wpIn (F.inRound l) (n - 1 - 1) P (Exit.then C (fun _ _ _ => False)) { tmps := (ps.zip (encs x)).foldl (fun t (p, v) => t.setIfInBounds p v) a.tmps, defers := [] } W)
    (hbody : ∀ (l : Nat) (pre : List α) (x : α) (a' : Act) (W : World), w.heap.size + 2 + K ≤ W.heap.size → Sp (pre ++ [x]) → I pre W → Ax x a' W → body.wpIn (F.inRound l) (n - 1 - 1) P (ownPostR (roundKeeps kp w.heap.size) I Ix (pre ++ [x]) W) a' W)
    (hdone : ∀ (xs : List α) (W : World), S xs → I xs W → W.heap[w.heap.size]? = some (.deferred (some [])) → Q .normal { a with defers := { target := .collected w.heap.size, args := #[] } :: a.defers } W)
    (hstop : ∀ (c : Code) (pre : List α) (W : World), Sp pre → Ix c pre W → W.heap[w.heap.size]? = some (.deferred (some [])) → c.wpIn F n P Q { a with defers := { target := .collected w.heap.size, args := #[] } :: a.defers } W) :
    (Code.rangeFunc g ps assign body).wpIn F n P Q a w := by
  refine wpIn_rangeFunc ?_
  intro fn hfn
  rw [hro]
  obtain ⟨rec, hrec⟩ : ∃ rec : LoopState → Option Code → Loop, rec = fun st pe => { state := st, pending := pe, fn, tmps := a.tmps, params := ps, assign, body, defers := w.heap.size } := ⟨_, rfl⟩
  obtain ⟨W1, hW1⟩ : ∃ W1, (w.alloc (.deferred (some []))).alloc (.loop (rec .ready none)) = W1 := ⟨_, rfl⟩
  have hs1 : W1.heap.size = w.heap.size + 2 := by rw [← hW1]; simp
  have hL1 : W1.heap[w.heap.size + 1]? = some (.loop (rec .ready none)) := by
    have := World.alloc_heap_new (w.alloc (.deferred (some []))) (.loop (rec .ready none))
    rw [World.size_alloc, hW1] at this; exact this
  have hK1 : W1.heap[w.heap.size]? = some (.deferred (some [])) := by
    rw [← hW1]; exact (Below.heap_alloc _ _ _ (by simp)).trans (World.alloc_heap_new w _)
  have hI1 : I [] W1 := by rw [← hW1]; exact hI.alloc _ (hI.alloc _ h0)
  have hb1 : Below w0.heap.size w0 W1 := by
    rw [← hW1]; exact hb0.trans ((((Below.refl _ w).alloc (Nat.le_refl _) _).alloc (by simp) _).mono hb0.size)
  refine ⟨w.heap.size + 1, [{ target := .collected w.heap.size, args := #[] }], W1, { target := .fn (.func gf) lb, args := #[.func (.yield (w.heap.size + 1)) #[] #[]] }, W1, gf,
    #[.func (.yield (w.heap.size + 1)) #[] #[]] ++ lb, W1, ?_, ?_, ?_, ?_, fun _ => h1, ?_⟩
  · have := run_enterLoop_outer (P := P) (w := w) fn a.tmps ps assign body
    rw [← hW1, hrec]; exact this
  · simp only [resolve, hg]
    simp [go_sem]
  · intro f' hf'; simp [Target.leads] at hf'; subst hf'; exact hFg
  · simp [invoke, go_sem, eg]
  · have hno : ∀ r, own W1.heap.size r → r ≠ w.heap.size ∧ r ≠ w.heap.size + 1 := fun r h => hown r (by rw [hs1] at h; exact h)
    have inI : ∀ r, own W1.heap.size r → r = w.heap.size + 1 ∨ own (w.heap.size + 2) r := fun r h => .inr (by rw [hs1] at h; exact h)
    refine (hseq (w.heap.size + 1)
      (fun pre W => I pre W ∧ W.heap[w.heap.size + 1]? = some (.loop (rec .ready none)) ∧ W.heap[w.heap.size]? = some (.deferred (some [])))
      (fun pre W => ∃ c, Ix c pre W ∧ W.heap[w.heap.size + 1]? = some (.loop (rec .done (some c))) ∧ W.heap[w.heap.size]? = some (.deferred (some [])))
      W1 hb1
      ((hI.mono inI).and ((abidesR_block (fun h => (hno _ h).2 rfl) (fun _ => _)).and (abidesR_block (fun h => (hno _ h).1 rfl) (fun _ => _))))
      (fun s A B row hs hg' hr => by
        obtain ⟨c, hc⟩ := hs
        exact ⟨c, (((hIx c).mono inI).and ((abidesR_block (fun h => (hno _ h).2 rfl) (fun _ => .loop (rec .done (some c)))).and (abidesR_block (fun h => (hno _ h).1 rfl) (fun _ => .deferred (some []))))) s A B row hc hg' hr⟩)
      ?_ ⟨hI1, hL1, hK1⟩).mono ?_
    · rintro pre x W ⟨hi, hl, hk⟩ hsp hsz
      rw [hs1] at hsz
      have hlt : w.heap.size + 1 < W.heap.size := by omega
      have hy := run_yield (P := P) (args := encs x) hl (by rw [hrec]; exact hps x)
      rw [hrec] at hy
      refine ⟨fn, _, assign, body, hy, roundIn_of_wpIn hfn (hassign _ pre x W _ hi hsp hsz ?_)⟩
      clear hy
      intro a' Wa hka hia hax
      have hla := (hka.2 (w.heap.size + 1) hlt (.inr (.inl rfl))).trans hl
      have hda := (hka.2 w.heap.size (by omega) (.inl rfl)).trans hk
      have hlta : w.heap.size + 1 < Wa.heap.size := (Array.getElem?_eq_some_iff.1 hla).1
      refine ⟨_, run_beginRound hla (by rw [hrec]), ?_⟩
      obtain ⟨Wb, hWb⟩ : ∃ Wb, Wa.putObj (w.heap.size + 1) (.loop { rec .ready none with state := .busy }) = Wb := ⟨_, rfl⟩
      have hlb : Wb.heap[w.heap.size + 1]? = some (.loop { rec .ready none with state := .busy }) := by rw [← hWb]; exact World.putObj_heap_same hlta
      have hdb : Wb.heap[w.heap.size]? = some (.deferred (some [])) := by rw [← hWb]; exact (World.putObj_heap_other (by omega)).trans hda
      have hib : I pre Wb := by rw [← hWb]; exact hI.putObj _ _ (.inl rfl) hia
      have hab : Ax x a' Wb := by rw [← hWb]; exact (hAx x a').putObj (s := ()) _ _ rfl hax
      have hsb : w.heap.size + 2 + K ≤ Wb.heap.size := by rw [← hWb]; exact Nat.le_trans hsz (Nat.le_trans hka.1 (by simp))
      have hkb : KeepsAt (kp W1.heap.size) W Wb := by
        rw [← hWb]
        exact (hka.imp (fun r _ h => .inr (.inr (by rw [hs1] at h; exact h)))).trans (KeepsAt.putObj _ _ _ (fun h => (hkp _ (by rw [hs1] at h; exact h)).2 rfl))
      rw [hWb]
      refine wpIn_mono (hbody _ pre x a' Wb hsb hsp hib hab) ?_
      have fin : ∀ (jump : Option Code) (W3 : World), KeepsAt (roundKeeps kp w.heap.size) Wb W3 →
          (Instr.endRound (w.heap.size + 1) jump).run P W3 = .ok (.bool jump.isNone) (W3.putObj (w.heap.size + 1) (.loop (rec (if jump.isNone then .ready else .done) jump))) ∧
          (W3.putObj (w.heap.size + 1) (.loop (rec (if jump.isNone then .ready else .done) jump))).heap[w.heap.size + 1]? = some (.loop (rec (if jump.isNone then .ready else .done) jump)) ∧
          (W3.putObj (w.heap.size + 1) (.loop (rec (if jump.isNone then .ready else .done) jump))).heap[w.heap.size]? = some (.deferred (some [])) ∧
          KeepsAt (kp W1.heap.size) W (W3.putObj (w.heap.size + 1) (.loop (rec (if jump.isNone then .ready else .done) jump))) := fun jump W3 hk3 => by
        have hl3 := (hk3.2 (w.heap.size + 1) (by omega) (.inr (.inl rfl))).trans hlb
        have hd3 := (hk3.2 w.heap.size (by omega) (.inl rfl)).trans hdb
        have := run_endRound (P := P) jump hl3
        rw [hrec] at this ⊢
        refine ⟨this, World.putObj_heap_same (Array.getElem?_eq_some_iff.1 hl3).1, (World.putObj_heap_other (by omega)).trans hd3, ?_⟩
        exact (hkb.trans (hk3.imp (fun r _ h => .inr (.inr (by rw [hs1] at h; exact h))))).trans (KeepsAt.putObj _ _ _ (fun h => (hkp _ (by rw [hs1] at h; exact h)).2 rfl))
      rintro e a3 W3 hp
      cases e with
      | normal =>
        obtain ⟨hk3, hi3⟩ := hp
        obtain ⟨hr, hl4, hd4, hk4⟩ := fin none W3 hk3
        exact ⟨_, _, hr, hk4, .inl ⟨rfl, hI.putObj _ _ (.inl rfl) hi3, hl4, hd4⟩⟩
      | ret =>
        obtain ⟨hk3, hi3⟩ := hp
        obtain ⟨hr, hl4, hd4, hk4⟩ := fin (some .ret) W3 hk3
        exact ⟨_, _, hr, hk4, .inr ⟨rfl, .ret, (hIx _).putObj _ _ (.inl rfl) hi3, hl4, hd4⟩⟩
      | exit id =>
        obtain ⟨hk3, hi3⟩ := hp
        obtain ⟨hr, hl4, hd4, hk4⟩ := fin (some (.exit id)) W3 hk3
        exact ⟨_, _, hr, hk4, .inr ⟨rfl, .exit id, (hIx _).putObj _ _ (.inl rfl) hi3, hl4, hd4⟩⟩
      | goto t =>
        obtain ⟨hk3, hi3⟩ := hp
        obtain ⟨hr, hl4, hd4, hk4⟩ := fin (some (.goto t)) W3 hk3
        exact ⟨_, _, hr, hk4, .inr ⟨rfl, .goto t, (hIx _).putObj _ _ (.inl rfl) hi3, hl4, hd4⟩⟩
      | panic ch => exact hp.elim
      | outgrown => exact hp.elim
    · rintro e W2 ⟨⟨v, rfl⟩, (⟨xs, hS, hi, hl, hk⟩ | ⟨pre, hSp, c, hi, hl, hk⟩)⟩
      · exact ⟨none, _, by have := run_endLoop (P := P) hl (by rw [hrec]; simp); rw [hrec] at this; exact this, hdone xs _ hS (hI.putObj _ _ (.inl rfl) hi) ((World.putObj_heap_other (by omega)).trans hk)⟩
      · exact ⟨some c, _, by have := run_endLoop (P := P) hl (by rw [hrec]; simp); rw [hrec] at this; exact this, hstop c pre _ hSp ((hIx c).putObj _ _ (.inl rfl) hi) ((World.putObj_heap_other (by omega)).trans hk)⟩

end Go.Proofs.YtokehnclakedeaaGreatDoor
