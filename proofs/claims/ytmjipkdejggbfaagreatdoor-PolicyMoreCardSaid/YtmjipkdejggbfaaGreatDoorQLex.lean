/- A range over an iterator that keeps a state of its own in memory (a captured variable, an inner loop's record): its contract, and the law for a loop over it. -/
import Derived.RangeFuncNested
import Derived.RangeFuncBound
import Derived.RangeFuncCalls
import Derived.RangeFuncLeaves
import Derived.WalkKit
import Derived.OwnWalkIn
import Derived.TacticsInMore
import Derived.Lib.FieldsP
import Derived.Lib.IndexMore
import Derived.Lib.RuneCountTail
import Derived.Shelf.Abstract
import Derived.Shelf.RegionOpen
import Derived.LoopNIn
import Derived.LoopIn
import Derived.Sort.LoopGhostIn
import Derived.Sort.QuietIn
import Derived.RegionIn
import Derived.BigRegionIn
import Derived.Outline
import Derived.Lib.Hide
import Derived.Deep.QuietTactic
import Derived.BigQuiet
import Derived.Lib.OthersKept
import Derived.BigCall
import Derived.Laws.OwnMore
import Derived.Maps.AppendAt
import Derived.Test.YtmjipkdejggbfaaGreatDoorQBase
namespace Go.Proofs.YtmjipkdejggbfaaGreatDoor
open Go Go.Proofs Go.RowKit

/-- J abides new blocks, and a turn of any one of these blocks. -/
def AbidesR {β : Type} (own : Nat → Prop) (J : β → World → Prop) : Prop :=
  ∀ s A B row, J s A → A.grownBy B row → (∀ r, row = some r → own r) → J s B

/-- These blocks lie as they lay. -/
def KeepsAt (R : Nat → Prop) (A B : World) : Prop := A.heap.size ≤ B.heap.size ∧ ∀ r, r < A.heap.size → R r → B.heap[r]? = A.heap[r]?

theorem KeepsAt.refl (R : Nat → Prop) (A : World) : KeepsAt R A A := ⟨Nat.le_refl _, fun _ _ _ => rfl⟩
theorem KeepsAt.trans {R : Nat → Prop} {A B C : World} (h : KeepsAt R A B) (k : KeepsAt R B C) : KeepsAt R A C :=
  ⟨Nat.le_trans h.1 k.1, fun r hr hR => (k.2 r (Nat.lt_of_lt_of_le hr h.1) hR).trans (h.2 r hr hR)⟩
theorem KeepsAt.imp {R R' : Nat → Prop} {A B : World} (h : KeepsAt R A B) (hi : ∀ r, r < A.heap.size → R' r → R r) : KeepsAt R' A B := ⟨h.1, fun r hr hR => h.2 r hr (hi r hr hR)⟩
theorem KeepsAt.grown {R : Nat → Prop} {A B : World} {row : Option Nat} (hg : A.grownBy B row) (hr : ∀ r, row = some r → ¬ R r) : KeepsAt R A B :=
  ⟨hg.size, fun k hk hR => hg.block k hk (fun e => hr k e.symm hR)⟩
theorem KeepsAt.below {R : Nat → Prop} {A B : World} (h : Below A.heap.size A B) : KeepsAt R A B := ⟨h.size, fun k hk _ => h.block k hk⟩
theorem KeepsAt.belowN {R : Nat → Prop} {n : Nat} {A B : World} (h : Below n A B) (hs : A.heap.size ≤ B.heap.size) (hR : ∀ r, R r → r < n) : KeepsAt R A B := ⟨hs, fun k _ hk => h.block k (hR k hk)⟩
theorem KeepsAt.putObj {R : Nat → Prop} (A : World) (l : Nat) (o : Obj) (hR : ¬ R l) : KeepsAt R A (A.putObj l o) := .grown (grownBy_putObj' A l o) (fun r e => by cases e; exact hR)
theorem KeepsAt.setCell {R : Nat → Prop} (A : World) (a : Addr) (v : Value) (hR : ¬ R a.block) : KeepsAt R A (A.setCell a v) :=
  ⟨(KeepsOthers.setCell A a v).size, fun k _ hk => Below.heap_setCell A a v k (fun e => hR (e ▸ hk))⟩
theorem KeepsAt.alloc {R : Nat → Prop} (A : World) (o : Obj) : KeepsAt R A (A.alloc o) := .grown (World.grownBy_alloc A o none) (fun r e => by cases e)

theorem AbidesR.alloc {β : Type} {own : Nat → Prop} {J : β → World → Prop} (h : AbidesR own J) {s : β} {W : World} (o : Obj) (hs : J s W) : J s (W.alloc o) := h s W _ none hs (World.grownBy_alloc W o none) (fun r e => by cases e)
theorem AbidesR.putObj {β : Type} {own : Nat → Prop} {J : β → World → Prop} (h : AbidesR own J) {s : β} {W : World} (l : Nat) (o : Obj) (hl : own l) (hs : J s W) : J s (W.putObj l o) := h s W _ (some l) hs (grownBy_putObj' W l o) (fun r e => by cases e; exact hl)
theorem AbidesR.set {β : Type} {own : Nat → Prop} {J : β → World → Prop} (h : AbidesR own J) {s : β} {W : World} (l j : Nat) (v : Value) (hl : own l) (hs : J s W) : J s (W.setCell ⟨l, j, none⟩ v) :=
  h s W _ (some l) hs ⟨rfl, rfl, rfl, by show W.heap.size ≤ (W.heap.modify l _).size; rw [Array.size_modify]; exact Nat.le_refl _, fun k _ hk => Below.heap_setCell W _ v k (fun e => hk (by rw [e]))⟩ (fun r e => by cases e; exact hl)
theorem AbidesR.mono {β : Type} {own own' : Nat → Prop} {J : β → World → Prop} (h : AbidesR own J) (hi : ∀ r, own' r → own r) : AbidesR own' J := fun s A B row hs hg hr => h s A B row hs hg (fun r e => hi r (hr r e))
theorem AbidesR.and {β : Type} {own : Nat → Prop} {J J' : β → World → Prop} (h : AbidesR own J) (h' : AbidesR own J') : AbidesR own (fun s W => J s W ∧ J' s W) := fun s A B row hs hg hr => ⟨h s A B row hs.1 hg hr, h' s A B row hs.2 hg hr⟩
theorem abidesR_pure {β : Type} (own : Nat → Prop) (p : β → Prop) : AbidesR own (fun s (_ : World) => p s) := fun _ _ _ _ hs _ _ => hs
theorem abidesR_block {β : Type} {own : Nat → Prop} {b : Nat} (hb : ¬ own b) (o : β → Obj) : AbidesR own (fun s W => W.heap[b]? = some (o s)) := fun s A B row hs hg hr =>
  (hg.block b (Array.getElem?_eq_some_iff.1 hs).1 (fun e => hb (hr b e.symm))).trans hs
theorem abidesR_below {β : Type} {own : Nat → Prop} {m : Nat} {w : World} (hm : m ≤ w.heap.size) (ho : ∀ r, own r → m ≤ r) : AbidesR own (fun (_ : β) W => Below m w W) := fun _ _ _ _ hs hg hr =>
  hs.grown hg (Nat.le_trans hm hs.size) (fun k e => ho k (hr k e))

/-- The contract of an iterator that turns blocks `own h` (h: the heap's size when it is called), and wants the blocks `kp h` kept in each round; from the first round on there are K blocks more. -/
def SeqStopsR {α : Type} (F : Fence) (n : Nat) (P : Program) (g : Nat) (lb : Array Value) (encs : α → Array Value) (own kp : Nat → Nat → Prop) (K : Nat) (S Sp : List α → Prop) (w : World) : Prop :=
  ∀ (l : Nat) (J Jx : List α → World → Prop) (W : World), Below w.heap.size w W → AbidesR (own W.heap.size) J → AbidesR (own W.heap.size) Jx →
    (∀ pre x W1, J pre W1 → Sp (pre ++ [x]) → W.heap.size + K ≤ W1.heap.size → YieldAt F (n - 1) P l (encs x) W1 fun e W' =>
      KeepsAt (kp W.heap.size) W1 W' ∧ ((e = .returned (.bool true) ∧ J (pre ++ [x]) W') ∨ (e = .returned (.bool false) ∧ Jx (pre ++ [x]) W'))) →
    J [] W →
    CallsIn F n P g (#[.func (.yield l) #[] #[]] ++ lb) W fun e W' => (∃ v, e = .returned v) ∧ ((∃ xs, S xs ∧ J xs W') ∨ (∃ pre, Sp pre ∧ Jx pre W'))

/-- How the body of a round may be left. -/
def ownPostR {α : Type} (R : Nat → Prop) (I : List α → World → Prop) (Ix : Code → List α → World → Prop) (xs : List α) (W : World) : Exit → Act → World → Prop
  | .normal, _, W' => KeepsAt R W W' ∧ I xs W'
  | .ret, _, W' => KeepsAt R W W' ∧ Ix .ret xs W'
  | .exit id, _, W' => KeepsAt R W W' ∧ Ix (.exit id) xs W'
  | .goto t, _, W' => KeepsAt R W W' ∧ Ix (.goto t) xs W'
  | .panic _, _, _ => False
  | .outgrown, _, _ => False

/-- What a round keeps: the law's own two blocks, and what the iterator wants. -/
def roundKeeps (kp : Nat → Nat → Prop) (h : Nat) (r : Nat) : Prop := r = h ∨ r = h + 1 ∨ kp (h + 2) r

variable {F : Fence} {n : Nat} {P : Program}

/-- THE LAW for a loop over such an iterator. -/
theorem wpIn_rangeFunc_ownR {α : Type} {g : Operand} {ps : Array Tmp} {assign body : Code} {Q : Exit → Act → World → Prop} {a : Act} {w : World}
    (hro : F.round = none) (h1 : 1 ≤ n) {gf : Nat} {lb : Array Value} (hg : a.eval g = .func (.func gf) #[] lb) (hFg : F.fn gf) (eg : ∀ args w, (callFunc gf args).run P w = .ok (.enter gf args) w)
    {encs : α → Array Value} {own kp : Nat → Nat → Prop} {K : Nat} {S Sp : List α → Prop} {w0 : World} (hseq : SeqStopsR F (n - 1) P gf lb encs own kp K S Sp w0)
    (hown : ∀ r, own (w.heap.size + 2) r → r ≠ w.heap.size ∧ r ≠ w.heap.size + 1) (hkp : ∀ r, kp (w.heap.size + 2) r → r ≠ w.heap.size ∧ r ≠ w.heap.size + 1)
    (hb0 : Below w0.heap.size w0 w) (hps : ∀ x, (encs x).size = ps.size)
    (I : List α → World → Prop) (Ix : Code → List α → World → Prop) (hI : AbidesR (fun r => r = w.heap.size + 1 ∨ own (w.heap.size + 2) r) I) (hIx : ∀ c, AbidesR (fun r => r = w.heap.size + 1 ∨ own (w.heap.size + 2) r) (Ix c)) (h0 : I [] w)
    (Ax : α → Act → World → Prop) (hAx : ∀ x a', AbidesR (fun r => r = w.heap.size + 1) (fun (_ : Unit) W => Ax x a' W))
    (hassign : ∀ (l : Nat) (pre : List α) (x : α) (W : World) (C : Act → World → Prop), I pre W → Sp (pre ++ [x]) → w.heap.size + 2 + K ≤ W.heap.size → (∀ a' W', KeepsAt (roundKeeps kp w.heap.size) W W' → I pre W' → Ax x a' W' → C a' W') →
      assign.wpIn (F.inRound l) (n - 1 - 1) P (Exit.then C (fun _ _ _ => False)) { tmps := (ps.zip (encs x)).foldl (fun t (p, v) => t.setIfInBounds p v) a.tmps, defers := [] } W)
    (hbody : ∀ (l : Nat) (pre : List α) (x : α) (a' : Act) (W : World), w.heap.size + 2 + K ≤ W.heap.size → Sp (pre ++ [x]) → I pre W → Ax x a' W → body.wpIn (F.inRound l) (n - 1 - 1) P (ownPostR (roundKeeps kp w.heap.size) I Ix (pre ++ [x]) W) a' W)
    (hdone : ∀ (xs : List α) (W : World), S xs → I xs W → W.heap[w.heap.size]? = some (.deferred (some [])) → Q .normal { a with defers := { target := .collected w.heap.size, args := #[] } :: a.defers } W)
    (hstop : ∀ (c : Code) (pre : List α) (W : World), Sp pre → Ix c pre W → W.heap[w.heap.size]? = some (.deferred (some [])) → c.wpIn F n P Q { a with defers := { target := .collected w.heap.size, args := #[] } :: a.defers } W) :
    (Code.rangeFunc g ps assign body).wpIn F n P Q a w := by
  refine wpIn_rangeFunc ?_
  intro fn hfn
  rw [hro]
  obtain ⟨rec, hrec⟩ : ∃ rec : LoopState → Option Code → Loop, rec = fun st pe => { state := st, pending := pe, fn, tmps := a.tmps, params := ps, assign, body, defers := w.heap.size } := ⟨_, rfl⟩
  obtain ⟨W1, hW1⟩ : ∃ W1, (w.alloc (.deferred (some []))).alloc (.loop (rec .ready none)) = W1 := ⟨_, rfl⟩
  have hs1 : W1.heap.size = w.heap.size + 2 := by rw [← hW1]; simp
  have hL1 : W1.heap[w.heap.size + 1]? = some (.loop (rec .ready none)) := by
    have := World.alloc_heap_new (w.alloc (.deferred (some []))) (.loop (rec .ready none))
    rw [World.size_alloc, hW1] at this; exact this
  have hK1 : W1.heap[w.heap.size]? = some (.deferred (some [])) := by
    rw [← hW1]; exact (Below.heap_alloc _ _ _ (by simp)).trans (World.alloc_heap_new w _)
  have hI1 : I [] W1 := by rw [← hW1]; exact hI.alloc _ (hI.alloc _ h0)
  have hb1 : Below w0.heap.size w0 W1 := by
    rw [← hW1]; exact hb0.trans ((((Below.refl _ w).alloc (Nat.le_refl _) _).alloc (by simp) _).mono hb0.size)
  refine ⟨w.heap.size + 1, [{ target := .collected w.heap.size, args := #[] }], W1, { target := .fn (.func gf) lb, args := #[.func (.yield (w.heap.size + 1)) #[] #[]] }, W1, gf,
    #[.func (.yield (w.heap.size + 1)) #[] #[]] ++ lb, W1, ?_, ?_, ?_, ?_, fun _ => h1, ?_⟩
  · have := run_enterLoop_outer (P := P) (w := w) fn a.tmps ps assign body
    rw [← hW1, hrec]; exact this
  · simp only [resolve, hg]
    simp [go_sem]
  · intro f' hf'; simp [Target.leads] at hf'; subst hf'; exact hFg
  · simp [invoke, go_sem, eg]
  · have hno : ∀ r, own W1.heap.size r → r ≠ w.heap.size ∧ r ≠ w.heap.size + 1 := fun r h => hown r (by rw [hs1] at h; exact h)
    have inI : ∀ r, own W1.heap.size r → r = w.heap.size + 1 ∨ own (w.heap.size + 2) r := fun r h => .inr (by rw [hs1] at h; exact h)
    refine (hseq (w.heap.size + 1)
      (fun pre W => I pre W ∧ W.heap[w.heap.size + 1]? = some (.loop (rec .ready none)) ∧ W.heap[w.heap.size]? = some (.deferred (some [])))
      (fun pre W => ∃ c, Ix c pre W ∧ W.heap[w.heap.size + 1]? = some (.loop (rec .done (some c))) ∧ W.heap[w.heap.size]? = some (.deferred (some [])))
      W1 hb1
      ((hI.mono inI).and ((abidesR_block (fun h => (hno _ h).2 rfl) (fun _ => _)).and (abidesR_block (fun h => (hno _ h).1 rfl) (fun _ => _))))
      (fun s A B row hs hg' hr => by
        obtain ⟨c, hc⟩ := hs
        exact ⟨c, (((hIx c).mono inI).and ((abidesR_block (fun h => (hno _ h).2 rfl) (fun _ => .loop (rec .done (some c)))).and (abidesR_block (fun h => (hno _ h).1 rfl) (fun _ => .deferred (some []))))) s A B row hc hg' hr⟩)
      ?_ ⟨hI1, hL1, hK1⟩).mono ?_
    · rintro pre x W ⟨hi, hl, hk⟩ hsp hsz
      rw [hs1] at hsz
      have hlt : w.heap.size + 1 < W.heap.size := by omega
      have hy := run_yield (P := P) (args := encs x) hl (by rw [hrec]; exact hps x)
      rw [hrec] at hy
      refine ⟨fn, _, assign, body, hy, roundIn_of_wpIn hfn (hassign _ pre x W _ hi hsp hsz ?_)⟩
      clear hy
      intro a' Wa hka hia hax
      have hla := (hka.2 (w.heap.size + 1) hlt (.inr (.inl rfl))).trans hl
      have hda := (hka.2 w.heap.size (by omega) (.inl rfl)).trans hk
      have hlta : w.heap.size + 1 < Wa.heap.size := (Array.getElem?_eq_some_iff.1 hla).1
      refine ⟨_, run_beginRound hla (by rw [hrec]), ?_⟩
      obtain ⟨Wb, hWb⟩ : ∃ Wb, Wa.putObj (w.heap.size + 1) (.loop { rec .ready none with state := .busy }) = Wb := ⟨_, rfl⟩
      have hlb : Wb.heap[w.heap.size + 1]? = some (.loop { rec .ready none with state := .busy }) := by rw [← hWb]; exact World.putObj_heap_same hlta
      have hdb : Wb.heap[w.heap.size]? = some (.deferred (some [])) := by rw [← hWb]; exact (World.putObj_heap_other (by omega)).trans hda
      have hib : I pre Wb := by rw [← hWb]; exact hI.putObj _ _ (.inl rfl) hia
      have hab : Ax x a' Wb := by rw [← hWb]; exact (hAx x a').putObj (s := ()) _ _ rfl hax
      have hsb : w.heap.size + 2 + K ≤ Wb.heap.size := by rw [← hWb]; exact Nat.le_trans hsz (Nat.le_trans hka.1 (by simp))
      have hkb : KeepsAt (kp W1.heap.size) W Wb := by
        rw [← hWb]
        exact (hka.imp (fun r _ h => .inr (.inr (by rw [hs1] at h; exact h)))).trans (KeepsAt.putObj _ _ _ (fun h => (hkp _ (by rw [hs1] at h; exact h)).2 rfl))
      rw [hWb]
      refine wpIn_mono (hbody _ pre x a' Wb hsb hsp hib hab) ?_
      have fin : ∀ (jump : Option Code) (W3 : World), KeepsAt (roundKeeps kp w.heap.size) Wb W3 →
          (Instr.endRound (w.heap.size + 1) jump).run P W3 = .ok (.bool jump.isNone) (W3.putObj (w.heap.size + 1) (.loop (rec (if jump.isNone then .ready else .done) jump))) ∧
          (W3.putObj (w.heap.size + 1) (.loop (rec (if jump.isNone then .ready else .done) jump))).heap[w.heap.size + 1]? = some (.loop (rec (if jump.isNone then .ready else .done) jump)) ∧
          (W3.putObj (w.heap.size + 1) (.loop (rec (if jump.isNone then .ready else .done) jump))).heap[w.heap.size]? = some (.deferred (some [])) ∧
          KeepsAt (kp W1.heap.size) W (W3.putObj (w.heap.size + 1) (.loop (rec (if jump.isNone then .ready else .done) jump))) := fun jump W3 hk3 => by
        have hl3 := (hk3.2 (w.heap.size + 1) (by omega) (.inr (.inl rfl))).trans hlb
        have hd3 := (hk3.2 w.heap.size (by omega) (.inl rfl)).trans hdb
        have := run_endRound (P := P) jump hl3
        rw [hrec] at this ⊢
        refine ⟨this, World.putObj_heap_same (Array.getElem?_eq_some_iff.1 hl3).1, (World.putObj_heap_other (by omega)).trans hd3, ?_⟩
        exact (hkb.trans (hk3.imp (fun r _ h => .inr (.inr (by rw [hs1] at h; exact h))))).trans (KeepsAt.putObj _ _ _ (fun h => (hkp _ (by rw [hs1] at h; exact h)).2 rfl))
      rintro e a3 W3 hp
      cases e with
      | normal =>
        obtain ⟨hk3, hi3⟩ := hp
        obtain ⟨hr, hl4, hd4, hk4⟩ := fin none W3 hk3
        exact ⟨_, _, hr, hk4, .inl ⟨rfl, hI.putObj _ _ (.inl rfl) hi3, hl4, hd4⟩⟩
      | ret =>
        obtain ⟨hk3, hi3⟩ := hp
        obtain ⟨hr, hl4, hd4, hk4⟩ := fin (some .ret) W3 hk3
        exact ⟨_, _, hr, hk4, .inr ⟨rfl, .ret, (hIx _).putObj _ _ (.inl rfl) hi3, hl4, hd4⟩⟩
      | exit id =>
        obtain ⟨hk3, hi3⟩ := hp
        obtain ⟨hr, hl4, hd4, hk4⟩ := fin (some (.exit id)) W3 hk3
        exact ⟨_, _, hr, hk4, .inr ⟨rfl, .exit id, (hIx _).putObj _ _ (.inl rfl) hi3, hl4, hd4⟩⟩
      | goto t =>
        obtain ⟨hk3, hi3⟩ := hp
        obtain ⟨hr, hl4, hd4, hk4⟩ := fin (some (.goto t)) W3 hk3
        exact ⟨_, _, hr, hk4, .inr ⟨rfl, .goto t, (hIx _).putObj _ _ (.inl rfl) hi3, hl4, hd4⟩⟩
      | panic ch => exact hp.elim
      | outgrown => exact hp.elim
    · rintro e W2 ⟨⟨v, rfl⟩, (⟨xs, hS, hi, hl, hk⟩ | ⟨pre, hSp, c, hi, hl, hk⟩)⟩
      · exact ⟨none, _, by have := run_endLoop (P := P) hl (by rw [hrec]; simp); rw [hrec] at this; exact this, hdone xs _ hS (hI.putObj _ _ (.inl rfl) hi) ((World.putObj_heap_other (by omega)).trans hk)⟩
      · exact ⟨some c, _, by have := run_endLoop (P := P) hl (by rw [hrec]; simp); rw [hrec] at this; exact this, hstop c pre _ hSp ((hIx c).putObj _ _ (.inl rfl) hi) ((World.putObj_heap_other (by omega)).trans hk)⟩

end Go.Proofs.YtmjipkdejggbfaaGreatDoor
namespace Go.Proofs.YtmjipkdejggbfaaGreatDoor
open Go Go.Proofs

/-- A blank. -/
def blkB (c : UInt8) : Bool := c == 32 || c == 9 || c == 13
/-- A byte that may stand in a line. -/
def okB (c : UInt8) : Bool := blkB c || (32 ≤ c && c ≤ 126)
/-- A text's pieces between its line ends. -/
def pieces : List UInt8 → List (List UInt8)
  | [] => [[]]
  | c :: r => if c = 10 then [] :: pieces r else match pieces r with
    | [] => [[c]]
    | h :: t => (c :: h) :: t
/-- What is ahead of a note. -/
def unNoted (l : List UInt8) : List UInt8 := l.takeWhile (· ≠ 35)
/-- A word more, if there is one. -/
def flush (w : List UInt8) (out : List ByteArray) : List ByteArray := if w = [] then out else out ++ [⟨w.toArray⟩]
/-- The words of a line (each byte taken). -/
def wordsGo : List UInt8 → List UInt8 → List ByteArray → List ByteArray
  | [], w, out => flush w out
  | c :: r, w, out => if blkB c then wordsGo r [] (flush w out) else wordsGo r (w ++ [c]) out
/-- The words of a line ahead of its note; none: it has another byte. -/
def lineGo : List UInt8 → List UInt8 → List ByteArray → Option (List ByteArray)
  | [], w, out => some (flush w out)
  | c :: r, w, out => if c = 35 then some (flush w out) else if blkB c then lineGo r [] (flush w out) else if okB c then lineGo r (w ++ [c]) out else none
def lineOf (l : List UInt8) : Option (List ByteArray) := lineGo l [] []
abbrev Ln := Nat × List ByteArray
/-- A line that counts. -/
def addLn (n : Nat) (ws : List ByteArray) (acc : List Ln) : List Ln := if ws = [] then acc else acc ++ [(n, ws)]
/-- The lines of pieces: the lines, the number of the wrong one, an error's number. -/
def lexGo : List (List UInt8) → Nat → List Ln → List Ln × Nat × Nat
  | [], _, acc => (acc, 0, 0)
  | p :: r, n, acc => match lineOf p with
    | none => ([], n, 13)
    | some ws => lexGo r (n + 1) (addLn n ws acc)
def lexAns (t : ByteArray) : List Ln × Nat × Nat := if 65536 < t.size then ([], 0, 3) else lexGo (pieces t.data.toList) 1 []

theorem pieces_ne (l : List UInt8) : pieces l ≠ [] := by
  cases l with
  | nil => simp [pieces]
  | cons c r => unfold pieces; split; · simp
                split <;> simp
theorem pieces_none : ∀ l : List UInt8, (10 : UInt8) ∉ l → pieces l = [l]
  | [], _ => rfl
  | c :: r, h => by
    have hc : c ≠ 10 := fun e => h (by simp [e])
    have hr : (10 : UInt8) ∉ r := fun e => h (by simp [e])
    unfold pieces
    rw [if_neg hc, pieces_none r hr]
theorem pieces_at : ∀ (a b : List UInt8), (10 : UInt8) ∉ a → pieces (a ++ 10 :: b) = a :: pieces b
  | [], b, _ => by show pieces (10 :: b) = _; unfold pieces; rw [if_pos rfl]; cases b <;> rfl
  | c :: r, b, h => by
    have hc : c ≠ 10 := fun e => h (by simp [e])
    have hr : (10 : UInt8) ∉ r := fun e => h (by simp [e])
    rw [List.cons_append]
    show (if c = 10 then _ else _) = _
    rw [if_neg hc, pieces_at r b hr]

theorem index_one_none : ∀ (l : List UInt8) (b : UInt8), b ∉ l → Lib.index l [b] = -1
  | [], _, _ => rfl
  | c :: r, b, h => by
    have hc : ¬ b = c := fun e => h (by simp [e])
    have hr : b ∉ r := fun e => h (by simp [e])
    unfold Lib.index
    rw [if_neg (by simp [List.isPrefixOf, hc]), index_one_none r b hr]
    rfl
theorem index_one_at : ∀ (a r : List UInt8) (b : UInt8), b ∉ a → Lib.index (a ++ b :: r) [b] = a.length
  | [], r, b, _ => by
    show Lib.index (b :: r) [b] = _
    unfold Lib.index
    rw [if_pos (by simp [List.isPrefixOf])]
    rfl
  | c :: a, r, b, h => by
    have hc : ¬ b = c := fun e => h (by simp [e])
    have hr : b ∉ a := fun e => h (by simp [e])
    rw [List.cons_append]
    unfold Lib.index
    rw [if_neg (by simp [List.isPrefixOf, hc]), index_one_at a r b hr, if_neg (by simp)]
    simp
theorem indexByte_none : ∀ (l : List UInt8) (b : UInt8), b ∉ l → Lib.indexByte l b = -1
  | [], _, _ => rfl
  | c :: r, b, h => by
    have hc : ¬ c = b := fun e => h (by simp [e])
    have hr : b ∉ r := fun e => h (by simp [e])
    have := indexByte_none r b hr
    simp [Lib.indexByte, hc, this]
theorem indexByte_at : ∀ (a r : List UInt8) (b : UInt8), b ∉ a → Lib.indexByte (a ++ b :: r) b = a.length
  | [], r, b, _ => by simp [Lib.indexByte]
  | c :: a, r, b, h => by
    have hc : ¬ c = b := fun e => h (by simp [e])
    have hr : b ∉ a := fun e => h (by simp [e])
    have := indexByte_at a r b hr
    simp [Lib.indexByte, hc, this]
    try omega
theorem split_at (l : List UInt8) (b : UInt8) (h : b ∈ l) : ∃ a r, l = a ++ b :: r ∧ b ∉ a := by
  induction l with
  | nil => simp at h
  | cons c l ih =>
    by_cases e : b = c
    · subst e
      exact ⟨[], l, rfl, by simp⟩
    · obtain ⟨a, r, h1, h2⟩ := ih (by simpa [e] using h)
      exact ⟨c :: a, r, by rw [h1]; rfl, by simp [e, h2]⟩

theorem takeWhile_all {α : Type} : ∀ (l : List α) (p : α → Bool), (∀ x ∈ l, p x = true) → l.takeWhile p = l
  | [], _, _ => rfl
  | c :: r, p, h => by rw [List.takeWhile_cons, if_pos (h c (by simp)), takeWhile_all r p (fun x hx => h x (by simp [hx]))]

/-- strings.Cut at the note's sign. -/
theorem cut_note (l : List UInt8) : (Lib.cut l [35]).1 = unNoted l := by
  unfold Lib.cut unNoted
  by_cases h : (35 : UInt8) ∈ l
  · obtain ⟨a, r, rfl, ha⟩ := split_at l 35 h
    rw [index_one_at a r 35 ha, if_pos (by omega)]
    have : ∀ x ∈ a, (decide (x ≠ 35)) = true := fun x hx => by have : x ≠ 35 := (fun e => ha (by rw [← e]; exact hx)); simpa using this
    rw [List.takeWhile_append_of_pos this]
    simp
  · rw [index_one_none l 35 h, if_neg (by omega)]
    exact (takeWhile_all l _ (fun x hx => by have : x ≠ 35 := (fun e => h (by rw [← e]; exact hx)); simpa using this)).symm

theorem blk_ok {c : UInt8} (h : blkB c = true) : okB c = true := by unfold okB; rw [h]; rfl
theorem unNoted_note (r : List UInt8) : unNoted (35 :: r) = [] := by unfold unNoted; rw [List.takeWhile_cons, if_neg (by simp)]
theorem unNoted_cons {c : UInt8} (h : c ≠ 35) (r : List UInt8) : unNoted (c :: r) = c :: unNoted r := by
  unfold unNoted
  have : decide (c ≠ 35) = true := by simpa using h
  rw [List.takeWhile_cons, if_pos this]
theorem lineGo_eq : ∀ (l w : List UInt8) (out : List ByteArray), lineGo l w out = if (unNoted l).all okB then some (wordsGo (unNoted l) w out) else none
  | [], w, out => by simp [lineGo, unNoted, wordsGo]
  | c :: r, w, out => by
    unfold lineGo
    by_cases h35 : c = 35
    · subst h35
      rw [if_pos rfl, unNoted_note]
      rfl
    · rw [if_neg h35, unNoted_cons h35, List.all_cons]
      by_cases hb : blkB c = true
      · rw [if_pos hb, lineGo_eq r, blk_ok hb, Bool.true_and]
        have : wordsGo (c :: unNoted r) w out = wordsGo (unNoted r) [] (flush w out) := by
          show (if blkB c then _ else _) = _
          rw [if_pos hb]
        rw [this]
      · rw [if_neg hb]
        by_cases ho : okB c = true
        · rw [if_pos ho, lineGo_eq r, ho, Bool.true_and]
          have : wordsGo (c :: unNoted r) w out = wordsGo (unNoted r) (w ++ [c]) out := by
            show (if blkB c then _ else _) = _
            rw [if_neg hb]
          rw [this]
        · rw [if_neg ho, if_neg (by simp [ho])]

/-! ### The library's fields of a line without other bytes -/
/-- A blank, as the function value says it of a rune. -/
def blkR (c : Nat) : Bool := c == 32 || c == 9 || c == 13
theorem decode_low (s : ByteArray) (pos : Nat) (h : pos < s.size) (hb : (s[pos]'h).toNat < 128) : Utf8.decode s pos = ((s[pos]'h).toNat, 1) := by
  unfold Utf8.decode
  have : s.get! pos = s[pos]'h := by
    show s.data[pos]! = s.data[pos]
    rw [getElem!_pos]
  simp only [Nat.add_zero, this]
  rw [if_pos hb]
theorem decode_high (s : ByteArray) (pos : Nat) (h : pos < s.size) (hb : 128 ≤ (s[pos]'h).toNat) : 128 ≤ (Utf8.decode s pos).1 := by
  unfold Utf8.decode
  have : s.get! pos = s[pos]'h := by
    show s.data[pos]! = s.data[pos]
    rw [getElem!_pos]
  simp only [Nat.add_zero, this]
  rw [if_neg (by omega)]
  repeat' split
  all_goals simp_all [Utf8.runeError]
  all_goals omega
theorem blkR_byte (c : UInt8) : blkR c.toNat = blkB c := by
  unfold blkR blkB
  rw [Bool.eq_iff_iff]
  simp [← UInt8.toNat_inj]
/-- The word under way, if one is. -/
def wordAt (s : ByteArray) (st : Option Nat) (pos : Nat) : List UInt8 := match st with
  | none => []
  | some a => (s.data.toList.take pos).drop a
theorem extract_word (s : ByteArray) (a b : Nat) : s.extract a b = ⟨((s.data.toList.take b).drop a).toArray⟩ := by
  apply ByteArray.ext
  apply Array.toList_inj.1
  rw [ByteArray.data_extract, Array.toList_extract]
  simp [List.extract, List.drop_take]
theorem spans_words (s : ByteArray) (hok : ∀ j (h : j < s.size), (s[j]'h).toNat < 128) : ∀ (f pos : Nat) (st : Option Nat) (acc : List (Nat × Nat)), s.size ≤ pos + f → pos ≤ s.size → (∀ a, st = some a → a < pos) →
    (Lib.closeSpans s (Lib.spansFromP blkR s f pos st acc)).map (fun x => s.extract x.1 x.2) = wordsGo (s.data.toList.drop pos) (wordAt s st pos) (acc.map fun x => s.extract x.1 x.2) := by
  have hlen : s.data.toList.length = s.size := Array.length_toList
  have fl : ∀ (st : Option Nat) (acc : List (Nat × Nat)) (pos : Nat), pos ≤ s.size → (∀ a, st = some a → a < pos) → List.map (fun x : Nat × Nat => s.extract x.1 x.2) (match st with | some a => acc ++ [(a, pos)] | none => acc) = flush (wordAt s st pos) (acc.map fun x => s.extract x.1 x.2) := by
    intro st acc pos hp ha
    unfold flush wordAt
    cases st with
    | none => rw [if_pos rfl]
    | some a =>
      have := ha a rfl
      have hne : ¬ (s.data.toList.take pos).drop a = [] := fun e => by
        have := congrArg List.length e
        simp [hlen] at this
        have e2 : s.data.size = s.size := rfl
        omega
      dsimp only
      rw [if_neg hne, List.map_append]
      simp only [List.map_cons, List.map_nil, extract_word]
  have eend : ∀ (st : Option Nat) (acc : List (Nat × Nat)), (∀ a, st = some a → a < s.size) → (Lib.closeSpans s (acc, st)).map (fun x => s.extract x.1 x.2) = wordsGo (s.data.toList.drop s.size) (wordAt s st s.size) (acc.map fun x => s.extract x.1 x.2) := by
    intro st acc ha
    rw [List.drop_eq_nil_of_le (by rw [hlen]; exact Nat.le_refl _)]
    exact fl st acc s.size (Nat.le_refl _) ha
  intro f
  induction f with
  | zero =>
    intro pos st acc h1 h2 h3
    obtain rfl : pos = s.size := by omega
    exact eend st acc h3
  | succ f ih =>
    intro pos st acc h1 h2 h3
    by_cases hlt : pos < s.size
    · have hd := decode_low s pos hlt (hok pos hlt)
      have hdrop : s.data.toList.drop pos = s[pos]'hlt :: s.data.toList.drop (pos + 1) := by
        rw [List.drop_eq_getElem_cons (by rw [hlen]; exact hlt)]
        rfl
      have htake : s.data.toList.take (pos + 1) = s.data.toList.take pos ++ [s[pos]'hlt] := by
        rw [List.take_succ_eq_append_getElem (by rw [hlen]; exact hlt)]
        rfl
      unfold Lib.spansFromP
      rw [if_pos hlt, hd]
      dsimp only
      rw [blkR_byte, hdrop]
      unfold wordsGo
      by_cases hb : blkB (s[pos]'hlt) = true
      · rw [if_pos hb, if_pos hb]
        have := fl st acc pos h2 h3
        rw [← this]
        cases st with
        | none => exact ih (pos + 1) none acc (by omega) (by omega) (fun a e => by cases e)
        | some a => exact ih (pos + 1) none (acc ++ [(a, pos)]) (by omega) (by omega) (fun a e => by cases e)
      · rw [if_neg hb, if_neg hb]
        cases st with
        | none =>
          have := ih (pos + 1) (some pos) acc (by omega) (by omega) (fun a e => by cases e; omega)
          rw [this]
          congr 1
          show (s.data.toList.take (pos + 1)).drop pos = [] ++ [s[pos]'hlt]
          rw [htake, List.drop_append, List.drop_eq_nil_of_le (by rw [List.length_take, hlen]; omega), List.length_take, hlen, Nat.min_eq_left h2, Nat.sub_self]
          rfl
        | some a =>
          have := ih (pos + 1) (some a) acc (by omega) (by omega) (fun b e => by cases e; have := h3 a rfl; omega)
          rw [this]
          congr 1
          show (s.data.toList.take (pos + 1)).drop a = (s.data.toList.take pos).drop a ++ [s[pos]'hlt]
          have := h3 a rfl
          rw [htake, List.drop_append_of_le_length (by simp [hlen]; have e2 : s.data.size = s.size := rfl; omega)]
    · obtain rfl : pos = s.size := by omega
      rw [Lib.spansFromP_end _ _ _ _ _ _ hlt]
      exact eend st acc h3
theorem fields_words (s : ByteArray) (hok : ∀ j (h : j < s.size), (s[j]'h).toNat < 128) : Lib.goFieldsP blkR s = wordsGo s.data.toList [] [] := by
  have := spans_words s hok s.size 0 none [] (by omega) (by omega) (fun a e => by cases e)
  exact this
end Go.Proofs.YtmjipkdejggbfaaGreatDoor
namespace Go.Proofs.YtmjipkdejggbfaaGreatDoor
open Go Go.Proofs Go.RowKit Go.Shelf
attribute [local go_sem] Oper.semAt_some

/-- A text's pieces as strings. -/
def piecesB (t : ByteArray) : List ByteArray := (pieces t.data.toList).map fun l => ⟨l.toArray⟩
theorem index_sep (t : ByteArray) (b : UInt8) : (∃ a r, t.data.toList = a ++ b :: r ∧ b ∉ a ∧ Lib.indexByte t.data.toList b = (a.length : Int)) ∨ (b ∉ t.data.toList ∧ Lib.indexByte t.data.toList b = -1) := by
  by_cases h : b ∈ t.data.toList
  · obtain ⟨a, r, h1, h2⟩ := split_at _ _ h
    exact .inl ⟨a, r, h1, h2, by rw [h1]; exact indexByte_at a r b h2⟩
  · exact .inr ⟨h, indexByte_none _ _ h⟩
theorem extract_head {t : ByteArray} {b : UInt8} {a r : List UInt8} (h : t.data.toList = a ++ b :: r) : t.extract 0 a.length = ⟨a.toArray⟩ := by
  apply ByteArray.ext
  apply Array.toList_inj.1
  rw [ByteArray.data_extract, Array.toList_extract, h]
  simp [List.extract]
theorem extract_tail {t : ByteArray} {b : UInt8} {a r : List UInt8} (h : t.data.toList = a ++ b :: r) : t.extract (a.length + 1) t.size = ⟨r.toArray⟩ := by
  have hs : t.size = a.length + 1 + r.length := by
    have := congrArg List.length h
    rw [Array.length_toList] at this
    have e : t.data.size = t.size := rfl
    rw [e] at this
    rw [this]
    simp
    omega
  apply ByteArray.ext
  apply Array.toList_inj.1
  rw [ByteArray.data_extract, Array.toList_extract, h, hs]
  simp [List.extract]

set_option maxRecDepth 100000 in
set_option maxHeartbeats 2000000 in
theorem split1_in (n : Nat) (hn : 3 ≤ n) (t : ByteArray) (hts : t.size ≤ 1000000) (Bp Bs Bv : Nat) (w : World)
    (hbp : Blk w Bp 9 #[.string ⟨#[10]⟩]) (hbs : Blk w Bs 9 #[.string t]) (hbv : Blk w Bv 3 #[.int .i64 0]) (hps : Bp ≠ Bs) (hvs : Bv ≠ Bs) :
    SeqStopsR Fence.wide n Tryz.prog 99 #[.pointer (some ⟨Bp, 0, none⟩), .pointer (some ⟨Bs, 0, none⟩), .pointer (some ⟨Bv, 0, none⟩)] (fun x : ByteArray => #[.string x]) (fun _ r => r = Bs) (fun _ r => r = Bp ∨ r = Bs ∨ r = Bv) 0
      (fun xs => xs = piecesB t) (fun pre => pre <+: piecesB t) w := fun l J Jx W hW hJ hJx hY h0 => by
  refine callsIn_of_wp Tryz.func99 rfl trivial ?_ rfl
  simp only [Tryz.ntmps99, List.size_toArray, List.length_cons, List.length_nil, Nat.reduceAdd, Nat.reduceSub, Array.replicate_succ, Array.replicate_zero, List.push_toArray, List.append_toArray, List.nil_append, List.cons_append]
  have hp0 := hbp.below hW hbp.lt
  have hs0 := hbs.below hW hbs.lt
  have hv0 := hbv.below hW hbv.lt
  have cp := hp0.cell 0
  simp only [List.getElem?_toArray, List.getElem?_cons_zero] at cp
  have HJ := Lib.hid hJ
  have HJx := Lib.hid hJx
  have HY := Lib.hid hY
  have HW := Lib.hid hW
  have H0 := Lib.hid h0
  have HP := Lib.hid hp0
  have HS := Lib.hid hs0
  have HV := Lib.hid hv0
  clear hJ hJx hY hW h0 hp0 hs0 hv0 hbp hbs hbv
  gi_wp2
  gi_loopw [7, 8] (fun _ _ wr => ∃ (pre : List ByteArray) (rem : ByteArray), rem.size ≤ 1000000 ∧ Hid (piecesB t = pre ++ piecesB rem) ∧ Hid (J pre wr) ∧ Hid (Blk wr Bp 9 #[.string ⟨#[10]⟩]) ∧ Hid (Blk wr Bs 9 #[.string rem]) ∧ Hid (Blk wr Bv 3 #[.int .i64 0]) ∧ Hid (W.heap.size ≤ wr.heap.size)) (fun _ _ wr => match wr.cell? ⟨Bs, 0, none⟩ with | some (.string r) => r.size | _ => 0)
  case atStart => exact ⟨[], t, hts, Lib.hid rfl, H0, HP, HS, HV, Lib.hid (Nat.le_refl _)⟩
  case round =>
    obtain ⟨pre, rem, hrs, HT, HJw, HPw, HSw, HVw, HWs⟩ := hrel
    clear cp
    have cp := HPw.out.cell 0
    have cs := HSw.out.cell 0
    have cv := HVw.out.cell 0
    have fs := HSw.out.frozen 0
    simp only [List.getElem?_toArray, List.getElem?_cons_zero] at cp cs cv
    rcases index_sep rem 10 with ⟨a, r, hr1, hr2, hix⟩ | ⟨hno, hix⟩
    · obtain ⟨fr, hfr⟩ : ∃ fr : ByteArray, fr = ⟨a.toArray⟩ := ⟨_, rfl⟩
      obtain ⟨rest, hrest⟩ : ∃ rest : ByteArray, rest = ⟨r.toArray⟩ := ⟨_, rfl⟩
      have hsz : rem.size = a.length + 1 + rest.size := by
        have := congrArg List.length hr1
        rw [Array.length_toList] at this
        have e : rem.data.size = rem.size := rfl
        have e2 : rest.size = r.length := by rw [hrest]; simp [ByteArray.size]
        rw [e] at this
        rw [this, e2]
        simp
        omega
      have e1 := extract_head hr1
      have e2 := extract_tail hr1
      rw [← hfr] at e1
      rw [← hrest] at e2
      have HTn : Hid (piecesB t = (pre ++ [fr]) ++ piecesB rest) := by
        show _ = _
        rw [HT.out, hfr, hrest]
        unfold piecesB
        rw [hr1, pieces_at a r hr2, List.map_cons, List.append_assoc]
        rfl
      obtain ⟨k, hk⟩ : ∃ k, a.length = k := ⟨_, rfl⟩
      rw [hk] at hix hsz e1 e2
      have Hix := Lib.hid hix
      obtain ⟨fn, tmps, assign, body, hy, hR⟩ := HY.out pre fr wr HJw.out ⟨piecesB rest, HTn.out.symm⟩ HWs.out
      have HR := Lib.hid hR
      have k0 : (0 : Int) ≤ (k : Int) := by omega
      have k1 : (k : Int) ≤ (rem.size : Int) := by omega
      have k2 : (k : Int) + 1 ≤ (rem.size : Int) := by omega
      have k3 : ¬ (k : Int) < 0 := by omega
      have Hsz := Lib.hid hsz
      clear hix hr1 hr2 hfr hrest hk a r hR hsz
      gi_wp2_with fail
      refine ⟨trivial, fun h => (by cases h), ?_⟩
      refine (callsIn_wide.2 (Any.strings_Index_one Tryz.lays143 rem 10 _)).mono ?_
      rintro e w1 ⟨rfl, rfl⟩
      rw [Hix.out]
      gi_wp2
      refine ⟨fun h => (by cases h), ?_⟩
      refine HR.out.mono ?_
      rintro e W3 ⟨hk3, ⟨rfl, hJ3⟩ | ⟨rfl, hJx3⟩⟩
      · have HP3 : Hid (Blk W3 Bp 9 #[.string ⟨#[10]⟩]) := (hk3.2 Bp HPw.out.lt (.inl rfl)).trans HPw.out
        have HS3 : Hid (Blk W3 Bs 9 #[.string rem]) := (hk3.2 Bs HSw.out.lt (.inr (.inl rfl))).trans HSw.out
        have HV3 : Hid (Blk W3 Bv 3 #[.int .i64 0]) := (hk3.2 Bv HVw.out.lt (.inr (.inr rfl))).trans HVw.out
        have HW3 : Hid (W.heap.size ≤ W3.heap.size) := Nat.le_trans HWs.out hk3.1
        have HJ3 : Hid (J (pre ++ [fr]) (W3.setCell ⟨Bs, 0, none⟩ (.string rest))) := HJ.out.set Bs 0 _ rfl hJ3
        have cp3 := HP3.out.cell 0
        have cs3 := HS3.out.cell 0
        have fs3 := HS3.out.frozen 0
        simp only [List.getElem?_toArray, List.getElem?_cons_zero] at cp3 cs3
        clear hk3 hJ3 cp cs cv fs
        gi_wp2
        go_roundw
        case rel => exact ⟨pre ++ [fr], rest, by have := Hsz.out; omega, HTn, HJ3, HP3.out.other hps 0 _, HS3.out.set 0 (.string rest), HV3.out.other hvs 0 _, Nat.le_trans HW3.out (KeepsOthers.setCell _ _ _).size⟩
        case measure =>
          have := (HS3.out.set 0 (.string rest)).cell 0
          simp at this
          have cs := HSw.out.cell 0
          simp at cs
          rw [this, cs]
          have := Hsz.out
          show rest.size < rem.size
          omega
      · gi_wp2
        refine bodyPost_ret (results_none rfl _ _ _) rfl ?_
        exact ⟨⟨_, rfl⟩, .inr ⟨_, ⟨piecesB rest, HTn.out.symm⟩, hJx3⟩⟩
    · have Hix := Lib.hid hix
      have HTn : Hid (piecesB t = pre ++ [rem]) := by
        show _ = _
        rw [HT.out]
        unfold piecesB
        rw [pieces_none _ hno]
        rfl
      obtain ⟨fn, tmps, assign, body, hy, hR⟩ := HY.out pre rem wr HJw.out ⟨[], by rw [List.append_nil]; exact HTn.out.symm⟩ HWs.out
      have HR := Lib.hid hR
      clear hix hR
      gi_wp2_with fail
      refine ⟨trivial, fun h => (by cases h), ?_⟩
      refine (callsIn_wide.2 (Any.strings_Index_one Tryz.lays143 rem 10 _)).mono ?_
      rintro e w1 ⟨rfl, rfl⟩
      rw [Hix.out]
      gi_wp2
      refine ⟨fun h => (by cases h), ?_⟩
      refine HR.out.mono ?_
      rintro e W3 ⟨hk3, ⟨rfl, hJ3⟩ | ⟨rfl, hJx3⟩⟩
      · gi_wp2
        go_end0
        exact ⟨⟨_, rfl⟩, .inl ⟨_, HTn.out.symm, hJ3⟩⟩
      · gi_wp2
        go_end0
        exact ⟨⟨_, rfl⟩, .inr ⟨_, ⟨[], by rw [List.append_nil]; exact HTn.out.symm⟩, hJx3⟩⟩
end Go.Proofs.YtmjipkdejggbfaaGreatDoor
namespace Go.Proofs.YtmjipkdejggbfaaGreatDoor
open Go Go.Proofs Go.RowKit Go.Shelf
attribute [local go_sem] Oper.semAt_some

/-- A line's number and its text ahead of the note. -/
def numPieces : Nat → List ByteArray → List (Nat × ByteArray)
  | _, [] => []
  | n, p :: r => (n, ⟨(unNoted p.data.toList).toArray⟩) :: numPieces (n + 1) r
theorem numPieces_snoc : ∀ (l : List ByteArray) (n : Nat) (p : ByteArray), numPieces n (l ++ [p]) = numPieces n l ++ [(n + l.length, ⟨(unNoted p.data.toList).toArray⟩)]
  | [], n, p => rfl
  | q :: l, n, p => by
    show (n, _) :: numPieces (n + 1) (l ++ [p]) = (n, _) :: (numPieces (n + 1) l ++ _)
    rw [numPieces_snoc l (n + 1) p, List.length_cons, show n + 1 + l.length = n + (l.length + 1) by omega]
theorem numPieces_prefix {l l' : List ByteArray} (n : Nat) (h : l <+: l') : numPieces n l <+: numPieces n l' := by
  obtain ⟨r, rfl⟩ := h
  have : ∀ (l : List ByteArray) (n : Nat), ∃ q, numPieces n (l ++ r) = numPieces n l ++ q := by
    intro l
    induction l with
    | nil => exact fun n => ⟨_, rfl⟩
    | cons p l ih =>
      intro n
      obtain ⟨q, hq⟩ := ih (n + 1)
      exact ⟨q, by show (n, _) :: numPieces (n + 1) (l ++ r) = _; rw [hq]; rfl⟩
  obtain ⟨q, hq⟩ := this l n
  exact ⟨q, hq.symm⟩

theorem pieces_count : ∀ l : List UInt8, (pieces l).length ≤ l.length + 1
  | [] => by simp [pieces]
  | c :: r => by
    have := pieces_count r
    unfold pieces
    split
    · simpa using this
    · split
      · simp
      · rename_i h
        rw [h] at this
        simp at this ⊢
        omega
theorem pieces_mem : ∀ (l p : List UInt8), p ∈ pieces l → p.length ≤ l.length
  | [], p, h => by simp [pieces] at h; simp [h]
  | c :: r, p, h => by
    unfold pieces at h
    split at h
    · rcases List.mem_cons.1 h with rfl | h
      · simp
      · have := pieces_mem r p h; simp; omega
    · split at h
      · simp at h; simp [h]
      · rename_i h' t he
        rcases List.mem_cons.1 h with rfl | h
        · have := pieces_mem r h' (by rw [he]; simp); simp; omega
        · have := pieces_mem r p (by rw [he]; simp [h]); simp; omega
theorem pieces_size {t x : ByteArray} (h : x ∈ piecesB t) : x.size ≤ t.size := by
  unfold piecesB at h
  obtain ⟨p, hp, rfl⟩ := List.mem_map.1 h
  have := pieces_mem _ p hp
  rw [Array.length_toList] at this
  show p.toArray.size ≤ t.size
  rw [List.size_toArray]
  exact this
theorem pieces_len (t : ByteArray) : (piecesB t).length ≤ t.size + 1 := by
  unfold piecesB
  rw [List.length_map]
  have := pieces_count t.data.toList
  rw [Array.length_toList] at this
  exact this

theorem roundAny {m m' l : Nat} (l' : Nat) {P : Program} {f : FuncId} {tmps : Array Value} {assign body : Code} {w : World} {R : Ending → World → Prop} (h : RoundIn Fence.wide m P l f tmps assign body w R) :
    RoundIn (Fence.wide.inRound l') m' P l f tmps assign body w R := ⟨h.1, fun c cs _ => h.2 c cs (room_wide _)⟩

set_option maxRecDepth 100000 in
theorem split_any (t s : ByteArray) (w : World) :
    Calls Tryz.prog 79 #[.string t, .string s, .int .i64 0] w fun e w' => e = .returned (.func (.func 99) #[] #[.pointer (some ⟨w.heap.size + 1, 0, none⟩), .pointer (some ⟨w.heap.size, 0, none⟩), .pointer (some ⟨w.heap.size + 2, 0, none⟩)]) ∧
      ((w.alloc (.cells #[.string t] 9)).alloc (.cells #[.string s] 9)).alloc (.cells #[.int .i64 0] 3) = w' := by
  go_enter Tryz.func79, Tryz.ntmps79
  go_wp2
  go_ret
  exact ⟨rfl, rfl⟩
set_option maxRecDepth 100000 in
theorem splitSeq_any (t s : ByteArray) (w : World) :
    Calls Tryz.prog 63 #[.string t, .string s] w fun e w' => e = .returned (.func (.func 99) #[] #[.pointer (some ⟨w.heap.size + 1, 0, none⟩), .pointer (some ⟨w.heap.size, 0, none⟩), .pointer (some ⟨w.heap.size + 2, 0, none⟩)]) ∧
      ((w.alloc (.cells #[.string t] 9)).alloc (.cells #[.string s] 9)).alloc (.cells #[.int .i64 0] 3) = w' := by
  go_enter Tryz.func63, Tryz.ntmps63
  go_wp2_with (go_at_call 79; refine (split_any _ _ _).mono ?_; rintro e w' ⟨rfl, rfl⟩)
  go_ret
  exact ⟨rfl, rfl⟩

set_option maxRecDepth 100000 in
set_option maxHeartbeats 1000000 in
/-- strings.Cut at one byte. -/
theorem cutL_any (t : ByteArray) (b : UInt8) (ht : t.size ≤ 1000000) (w : World) :
    Calls Tryz.prog 80 #[.string t, .string ⟨#[b]⟩] w fun e w' => ∃ x y, e = .returned (.tuple #[.string ⟨(Lib.cut t.data.toList [b]).1.toArray⟩, .string x, .bool y]) ∧ ∃ n, w' = w.drewN n := by
  rcases index_sep t b with ⟨a, r, hr1, hr2, hix⟩ | ⟨hno, hix⟩
  · have hc : (Lib.cut t.data.toList [b]).1 = a := by
      unfold Lib.cut
      rw [hr1, index_one_at a r b hr2, if_pos (by omega)]
      simp
    have e1 := extract_head hr1
    have e2 := extract_tail hr1
    obtain ⟨fr, hfr⟩ : ∃ fr : ByteArray, fr = ⟨a.toArray⟩ := ⟨_, rfl⟩
    obtain ⟨rest, hrest⟩ : ∃ rest : ByteArray, rest = ⟨r.toArray⟩ := ⟨_, rfl⟩
    have hsz : t.size = a.length + 1 + r.length := by
      have := congrArg List.length hr1
      rw [Array.length_toList] at this
      have e : t.data.size = t.size := rfl
      rw [e] at this
      rw [this]
      simp
      omega
    rw [hc]
    rw [← hfr] at e1 ⊢
    rw [← hrest] at e2
    obtain ⟨k, hk⟩ : ∃ k, a.length = k := ⟨_, rfl⟩
    rw [hk] at hix hsz e1 e2
    have Hix := Lib.hid hix
    have k0 : (0 : Int) ≤ (k : Int) := by omega
    have k1 : (k : Int) ≤ (t.size : Int) := by omega
    have k2 : (k : Int) + 1 ≤ (t.size : Int) := by omega
    clear hix hc hr1 hr2 hfr hrest hk hsz
    go_enter Tryz.func80, Tryz.ntmps80
    go_wp2_with fail
    refine (Any.stringslite_Index_one Tryz.lays219 t b _).mono ?_
    rintro e w1 ⟨rfl, rfl⟩
    rw [Hix.out]
    go_wp2
    go_quiet (fail)
    go_wp2
    go_ret3
    exact ⟨_, _, rfl, _, rfl⟩
  · have hc : (Lib.cut t.data.toList [b]).1 = t.data.toList := by
      unfold Lib.cut
      rw [index_one_none _ _ hno, if_neg (by omega)]
    have e1 : (⟨t.data.toList.toArray⟩ : ByteArray) = t := by simp
    rw [hc, e1]
    have Hix := Lib.hid hix
    clear hix hc e1
    go_enter Tryz.func80, Tryz.ntmps80
    go_wp2_with fail
    refine (Any.stringslite_Index_one Tryz.lays219 t b _).mono ?_
    rintro e w1 ⟨rfl, rfl⟩
    rw [Hix.out]
    go_wp2
    go_ret3
    exact ⟨_, _, rfl, 0, rfl⟩
set_option maxRecDepth 100000 in
set_option maxHeartbeats 1000000 in
theorem cut_any (t : ByteArray) (b : UInt8) (ht : t.size ≤ 1000000) (w : World) :
    Calls Tryz.prog 64 #[.string t, .string ⟨#[b]⟩] w fun e w' => ∃ x y, e = .returned (.tuple #[.string ⟨(Lib.cut t.data.toList [b]).1.toArray⟩, .string x, .bool y]) ∧ ∃ n, w' = w.drewN n := by
  have hc := cutL_any t b ht
  generalize (⟨(Lib.cut t.data.toList [b]).1.toArray⟩ : ByteArray) = c at hc ⊢
  go_enter Tryz.func64, Tryz.ntmps64
  go_wp2_with fail
  refine (hc _).mono ?_
  rintro e w1 ⟨x, y, rfl, n, rfl⟩
  go_wp2
  go_ret3
  exact ⟨_, _, rfl, _, rfl⟩

set_option maxRecDepth 100000 in
theorem lines_any (t : ByteArray) (w : World) :
    Calls Tryz.prog 36 #[.string t] w fun e w' => e = .returned (.func (.func 62) #[] #[.pointer (some ⟨w.heap.size, 0, none⟩)]) ∧ w.alloc (.cells #[.string t] 9) = w' := by
  go_enter Tryz.func36, Tryz.ntmps36
  go_wp2
  go_ret
  exact ⟨rfl, rfl⟩

set_option maxRecDepth 100000 in
set_option maxHeartbeats 2000000 in
theorem lines1_in (n : Nat) (hn : 6 ≤ n) (t : ByteArray) (hts : t.size ≤ 1000000) (Bt : Nat) (w : World) (hbt : Blk w Bt 9 #[.string t]) :
    SeqStopsR Fence.wide n Tryz.prog 62 #[.pointer (some ⟨Bt, 0, none⟩)] (fun x : Nat × ByteArray => #[.int .i64 x.1, .string x.2]) (fun h r => h ≤ r ∧ r < h + 7) (fun h r => h ≤ r ∧ r < h + 7) 7
      (fun xs => xs = numPieces 1 (piecesB t)) (fun pre => pre <+: numPieces 1 (piecesB t)) w := fun l J Jx W hW hJ hJx hY h0 => by
  refine callsIn_of_wp_marks Tryz.func62 rfl trivial ?_ rfl
  simp only [Tryz.ntmps62, List.size_toArray, List.length_cons, List.length_nil, Nat.reduceAdd, Nat.reduceSub, Array.replicate_succ, Array.replicate_zero, List.push_toArray, List.append_toArray, List.nil_append, List.cons_append]
  have hbw := hbt.below hW hbt.lt
  have ct := hbw.cell 0
  have hBt : Bt < W.heap.size := hbw.lt
  simp only [List.getElem?_toArray, List.getElem?_cons_zero] at ct
  have HJ := Lib.hid hJ
  have HJx := Lib.hid hJx
  have HY := Lib.hid hY
  have H0 := Lib.hid h0
  have hj0 : Hid (J [] (((((W.alloc (.cells #[.func (.yield l) #[] #[]] 120)).alloc (.cells #[.int .i64 0] 3)).alloc (.cells #[.string t] 9)).alloc (.cells #[.string ⟨#[10]⟩] 9)).alloc (.cells #[.int .i64 0] 3))) := hJ.alloc _ (hJ.alloc _ (hJ.alloc _ (hJ.alloc _ (hJ.alloc _ h0))))
  clear hJ hJx hY hW h0 hbt hbw
  gi_wp2_with fail
  refine ⟨trivial, fun h => (by cases h), ?_⟩
  refine (callsIn_wide.2 (splitSeq_any t ⟨#[10]⟩ _)).mono ?_
  rintro e w1 ⟨rfl, rfl⟩
  gi_wp2
  have b0 := ((((Blk.new W 120 #[.func (.yield l) #[] #[]]).alloc (.cells #[.int .i64 0] 3)).alloc (.cells #[.string t] 9)).alloc (.cells #[.string ⟨#[10]⟩] 9)).alloc (.cells #[.int .i64 0] 3)
  have b1 := (((Blk.new (W.alloc (.cells #[.func (.yield l) #[] #[]] 120)) 3 #[.int .i64 0]).alloc (.cells #[.string t] 9)).alloc (.cells #[.string ⟨#[10]⟩] 9)).alloc (.cells #[.int .i64 0] 3)
  have b2 := ((Blk.new ((W.alloc (.cells #[.func (.yield l) #[] #[]] 120)).alloc (.cells #[.int .i64 0] 3)) 9 #[.string t]).alloc (.cells #[.string ⟨#[10]⟩] 9)).alloc (.cells #[.int .i64 0] 3)
  have b3 := (Blk.new (((W.alloc (.cells #[.func (.yield l) #[] #[]] 120)).alloc (.cells #[.int .i64 0] 3)).alloc (.cells #[.string t] 9)) 9 #[.string ⟨#[10]⟩]).alloc (.cells #[.int .i64 0] 3)
  have b4 := Blk.new ((((W.alloc (.cells #[.func (.yield l) #[] #[]] 120)).alloc (.cells #[.int .i64 0] 3)).alloc (.cells #[.string t] 9)).alloc (.cells #[.string ⟨#[10]⟩] 9)) 3 #[.int .i64 0]
  have hsz : (((((W.alloc (.cells #[.func (.yield l) #[] #[]] 120)).alloc (.cells #[.int .i64 0] 3)).alloc (.cells #[.string t] 9)).alloc (.cells #[.string ⟨#[10]⟩] 9)).alloc (.cells #[.int .i64 0] 3)).heap.size = W.heap.size + 5 := by simp
  simp only [World.size_alloc] at b1 b2 b3 b4
  generalize (((((W.alloc (.cells #[.func (.yield l) #[] #[]] 120)).alloc (.cells #[.int .i64 0] 3)).alloc (.cells #[.string t] 9)).alloc (.cells #[.string ⟨#[10]⟩] 9)).alloc (.cells #[.int .i64 0] 3)) = W0 at *
  generalize W.heap.size = h at *
  refine wpIn_rangeFunc_ownR (F := Fence.wide) rfl (by omega) (gf := 99) (lb := #[.pointer (some ⟨h + 1 + 1 + 1, 0, none⟩), .pointer (some ⟨h + 1 + 1, 0, none⟩), .pointer (some ⟨h + 1 + 1 + 1 + 1, 0, none⟩)]) rfl trivial (enters_of Tryz.func99 (by kernel_rfl) rfl)
    (split1_in (n - 1) (by omega) t hts (h + 1 + 1 + 1) (h + 1 + 1) (h + 1 + 1 + 1 + 1) W0 b3 b2 b4 (by omega) (by omega)) (fun r e => by omega) (fun r e => by omega) (Below.refl _ _) (fun _ => rfl)
    (fun pre W' => (J (numPieces 1 pre) W' ∧ Blk W' h 120 #[.func (.yield l) #[] #[]]) ∧ Blk W' (h + 1) 3 #[.int .i64 (pre.length : Int)])
    (fun c pre W' => c = .ret ∧ Jx (numPieces 1 pre) W')
    (AbidesR.and (AbidesR.and (fun s A B row hs hg hr => HJ.out (numPieces 1 s) A B row hs hg (fun r e => by have := hr r e; omega)) (abidesR_block (fun hc => by rcases hc with hc | hc <;> omega) (fun _ => .cells #[.func (.yield l) #[] #[]] 120 (0, 0)))) (abidesR_block (fun hc => by rcases hc with hc | hc <;> omega) (fun s : List ByteArray => .cells #[.int .i64 (s.length : Int)] 3 (0, 0))))
    (fun c => AbidesR.and (abidesR_pure _ _) (fun s A B row hs hg hr => HJx.out (numPieces 1 s) A B row hs hg (fun r e => by have := hr r e; omega)))
    ⟨⟨hj0.out, b0⟩, b1⟩
    (fun x a' _ => a' = { tmps := #[.func (.yield l) #[] #[], .pointer (some ⟨Bt, 0, none⟩), .pointer (some ⟨h, 0, none⟩), .pointer (some ⟨h + 1, 0, none⟩), .string x, .string t, .func (.func 99) #[] #[.pointer (some ⟨h + 1 + 1 + 1, 0, none⟩), .pointer (some ⟨h + 1 + 1, 0, none⟩), .pointer (some ⟨h + 1 + 1 + 1 + 1, 0, none⟩)], .string x, undef, undef, undef, undef, undef, undef, undef, undef, undef, undef, undef, undef, undef], defers := [] })
    (fun x a' => abidesR_pure _ _) ?assign ?body ?done ?stop
  case assign =>
    rintro l' pre x W' K hi _ hs' hK
    gi_wp2
    exact hK _ _ (KeepsAt.refl _ _) hi rfl
  case body =>
    rintro l' pre x a' W' hs' hsp ⟨⟨hj, c0⟩, c1⟩ rfl
    have hxs := pieces_size (hsp.subset (show x ∈ pre ++ [x] by simp))
    have hpl := hsp.length_le
    rw [List.length_append, List.length_singleton] at hpl
    have hpl2 := pieces_len t
    have HC := Lib.hid (cut_any x 35 (by omega))
    have hcn := cut_note x.data.toList
    rw [hcn] at HC
    have k1 := c1.cell 0
    have f1 := c1.frozen 0
    simp only [List.getElem?_toArray, List.getElem?_cons_zero] at k1
    have kb : (pre.length : Int) + 1 ≤ 1000001 := by omega
    have kb0 : (0 : Int) ≤ (pre.length : Int) := by omega
    obtain ⟨y, hy⟩ : ∃ y : ByteArray, (⟨(unNoted x.data.toList).toArray⟩ : ByteArray) = y := ⟨_, rfl⟩
    rw [hy] at HC
    have hn1 : numPieces 1 (pre ++ [x]) = numPieces 1 pre ++ [(pre.length + 1, y)] := by rw [numPieces_snoc, hy, Nat.add_comm]
    have hsp2 : numPieces 1 pre ++ [(pre.length + 1, y)] <+: numPieces 1 (piecesB t) := by rw [← hn1]; exact numPieces_prefix 1 hsp
    have HN1 := Lib.hid hn1
    have HSP2 := Lib.hid hsp2
    have HC0 := Lib.hid c0
    have HC1 := Lib.hid c1
    have Hj := Lib.hid hj
    have Hs' := Lib.hid hs'
    have HYl := Lib.hid (HY.out (numPieces 1 pre) (pre.length + 1, y))
    clear hcn hy hn1 hsp2 c0 c1 hj hs' hxs hpl hpl2 hsp
    gi_wp2_with fail
    refine ⟨trivial, fun h => (by cases h), ?_⟩
    refine (CallsIn.inRound l' (callsIn_wide.2 (HC.out _))).mono ?_
    rintro e w1 ⟨u, v, rfl, q, rfl⟩
    obtain ⟨W2, hW2⟩ : ∃ W2, (W'.setCell ⟨h + 1, 0, none⟩ (.int .i64 ((pre.length : Int) + 1))).drewN q = W2 := ⟨_, rfl⟩
    have d0 : Blk W2 h 120 #[.func (.yield l) #[] #[]] := by rw [← hW2]; exact HC0.out.other (by omega) 0 _
    have d1 : Blk W2 (h + 1) 3 #[.int .i64 ((pre.length : Int) + 1)] := by rw [← hW2]; exact HC1.out.set 0 _
    have hj2 : J (numPieces 1 pre) W2 := by
      rw [← hW2]
      exact HJ.out _ _ _ none (HJ.out.set (h + 1) 0 _ (by omega) Hj.out) ⟨rfl, rfl, rfl, Nat.le_refl _, fun _ _ _ => rfl⟩ (fun r e => by cases e)
    have hk2 : KeepsAt (roundKeeps (fun _ r => r = h + 1 + 1 + 1 ∨ r = h + 1 + 1 ∨ r = h + 1 + 1 + 1 + 1) W0.heap.size) W' W2 := by
      rw [← hW2]
      refine ⟨(KeepsOthers.setCell W' ⟨h + 1, 0, none⟩ _).size, fun k _ hk => ?_⟩
      exact Below.heap_setCell W' ⟨h + 1, 0, none⟩ _ k (by show k ≠ h + 1; rcases hk with hk | hk | hk | hk | hk <;> omega)
    have hs2 : h + 7 ≤ W2.heap.size := Nat.le_trans (by have := Hs'.out; omega) hk2.1
    rw [hW2]
    obtain ⟨fn, tmps, assign, body, hy, hR⟩ := HYl.out W2 hj2 HSP2.out hs2
    have e1 : ((pre.length + 1 : Nat) : Int) = (pre.length : Int) + 1 := by omega
    rw [e1] at hy
    have HR := Lib.hid hR
    have HD0 := Lib.hid d0
    have HD1 := Lib.hid d1
    have HK2 := Lib.hid hk2
    have z0 := d0.cell 0
    have z1 := d1.cell 0
    simp only [List.getElem?_toArray, List.getElem?_cons_zero] at z0 z1
    clear e1 hR d0 d1 hj2 hk2 hW2 HC0 HC1 Hj HC HYl k1 f1 hj0 b0 b1 b2 b3 b4
    gi_wp2
    refine ⟨fun h => (by cases h), ?_⟩
    refine (roundAny l' HR.out).mono ?_
    have hsub : ∀ r, roundKeeps (fun _ r => r = h + 1 + 1 + 1 ∨ r = h + 1 + 1 ∨ r = h + 1 + 1 + 1 + 1) W0.heap.size r → h ≤ r ∧ r < h + 7 := fun r hk => by rcases hk with hk | hk | hk | hk | hk <;> omega
    rintro e W3 ⟨hk3, ⟨rfl, hJ3⟩ | ⟨rfl, hJx3⟩⟩
    · gi_wp2
      refine ⟨HK2.out.trans (hk3.imp fun r _ hr => hsub r hr), ⟨by rw [HN1.out]; exact hJ3, (hk3.2 h HD0.out.lt (by omega)).trans HD0.out⟩, ?_⟩
      have := (hk3.2 (h + 1) HD1.out.lt (by omega)).trans HD1.out
      show W3.heap[h + 1]? = _
      rw [this, List.length_append, List.length_singleton]
      rfl
    · gi_wp2
      exact ⟨HK2.out.trans (hk3.imp fun r _ hr => hsub r hr), rfl, by rw [HN1.out]; exact hJx3⟩
  case done =>
    rintro xs W' rfl ⟨⟨hj, c0⟩, c1⟩ hK
    have hj' := HJ.out _ _ _ (some W0.heap.size) hj (grownBy_putObj' W' W0.heap.size (.deferred none)) (fun r e => by cases e; omega)
    gi_wp2
    refine ⟨by simp, .inl ⟨_, _, rfl, run_takeDeferred hK, ?_⟩⟩
    exact ⟨_, results_none rfl _ _ _, ⟨_, rfl⟩, .inl ⟨_, rfl, hj'⟩⟩
  case stop =>
    rintro c pre W' hS ⟨rfl, hj⟩ hK
    have hj' := HJx.out _ _ _ (some W0.heap.size) hj (grownBy_putObj' W' W0.heap.size (.deferred none)) (fun r e => by cases e; omega)
    gi_wp2
    refine ⟨by simp, .inl ⟨_, _, rfl, run_takeDeferred hK, ?_⟩⟩
    exact ⟨_, results_none rfl _ _ _, ⟨_, rfl⟩, .inr ⟨_, numPieces_prefix 1 hS, hj'⟩⟩
end Go.Proofs.YtmjipkdejggbfaaGreatDoor
namespace Go.Proofs.YtmjipkdejggbfaaGreatDoor
open Go Go.Proofs Go.RowKit Go.Shelf

set_option maxRecDepth 100000 in
theorem blank_any (c : Nat) (w : World) : Calls Tryz.prog 39 #[.int .i32 (c : Int)] w fun e w' => e = .returned (.bool (blkR c)) ∧ w = w' := by
  by_cases h1 : c = 32
  · subst h1
    go_enter Tryz.func39, Tryz.ntmps39
    go_wp2
    go_ret
    exact ⟨rfl, rfl⟩
  have z1 : (((c : Nat) : Int) == 32) = false := by simp; omega
  by_cases h2 : c = 9
  · subst h2
    go_enter Tryz.func39, Tryz.ntmps39
    go_wp2
    go_ret
    exact ⟨rfl, rfl⟩
  have z2 : (((c : Nat) : Int) == 9) = false := by simp; omega
  by_cases h3 : c = 13
  · subst h3
    go_enter Tryz.func39, Tryz.ntmps39
    go_wp2
    go_ret
    exact ⟨rfl, rfl⟩
  have z3 : (((c : Nat) : Int) == 13) = false := by simp; omega
  have hb : blkR c = false := by simp [blkR, h1, h2, h3]
  rw [hb]
  clear h1 h2 h3 hb
  go_enter Tryz.func39, Tryz.ntmps39
  go_wp2
  go_ret
  exact ⟨rfl, rfl⟩

theorem byte_mem (s : ByteArray) (j : Nat) (h : j < s.size) : s[j]'h ∈ s.data.toList := Array.mem_toList_iff.2 (Array.getElem_mem (xs := s.data) h)
/-- What a rune of a line must be. -/
def okR (c : Nat) : Bool := blkR c || (32 ≤ c && c ≤ 126)
theorem okR_byte (c : UInt8) : okR c.toNat = okB c := by
  unfold okR okB
  rw [blkR_byte]
  congr 1
theorem okR_low {c : Nat} (h : okR c = true) : c < 128 := by
  unfold okR blkR at h
  simp only [Bool.or_eq_true, Bool.and_eq_true, decide_eq_true_eq, beq_iff_eq] at h
  omega
/-- The rune at a place is one of a line just if the byte there is. -/
theorem okR_at (s : ByteArray) (pos : Nat) (h : pos < s.size) : okR (Utf8.decode s pos).1 = okB (s[pos]'h) ∧ (okB (s[pos]'h) = true → (Utf8.decode s pos).2 = 1) := by
  by_cases hb : (s[pos]'h).toNat < 128
  · rw [decode_low s pos h hb]
    exact ⟨okR_byte _, fun _ => rfl⟩
  · have h1 := decode_high s pos h (by omega)
    have e1 : okR (Utf8.decode s pos).1 = false := by
      rw [Bool.eq_false_iff]
      intro h2
      have := okR_low h2
      omega
    have e2 : okB (s[pos]'h) = false := by
      rw [Bool.eq_false_iff, ← okR_byte]
      intro h2
      have := okR_low h2
      omega
    exact ⟨e1.trans e2.symm, fun h3 => by rw [e2] at h3; cases h3⟩

set_option maxRecDepth 100000 in
set_option maxHeartbeats 1000000 in
theorem plain_any13 (s : ByteArray) (hs : s.size ≤ 1000000) (w : World) : Calls Tryz.prog 37 #[.string s] w fun e w' => e = .returned (.bool (s.data.toList.all okB)) ∧ Below w.heap.size w w' := by
  obtain ⟨R, hR⟩ : ∃ R, s.data.toList.all okB = R := ⟨_, rfl⟩
  rw [hR]
  have HR := Lib.hid hR
  clear hR
  go_enter Tryz.func37, Tryz.ntmps37
  go_wp2
  go_loopw [4] (fun _ wr => ∃ pos : Nat, Hid (wr.heap[w.heap.size]? = some (.stringIter s pos)) ∧ Hid (Below w.heap.size w wr) ∧ Hid (∀ j (h : j < s.size), j < pos → okB (s[j]'h) = true) ∧ pos ≤ s.size) (fun _ wr => s.size - wr.iterPos w.heap.size)
  case atStart => exact ⟨0, World.iter_heap w s 0, (Below.refl _ _).alloc (Nat.le_refl _) _, fun j _ hj => absurd hj (Nat.not_lt_zero _), Nat.zero_le _⟩
  case round =>
    obtain ⟨pos, HI, HB, HA, hps⟩ := hrel
    by_cases hp : pos < s.size
    · have hnx : ∀ ty, (Instr.next (.pointer (some ⟨w.heap.size, 0, none⟩)) true ty).run Tryz.prog wr = _ := fun ty => Lib.run_next_any_at wr w.heap.size s pos ty HI.out hp
      obtain ⟨hok1, hok2⟩ := okR_at s pos hp
      obtain ⟨c, hc⟩ : ∃ c, (Utf8.decode s pos).1 = c := ⟨_, rfl⟩
      obtain ⟨q, hq⟩ : ∃ q, (Utf8.decode s pos).2 = q := ⟨_, rfl⟩
      rw [hc, hq] at hnx
      rw [hc] at hok1
      rw [hq] at hok2
      have hcr : c ≤ 1114111 := by rw [← hc]; exact Lib.rune_le s pos
      have HI2 : Hid ((wr.iterAt w.heap.size s (pos + q)).heap[w.heap.size]? = some (.stringIter s (pos + q))) := Lib.iterAt_heap wr w.heap.size s pos (pos + q) HI.out
      have HB2 : Hid (Below w.heap.size w (wr.iterAt w.heap.size s (pos + q))) := Lib.below_iterAt HB.out (Nat.le_refl _) s (pos + q)
      have Hhc := Lib.hid hc
      clear hc hq
      generalize wr.iterAt w.heap.size s (pos + q) = W2 at *
      have fin : okB (s[pos]'hp) = false → s.data.toList.all okB = false := fun h => by
        rw [List.all_eq_false]
        exact ⟨s[pos]'hp, byte_mem s pos hp, by rw [h]; decide⟩
      cases hb : blkR c with
      | true =>
        have ho : okB (s[pos]'hp) = true := by rw [← hok1]; unfold okR; rw [hb]; rfl
        obtain rfl : q = 1 := hok2 ho
        have Hbl := Lib.hid (fun W => blank_any c W)
        rw [hb] at Hbl
        have HO := Lib.hid ho
        clear hb ho hok1 hok2 fin
        go_wp2_with fail
        refine (Hbl.out _).mono ?_
        rintro e w1 ⟨rfl, rfl⟩
        go_wp2
        go_roundw
        case rel => exact ⟨pos + 1, HI2, HB2, fun j h hj => by by_cases e : j = pos; · subst e; exact HO.out
                                                               · exact HA.out j h (by omega), by omega⟩
        case measure =>
          simp only [World.iterPos, HI2.out, HI.out]
          omega
      | false =>
        have Hbl := Lib.hid (fun W => blank_any c W)
        rw [hb] at Hbl
        by_cases hl : c < 32
        · have hlz : ((c : Nat) : Int) < 32 := by omega
          have ho : okB (s[pos]'hp) = false := by
            rw [← hok1]
            unfold okR
            rw [hb]
            simp
            omega
          have HF := Lib.hid (HR.out.symm.trans (fin ho))
          clear hb ho hok1 hok2 fin
          go_wp2_with fail
          refine (Hbl.out _).mono ?_
          rintro e w1 ⟨rfl, rfl⟩
          go_wp2
          go_ret
          exact ⟨retB HF.out.symm, HB2.out⟩
        · have hlz : ¬ ((c : Nat) : Int) < 32 := by omega
          by_cases hg : 126 < c
          · have hgz : (126 : Int) < ((c : Nat) : Int) := by omega
            have ho : okB (s[pos]'hp) = false := by
              rw [← hok1]
              unfold okR
              rw [hb]
              simp
              omega
            have HF := Lib.hid (HR.out.symm.trans (fin ho))
            clear hb ho hok1 hok2 fin
            go_wp2_with fail
            refine (Hbl.out _).mono ?_
            rintro e w1 ⟨rfl, rfl⟩
            go_wp2
            go_ret
            exact ⟨retB HF.out.symm, HB2.out⟩
          · have hgz : ¬ (126 : Int) < ((c : Nat) : Int) := by omega
            have ho : okB (s[pos]'hp) = true := by
              rw [← hok1]
              unfold okR
              rw [hb]
              simp
              omega
            obtain rfl : q = 1 := hok2 ho
            have HO := Lib.hid ho
            clear hb ho hok1 hok2 fin
            go_wp2_with fail
            refine (Hbl.out _).mono ?_
            rintro e w1 ⟨rfl, rfl⟩
            go_wp2
            go_roundw
            case rel => exact ⟨pos + 1, HI2, HB2, fun j h hj => by by_cases e : j = pos; · subst e; exact HO.out
                                                                   · exact HA.out j h (by omega), by omega⟩
            case measure =>
              simp only [World.iterPos, HI2.out, HI.out]
              omega
    · have hnx : ∀ ty, (Instr.next (.pointer (some ⟨w.heap.size, 0, none⟩)) true ty).run Tryz.prog wr = _ := fun ty => Lib.run_next_end_at wr w.heap.size s pos ty HI.out hp
      have hf : s.data.toList.all okB = true := by
        rw [List.all_eq_true]
        intro x hx
        obtain ⟨j, hj, rfl⟩ := List.mem_iff_getElem.1 hx
        rw [Array.length_toList] at hj
        have := HA.out j hj (by have e : s.data.size = s.size := rfl; omega)
        rw [Array.getElem_toList]
        exact this
      have HF := Lib.hid (HR.out.symm.trans hf)
      clear hf
      go_wp2
      go_ret
      exact ⟨retB HF.out.symm, HB.out⟩

/-- The library's fields at lex.blank. -/
theorem blank_pays (w : World) : PredAtRunes Tryz.prog 39 #[] blkR w := fun W x _ _ => (blank_any x W).mono fun e w' ⟨he, hw⟩ => ⟨he, 0, by rw [← hw]; rfl⟩
theorem fields_any (s : ByteArray) (hs : s.size ≤ 1000000) (hok : s.data.toList.all okB = true) (w : World) :
    Calls Tryz.prog 38 #[.string s, .func (.func 39) #[] #[]] w fun e w' => ∃ A, e = .returned (.slice (some ⟨A, 0, none⟩) (wordsGo s.data.toList [] []).length (wordsGo s.data.toList [] []).length) ∧ w.heap.size ≤ A ∧
      w'.ownsRow w.heap.size 9 1 (.slice (some ⟨A, 0, none⟩) (wordsGo s.data.toList [] []).length (wordsGo s.data.toList [] []).length) (wordsGo s.data.toList [] []).length ((wordsGo s.data.toList [] []).map Value.string) ∧ Below w.heap.size w w' := by
  have hf := fields_words s (fun j h => by
    have h1 := List.all_eq_true.1 hok (s[j]'h) (byte_mem s j h)
    rw [← okR_byte] at h1
    exact okR_low h1)
  rw [← hf]
  exact Any.strings_FieldsFunc_runes Tryz.lays229 39 #[] (enters_of Tryz.func39 (by kernel_rfl) rfl) blkR s w (by omega) (blank_pays w) (by kernel_rfl) (by kernel_rfl)
end Go.Proofs.YtmjipkdejggbfaaGreatDoor
namespace Go.Proofs.YtmjipkdejggbfaaGreatDoor
open Go Go.Proofs Go.RowKit Go.Shelf

theorem ownsRow_below {W W' : World} {B e size n : Nat} {v : Value} {xs : List Value} (h : W.ownsRow B e size v n xs) (hb : Below W.heap.size W W') : W'.ownsRow B e size v n xs := by
  refine ⟨h.1, ?_⟩
  rcases h.2 with h0 | ⟨g, cap, cur, hv, hB, hg, rest⟩
  · exact .inl h0
  · exact .inr ⟨g, cap, cur, hv, hB, (hb.block g (Array.getElem?_eq_some_iff.1 hg).1).trans hg, rest⟩
theorem ownsRow_mono {W : World} {B B' e size n : Nat} {v : Value} {xs : List Value} (h : W.ownsRow B e size v n xs) (hb : B' ≤ B) : W.ownsRow B' e size v n xs := by
  refine ⟨h.1, ?_⟩
  rcases h.2 with h0 | ⟨g, cap, cur, hv, hB, rest⟩
  · exact .inl h0
  · exact .inr ⟨g, cap, cur, hv, Nat.le_trans hb hB, rest⟩
theorem ownsRow_grown {W W' : World} {B e size n : Nat} {v : Value} {xs : List Value} {row : Option Nat} (h : W.ownsRow B e size v n xs) (hg : W.grownBy W' row) (hr : ∀ r, row = some r → r < B) : W'.ownsRow B e size v n xs := by
  refine ⟨h.1, ?_⟩
  rcases h.2 with h0 | ⟨g, cap, cur, hv, hB, hgg, rest⟩
  · exact .inl h0
  · exact .inr ⟨g, cap, cur, hv, hB, (hg.block g (Array.getElem?_eq_some_iff.1 hgg).1 (fun e => by have := hr g e.symm; omega)).trans hgg, rest⟩
theorem grownBy_set (W : World) (l j : Nat) (v : Value) : W.grownBy (W.setCell ⟨l, j, none⟩ v) (some l) :=
  ⟨rfl, rfl, rfl, by show W.heap.size ≤ (W.heap.modify l _).size; rw [Array.size_modify]; exact Nat.le_refl _, fun k _ hk => Below.heap_setCell W _ v k (fun e => hk (by rw [e]))⟩

/-- A row of lines, as cells. -/
def rowCells : List Value → List Ln → List Value
  | u :: us, x :: ls => .int .i64 (x.1 : Int) :: u :: rowCells us ls
  | _, _ => []
theorem rowCells_snoc : ∀ (us : List Value) (ls : List Ln) (u : Value) (x : Ln), us.length = ls.length → rowCells (us ++ [u]) (ls ++ [x]) = rowCells us ls ++ [.int .i64 (x.1 : Int), u]
  | [], [], _, _, _ => rfl
  | v :: us, y :: ls, u, x, h => by
    show _ :: _ :: rowCells (us ++ [u]) (ls ++ [x]) = _
    rw [rowCells_snoc us ls u x (by simpa using h)]
    rfl
theorem rowCells_at : ∀ (us : List Value) (ls : List Ln) (j : Nat) (u : Value) (x : Ln), us[j]? = some u → ls[j]? = some x → (rowCells us ls)[2 * j]? = some (.int .i64 (x.1 : Int)) ∧ (rowCells us ls)[2 * j + 1]? = some u
  | v :: us, y :: ls, 0, u, x, hu, hx => by
    simp at hu hx
    subst hu hx
    exact ⟨rfl, rfl⟩
  | v :: us, y :: ls, j + 1, u, x, hu, hx => by
    have := rowCells_at us ls j u x (by simpa using hu) (by simpa using hx)
    exact this
/-- Lines lie in memory, from block lo on. -/
def LinesR (tl lo : Nat) (W : World) (v : Value) (ls : List Ln) : Prop :=
  ∃ us : List Value, us.length = ls.length ∧ W.ownsRow lo tl 2 v ls.length (rowCells us ls) ∧ ∀ (j : Nat) (u : Value) (x : Ln), us[j]? = some u → ls[j]? = some x → W.ownsRow lo 9 1 u x.2.length (x.2.map Value.string)
theorem LinesR.nil (tl lo : Nat) (W : World) : LinesR tl lo W (.slice none 0 0) [] := ⟨[], rfl, World.ownsRow_nil _ _ _ _, fun j u x h => by simp at h⟩
theorem LinesR.below {tl lo : Nat} {W W' : World} {v : Value} {ls : List Ln} (h : LinesR tl lo W v ls) (hb : Below W.heap.size W W') : LinesR tl lo W' v ls := by
  obtain ⟨us, h1, h2, h3⟩ := h
  exact ⟨us, h1, ownsRow_below h2 hb, fun j u x hu hx => ownsRow_below (h3 j u x hu hx) hb⟩
theorem LinesR.mono {tl lo lo' : Nat} {W : World} {v : Value} {ls : List Ln} (h : LinesR tl lo W v ls) (hb : lo' ≤ lo) : LinesR tl lo' W v ls := by
  obtain ⟨us, h1, h2, h3⟩ := h
  exact ⟨us, h1, ownsRow_mono h2 hb, fun j u x hu hx => ownsRow_mono (h3 j u x hu hx) hb⟩
theorem LinesR.grown {tl lo : Nat} {W W' : World} {v : Value} {ls : List Ln} {row : Option Nat} (h : LinesR tl lo W v ls) (hg : W.grownBy W' row) (hr : ∀ r, row = some r → r < lo) : LinesR tl lo W' v ls := by
  obtain ⟨us, h1, h2, h3⟩ := h
  exact ⟨us, h1, ownsRow_grown h2 hg hr, fun j u x hu hx => ownsRow_grown (h3 j u x hu hx) hg hr⟩
theorem LinesR.abides {tl lo : Nat} {own : Nat → Prop} (ho : ∀ r, own r → r < lo) {α : Type} (f : α → List Ln) (v : Value) : AbidesR own (fun (s : α) W => LinesR tl lo W v (f s)) := fun s A B row hs hg hr => hs.grown hg (fun r e => ho r (hr r e))
theorem LinesR.slice {tl lo : Nat} {W : World} {v : Value} {ls : List Ln} (h : LinesR tl lo W v ls) : ∃ a c, v = .slice a ls.length c := by
  obtain ⟨us, h1, h2, h3⟩ := h
  rcases h2.2 with ⟨rfl, h0⟩ | ⟨g, cap, cur, rfl, _⟩
  · exact ⟨none, 0, by rw [h0]⟩
  · exact ⟨_, _, rfl⟩

theorem ownsRow_ne {W : World} {B B' e e' s s' n n' g : Nat} {v v' : Value} {xs xs' : List Value} (h : W.ownsRow B e s v n xs) (h' : W.ownsRow B' e' s' v' n' xs') (he : e ≠ e') (hg : v'.ownBlock = some g) : v.ownBlock ≠ some g := by
  intro hv
  rcases h.2 with ⟨rfl, _⟩ | ⟨g1, cap, cur, rfl, _, h1, _⟩
  · simp [Value.ownBlock] at hv
  · rcases h'.2 with ⟨rfl, _⟩ | ⟨g2, cap', cur', rfl, _, h2, _⟩
    · simp [Value.ownBlock] at hg
    · simp only [Value.ownBlock, Option.some.injEq] at hv hg
      subst hv
      subst hg
      rw [h1] at h2
      simp only [Option.some.injEq, Obj.cells.injEq] at h2
      exact he h2.2.1
theorem LinesR.snoc {tl lo : Nat} {W1 W3 : World} {v v' u : Value} {acc : List Ln} {us : List Value} {n : Nat} {ws : List ByteArray} (htl : tl ≠ 9) (hlen : us.length = acc.length)
    (h2 : W1.ownsRow lo tl 2 v acc.length (rowCells us acc)) (h3 : ∀ (j : Nat) (u : Value) (x : Ln), us[j]? = some u → acc[j]? = some x → W1.ownsRow lo 9 1 u x.2.length (x.2.map Value.string))
    (hu : W1.ownsRow lo 9 1 u ws.length (ws.map Value.string)) (hg : W1.grownBy W3 v.ownBlock) (h4 : W3.ownsRow lo tl 2 v' (acc.length + 1) (rowCells us acc ++ [.int .i64 (n : Int), u])) : LinesR tl lo W3 v' (acc ++ [(n, ws)]) := by
  have keep : ∀ (u : Value) (k : Nat) (xs : List Value), W1.ownsRow lo 9 1 u k xs → W3.ownsRow lo 9 1 u k xs := by
    intro u k xs h
    refine h.kept hg ?_
    cases hv : v.ownBlock with
    | none =>
      cases hub : u.ownBlock with
      | none => exact .inl rfl
      | some g => exact .inr (by simp)
    | some g => exact .inr (ownsRow_ne h h2 (Ne.symm htl) hv)
  refine ⟨us ++ [u], by simp [hlen], ?_, ?_⟩
  · rw [List.length_append, List.length_singleton, rowCells_snoc us acc u (n, ws) hlen]
    exact h4
  · intro j u' x hu' hx
    by_cases hj : j < us.length
    · rw [List.getElem?_append_left hj] at hu'
      rw [List.getElem?_append_left (by omega)] at hx
      exact keep _ _ _ (h3 j u' x hu' hx)
    · rw [List.getElem?_append_right (by omega)] at hu'
      rw [List.getElem?_append_right (by omega)] at hx
      have h0 : j - us.length = 0 := by
        have := (List.getElem?_eq_some_iff.1 hu').1
        simp at this
        omega
      rw [h0] at hu'
      rw [show j - acc.length = 0 by omega] at hx
      simp at hu' hx
      subst hu'
      subst hx
      exact keep _ _ _ hu

/-! ### What the loop gathers -/
def okAll (s : ByteArray) : Bool := s.data.toList.all okB
def wordsB (s : ByteArray) : List ByteArray := wordsGo s.data.toList [] []
def accOf (l : List (Nat × ByteArray)) : List Ln := l.flatMap fun x => if wordsB x.2 = [] then [] else [(x.1, wordsB x.2)]
theorem accOf_snoc (l : List (Nat × ByteArray)) (x : Nat × ByteArray) : accOf (l ++ [x]) = addLn x.1 (wordsB x.2) (accOf l) := by
  unfold accOf addLn
  rw [List.flatMap_append, List.flatMap_cons, List.flatMap_nil, List.append_nil]
  split <;> simp
theorem accOf_cons (x : Nat × ByteArray) (r : List (Nat × ByteArray)) : accOf (x :: r) = (if wordsB x.2 = [] then [] else [(x.1, wordsB x.2)]) ++ accOf r := by unfold accOf; rw [List.flatMap_cons]
theorem accOf_length_le : ∀ l : List (Nat × ByteArray), (accOf l).length ≤ l.length
  | [] => Nat.le_refl _
  | x :: r => by
    have := accOf_length_le r
    rw [accOf_cons, List.length_append, List.length_cons]
    split
    · rw [List.length_nil]; omega
    · rw [List.length_singleton]; omega
theorem lineOf_ok {p : List UInt8} (h : okAll ⟨(unNoted p).toArray⟩ = true) : lineOf p = some (wordsB ⟨(unNoted p).toArray⟩) := by
  unfold okAll at h
  unfold lineOf wordsB
  rw [lineGo_eq, if_pos (by simpa using h)]
theorem lineOf_bad {p : List UInt8} (h : okAll ⟨(unNoted p).toArray⟩ = false) : lineOf p = none := by
  unfold okAll at h
  unfold lineOf
  rw [lineGo_eq, if_neg (by simpa using h)]
theorem lexGo_all : ∀ (ps : List (List UInt8)) (n : Nat) (acc : List Ln), (∀ x ∈ numPieces n (ps.map fun l => ⟨l.toArray⟩), okAll x.2 = true) →
    lexGo ps n acc = (acc ++ accOf (numPieces n (ps.map fun l => ⟨l.toArray⟩)), 0, 0)
  | [], n, acc, _ => by
    show (acc, 0, 0) = _
    show _ = (acc ++ [], 0, 0)
    rw [List.append_nil]
  | p :: r, n, acc, h => by
    have h0 := h (n, ⟨(unNoted p).toArray⟩) (by show _ ∈ (n, _) :: _; exact List.mem_cons_self)
    have ih := lexGo_all r (n + 1) (addLn n (wordsB ⟨(unNoted p).toArray⟩) acc) (fun x hx => h x (by show _ ∈ (n, _) :: _; exact List.mem_cons_of_mem _ hx))
    show (match lineOf p with | none => ([], n, 13) | some ws => lexGo r (n + 1) (addLn n ws acc)) = _
    rw [lineOf_ok h0]
    dsimp only
    rw [ih]
    show _ = (acc ++ accOf ((n, ⟨(unNoted p).toArray⟩) :: numPieces (n + 1) (r.map fun l => ⟨l.toArray⟩)), 0, 0)
    congr 1
    unfold accOf addLn
    rw [List.flatMap_cons]
    split <;> simp
theorem lexGo_bad : ∀ (ps : List (List UInt8)) (n : Nat) (acc : List Ln) (init : List (Nat × ByteArray)) (x : Nat × ByteArray), init ++ [x] <+: numPieces n (ps.map fun l => ⟨l.toArray⟩) → (∀ y ∈ init, okAll y.2 = true) → okAll x.2 = false →
    lexGo ps n acc = ([], x.1, 13)
  | [], n, acc, init, x, hp, _, _ => by
    have := hp.length_le
    simp [numPieces] at this
  | p :: r, n, acc, [], x, hp, _, hx => by
    have hp' : [x] <+: (n, ⟨(unNoted p).toArray⟩) :: numPieces (n + 1) (r.map fun l => ⟨l.toArray⟩) := hp
    obtain ⟨rest, he⟩ := hp'
    simp only [List.cons_append, List.nil_append, List.cons.injEq] at he
    obtain ⟨rfl, _⟩ := he
    show (match lineOf p with | none => ([], n, 13) | some ws => lexGo r (n + 1) (addLn n ws acc)) = _
    rw [lineOf_bad hx]
  | p :: r, n, acc, y :: init, x, hp, hy, hx => by
    have hp' : y :: (init ++ [x]) <+: (n, ⟨(unNoted p).toArray⟩) :: numPieces (n + 1) (r.map fun l => ⟨l.toArray⟩) := hp
    rw [List.cons_prefix_cons] at hp'
    obtain ⟨rfl, hp'⟩ := hp'
    have h0 := hy _ List.mem_cons_self
    show (match lineOf p with | none => ([], n, 13) | some ws => lexGo r (n + 1) (addLn n ws acc)) = _
    rw [lineOf_ok h0]
    exact lexGo_bad r (n + 1) _ init x hp' (fun z hz => hy z (List.mem_cons_of_mem _ hz)) hx
theorem lexAns_long {t : ByteArray} (h : 65536 < t.size) : lexAns t = ([], 0, 3) := by unfold lexAns; rw [if_pos h]
theorem lexAns_all {t : ByteArray} (ht : t.size ≤ 65536) (h : ∀ x ∈ numPieces 1 (piecesB t), okAll x.2 = true) : lexAns t = (accOf (numPieces 1 (piecesB t)), 0, 0) := by
  unfold lexAns
  rw [if_neg (by omega), lexGo_all _ _ _ h]
  rfl
theorem lexAns_bad {t : ByteArray} (ht : t.size ≤ 65536) {init : List (Nat × ByteArray)} {x : Nat × ByteArray} (hp : init ++ [x] <+: numPieces 1 (piecesB t)) (hy : ∀ y ∈ init, okAll y.2 = true) (hx : okAll x.2 = false) : lexAns t = ([], x.1, 13) := by
  unfold lexAns
  rw [if_neg (by omega)]
  exact lexGo_bad _ _ _ init x hp hy hx
theorem numPieces_mem : ∀ (l : List ByteArray) (n : Nat) (x : Nat × ByteArray), x ∈ numPieces n l → n ≤ x.1 ∧ x.1 < n + l.length ∧ ∃ p ∈ l, x.2 = ⟨(unNoted p.data.toList).toArray⟩
  | [], _, x, h => by simp [numPieces] at h
  | p :: r, n, x, h => by
    rcases List.mem_cons.1 h with rfl | h
    · exact ⟨Nat.le_refl _, by simp, p, by simp, rfl⟩
    · obtain ⟨h1, h2, q, hq, he⟩ := numPieces_mem r (n + 1) x h
      exact ⟨by omega, by simp; omega, q, by simp [hq], he⟩
theorem numPieces_length : ∀ (l : List ByteArray) (n : Nat), (numPieces n l).length = l.length
  | [], _ => rfl
  | p :: r, n => by show (numPieces (n + 1) r).length + 1 = _; rw [numPieces_length r (n + 1)]; rfl
theorem unNoted_len (l : List UInt8) : (unNoted l).length ≤ l.length := (List.takeWhile_prefix _).length_le
theorem numPieces_size {t : ByteArray} {x : Nat × ByteArray} (h : x ∈ numPieces 1 (piecesB t)) : x.2.size ≤ t.size ∧ x.1 ≤ t.size + 1 := by
  obtain ⟨_, h2, p, hp, he⟩ := numPieces_mem _ _ _ h
  have h3 := pieces_size hp
  have h4 := pieces_len t
  refine ⟨?_, by omega⟩
  rw [he]
  show (unNoted p.data.toList).toArray.size ≤ _
  rw [List.size_toArray]
  have := unNoted_len p.data.toList
  rw [Array.length_toList] at this
  exact Nat.le_trans this h3
end Go.Proofs.YtmjipkdejggbfaaGreatDoor
namespace Go.Proofs.YtmjipkdejggbfaaGreatDoor
open Go Go.Proofs Go.RowKit

theorem infoStr13 : (Tryz.prog.info? 9).map (fun i => (i.zero, i.size, i.bytes)) = some (some (.string ⟨#[]⟩), 1, 16) := by kernel_rfl
theorem size_list (s : ByteArray) : s.data.toList.length = s.size := Array.length_toList
theorem drop_byte (s : ByteArray) (k : Nat) (h : k < s.size) : s.data.toList.drop k = s[k]'h :: s.data.toList.drop (k + 1) := by
  rw [List.drop_eq_getElem_cons (by rw [size_list]; exact h)]
  rfl
theorem drop_end (s : ByteArray) (k : Nat) (h : ¬ k < s.size) : s.data.toList.drop k = [] := List.drop_eq_nil_of_le (by rw [size_list]; omega)
theorem extract_one (s : ByteArray) (k : Nat) (h : k < s.size) : s.extract k (k + 1) = ⟨#[s[k]'h]⟩ := by
  rw [extract_word, List.take_succ_eq_append_getElem (by rw [size_list]; exact h), List.drop_append_of_le_length (by rw [List.length_take, size_list]; omega), List.drop_eq_nil_of_le (by rw [List.length_take, size_list]; omega)]
  rfl
theorem list_append (a b : ByteArray) : (a ++ b).data.toList = a.data.toList ++ b.data.toList := by rw [ByteArray.data_append, Array.toList_append]
/-- What Words answers. -/
def wordsPost (o : Option (List ByteArray)) (w : World) (e : Ending) (w' : World) : Prop :=
  (match o with
    | none => e = .returned (.tuple #[.slice none 0 0, .bool false])
    | some ws => ∃ v, e = .returned (.tuple #[v, .bool true]) ∧ w'.ownsRow w.heap.size 9 1 v ws.length (ws.map Value.string)) ∧ Below w.heap.size w w'
theorem words_post_some {s : ByteArray} {ws : List ByteArray} {v : Value} {w w' : World} (h : lineOf s.data.toList = some ws) (hr : w'.ownsRow w.heap.size 9 1 v ws.length (ws.map Value.string)) (hb : Below w.heap.size w w') :
    wordsPost (lineOf s.data.toList) w (.returned (.tuple #[v, .bool true])) w' := by
  rw [h]
  exact ⟨⟨v, rfl, hr⟩, hb⟩
theorem words_post_none {s : ByteArray} {w w' : World} (h : lineOf s.data.toList = none) (hb : Below w.heap.size w w') :
    wordsPost (lineOf s.data.toList) w (.returned (.tuple #[.slice none 0 0, .bool false])) w' := by
  rw [h]
  exact ⟨rfl, hb⟩
theorem lineGo_note (r w : List UInt8) (out : List ByteArray) : lineGo (35 :: r) w out = some (flush w out) := by unfold lineGo; rw [if_pos rfl]
theorem lineGo_blank {c : UInt8} (h : blkB c = true) (r w : List UInt8) (out : List ByteArray) : lineGo (c :: r) w out = lineGo r [] (flush w out) := by
  have h35 : c ≠ 35 := by rintro rfl; revert h; decide
  conv => lhs; unfold lineGo
  rw [if_neg h35, if_pos h]
theorem lineGo_byte {c : UInt8} (h35 : c ≠ 35) (hb : blkB c = false) (h : okB c = true) (r w : List UInt8) (out : List ByteArray) : lineGo (c :: r) w out = lineGo r (w ++ [c]) out := by
  conv => lhs; unfold lineGo
  rw [if_neg h35, if_neg (by rw [hb]; decide), if_pos h]
theorem lineGo_wrong {c : UInt8} (h35 : c ≠ 35) (hb : blkB c = false) (h : okB c = false) (r w : List UInt8) (out : List ByteArray) : lineGo (c :: r) w out = none := by
  unfold lineGo
  rw [if_neg h35, if_neg (by rw [hb]; decide), if_neg (by rw [h]; decide)]
theorem byte_eq {c : UInt8} {n : Nat} (hn : n < 256) : (((c.toNat : Nat) : Int) == (n : Int)) = (c == UInt8.ofNat n) := by
  rw [Bool.eq_iff_iff]
  simp only [beq_iff_eq]
  constructor
  · intro h
    apply UInt8.toNat_inj.1
    have : c.toNat = n := by omega
    rw [this, UInt8.toNat_ofNat']
    omega
  · rintro rfl
    rw [UInt8.toNat_ofNat']
    omega
theorem okB_iff {c : UInt8} (hb : blkB c = false) : okB c = decide (33 ≤ c.toNat ∧ c.toNat ≤ 126) := by
  unfold okB
  rw [hb, Bool.false_or, Bool.eq_iff_iff]
  have h32 : c ≠ 32 := by rintro rfl; revert hb; decide
  have h32n : c.toNat ≠ 32 := fun e => h32 (UInt8.toNat_inj.1 e)
  simp only [Bool.and_eq_true, decide_eq_true_eq, UInt8.le_iff_toNat_le, UInt8.reduceToNat]
  omega

set_option maxRecDepth 100000 in
set_option maxHeartbeats 2000000 in
theorem refWords_any (s : ByteArray) (hs : s.size ≤ 1000000) (w : World) :
    Calls Tryz.prog 46 #[.string s] w fun e w' => wordsPost (lineOf s.data.toList) w e w' := by
  obtain ⟨i0, hi, hz0, hz1, hz2⟩ := info_parts infoStr13
  go_enter Tryz.func46, Tryz.ntmps46
  go_wp2
  go_loopw [4, 5, 6] (fun v wv i wr => ∃ (k n : Nat) (wd : ByteArray) (out : List ByteArray), k ≤ s.size ∧ i = .int .i64 k ∧ wv = .string wd ∧ wd.size ≤ k ∧ n ≤ k ∧ Hid (out.length = n) ∧ Hid (wr.ownsRow w.heap.size 9 1 v n (out.map Value.string)) ∧ Hid (Below w.heap.size w wr) ∧ Hid (lineGo (s.data.toList.drop k) wd.data.toList out = lineOf s.data.toList)) (fun _ _ i _ => s.size - (intOf i).toNat)
  case atStart => exact ⟨0, 0, ⟨#[]⟩, [], Nat.zero_le _, rfl, rfl, Nat.le_refl _, Nat.le_refl _, rfl, World.ownsRow_nil _ _ _ _, Below.refl _ _, rfl⟩
  case round =>
    obtain ⟨k, n, wd, out, hk, rfl, rfl, hwk, hon, HN, HR, HB, HG⟩ := hrel
    by_cases hlt : k < s.size
    · have hltz : (k : Int) < (s.size : Int) := by omega
      have k0 : (0 : Int) ≤ (k : Int) := by omega
      have hdr := drop_byte s k hlt
      have hx1 := extract_one s k hlt
      obtain ⟨c, hc⟩ : ∃ c, s[k]'hlt = c := ⟨_, rfl⟩
      rw [hc] at hdr hx1
      by_cases h35 : c = 35
      · subst h35
        have q35 : ((((s[k]'hlt).toNat : Nat) : Int) == 35) = true := by rw [hc]; rfl
        have q35n : ((((s[k]'hlt).toNat : Nat) : Int) != 35) = false := by rw [hc]; rfl
        clear hc hx1
        have HF : Hid (lineOf s.data.toList = some (flush wd.data.toList out)) := by
          show _ = _
          rw [← HG.out, hdr]
          exact lineGo_note _ _ _
        clear hdr
        by_cases he : wd.data.toList = []
        · have hfo : flush wd.data.toList out = out := by unfold flush; rw [if_pos he]
          rw [hfo] at HF
          have hem : wd = ⟨#[]⟩ := by apply ByteArray.ext; apply Array.toList_inj.1; rw [he]
          subst hem
          clear he hfo
          go_wp2
          go_ret2
          show wordsPost _ w (.returned (.tuple #[u4, .bool true])) _
          exact words_post_some HF.out (by rw [HN.out]; exact HR.out) HB.out
        · have hfo : flush wd.data.toList out = out ++ [wd] := by unfold flush; rw [if_neg he]
          rw [hfo] at HF
          have he3 : (!wd.data.toList.isEmpty) = true := by cases h : wd.data.toList with | nil => exact absurd h he | cons a b => rfl
          have he5 : (!wd.toList.isEmpty) = true := by rw [ByteArray.toList_eq]; exact he3
          have he6 : ¬ wd.toList = [] := by rw [ByteArray.toList_eq]; exact he
          have he4 : wd.data.toList.isEmpty = false := by cases h : wd.data.toList with | nil => exact absurd h he | cons a b => rfl
          clear he hfo
          have HR1 := Lib.hid (HR.out.alloc (.cells #[.string wd] 9))
          have HB1 := Lib.hid (HB.out.alloc HB.out.size (.cells #[.string wd] 9))
          have HON := Lib.hid hon
          go_wp2_with (at_builtin; refine wpList_append_own _ rfl _ _ 54 rfl w.heap.size 9 i0 (.string ⟨#[]⟩) 1 16 Tryz.underlying54 hi hz0 hz1 hz2 rfl (by decide) _ n _ rfl HR1.out ⟨wr.heap.size, 0, none⟩ 1 1 [.string wd] rfl ?xc1 ?xc2 ?xc3 ?xc4 ?xc5 ?xc6 ?_; (case xc1 => rfl); (case xc2 => exact cell_one_new _ _ _); (case xc3 => simp [Value.oneCell']); (case xc4 => unfold maxLen; omega); (case xc5 => omega); (case xc6 => exact HB1.out.size); intro v' w6 hown' hgrow _; obtain ⟨g', cap', rfl⟩ := ownsRow_succ hown')
          go_ret2
          refine words_post_some HF.out ?_ (HB1.out.grown hgrow HB1.out.size (fun k e => (HR1.out.lt k e).1))
          rw [List.length_append, HN.out, List.map_append]
          exact hown'
      · have q35 : ((((s[k]'hlt).toNat : Nat) : Int) == 35) = false := by rw [hc, show (35 : Int) = ((35 : Nat) : Int) from rfl, byte_eq (by decide)]; simpa using h35
        have q35n : ((((s[k]'hlt).toNat : Nat) : Int) != 35) = true := by show (!_) = true; rw [q35]; rfl
        have q32 (hc32 : c ≠ 32) : ((((s[k]'hlt).toNat : Nat) : Int) == 32) = false := by rw [hc, show (32 : Int) = ((32 : Nat) : Int) from rfl, byte_eq (by decide)]; simpa using hc32
        have q9 (hc9 : c ≠ 9) : ((((s[k]'hlt).toNat : Nat) : Int) == 9) = false := by rw [hc, show (9 : Int) = ((9 : Nat) : Int) from rfl, byte_eq (by decide)]; simpa using hc9
        have q13 (hc13 : c ≠ 13) : ((((s[k]'hlt).toNat : Nat) : Int) == 13) = false := by rw [hc, show (13 : Int) = ((13 : Nat) : Int) from rfl, byte_eq (by decide)]; simpa using hc13
        cases hb : blkB c with
        | true =>
          by_cases hc32 : c = 32
          · have r32 : ((((s[k]'hlt).toNat : Nat) : Int) == 32) = true := by rw [hc, hc32]; rfl
            clear q32 q9 q13 hc hc32
            by_cases he : wd.data.toList = []
            · have hfo : flush wd.data.toList out = out := by unfold flush; rw [if_pos he]
              have hem : wd = ⟨#[]⟩ := by apply ByteArray.ext; apply Array.toList_inj.1; rw [he]
              have HG2 : Hid (lineGo (s.data.toList.drop (k + 1)) (⟨#[]⟩ : ByteArray).data.toList out = lineOf s.data.toList) := by
                show _ = _
                rw [← HG.out, hdr, lineGo_blank hb, hfo]
              subst hem
              clear he hfo hb hdr hx1 h35
              go_wp2
              go_roundw
              case rel => exact ⟨k + 1, n, ⟨#[]⟩, out, by omega, by go_num, rfl, Nat.zero_le _, by omega, HN, HR, HB, HG2⟩
              case measure => simp [intOf]; omega
            · have hfo : flush wd.data.toList out = out ++ [wd] := by unfold flush; rw [if_neg he]
              have HG2 : Hid (lineGo (s.data.toList.drop (k + 1)) (⟨#[]⟩ : ByteArray).data.toList (out ++ [wd]) = lineOf s.data.toList) := by
                show _ = _
                rw [← HG.out, hdr, lineGo_blank hb, hfo]
              have he3 : (!wd.data.toList.isEmpty) = true := by cases h : wd.data.toList with | nil => exact absurd h he | cons a b => rfl
              have he5 : (!wd.toList.isEmpty) = true := by rw [ByteArray.toList_eq]; exact he3
              have he6 : ¬ wd.toList = [] := by rw [ByteArray.toList_eq]; exact he
              clear he hfo hb hdr hx1 h35
              have HR1 := Lib.hid (HR.out.alloc (.cells #[.string wd] 9))
              have HB1 := Lib.hid (HB.out.alloc HB.out.size (.cells #[.string wd] 9))
              go_wp2_with (at_builtin; refine wpList_append_own _ rfl _ _ 54 rfl w.heap.size 9 i0 (.string ⟨#[]⟩) 1 16 Tryz.underlying54 hi hz0 hz1 hz2 rfl (by decide) _ n _ rfl HR1.out ⟨wr.heap.size, 0, none⟩ 1 1 [.string wd] rfl ?pc1 ?pc2 ?pc3 ?pc4 ?pc5 ?pc6 ?_; (case pc1 => rfl); (case pc2 => exact cell_one_new _ _ _); (case pc3 => simp [Value.oneCell']); (case pc4 => unfold maxLen; omega); (case pc5 => omega); (case pc6 => exact HB1.out.size); intro v' w6 hown' hgrow _; obtain ⟨g', cap', rfl⟩ := ownsRow_succ hown')
              go_roundw
              case rel =>
                refine ⟨k + 1, n + 1, ⟨#[]⟩, out ++ [wd], by omega, by go_num, rfl, Nat.zero_le _, by omega, (by show _ = _; rw [List.length_append, HN.out]; rfl), ?_, HB1.out.grown hgrow HB1.out.size (fun k e => (HR1.out.lt k e).1), HG2⟩
                rw [List.map_append]
                exact hown'
              case measure => simp [intOf]; omega
          have r32 := q32 hc32
          by_cases hc9 : c = 9
          · have r9 : ((((s[k]'hlt).toNat : Nat) : Int) == 9) = true := by rw [hc, hc9]; rfl
            clear q32 q9 q13 hc hc32 hc9
            by_cases he : wd.data.toList = []
            · have hfo : flush wd.data.toList out = out := by unfold flush; rw [if_pos he]
              have hem : wd = ⟨#[]⟩ := by apply ByteArray.ext; apply Array.toList_inj.1; rw [he]
              have HG2 : Hid (lineGo (s.data.toList.drop (k + 1)) (⟨#[]⟩ : ByteArray).data.toList out = lineOf s.data.toList) := by
                show _ = _
                rw [← HG.out, hdr, lineGo_blank hb, hfo]
              subst hem
              clear he hfo hb hdr hx1 h35
              go_wp2
              go_roundw
              case rel => exact ⟨k + 1, n, ⟨#[]⟩, out, by omega, by go_num, rfl, Nat.zero_le _, by omega, HN, HR, HB, HG2⟩
              case measure => simp [intOf]; omega
            · have hfo : flush wd.data.toList out = out ++ [wd] := by unfold flush; rw [if_neg he]
              have HG2 : Hid (lineGo (s.data.toList.drop (k + 1)) (⟨#[]⟩ : ByteArray).data.toList (out ++ [wd]) = lineOf s.data.toList) := by
                show _ = _
                rw [← HG.out, hdr, lineGo_blank hb, hfo]
              have he3 : (!wd.data.toList.isEmpty) = true := by cases h : wd.data.toList with | nil => exact absurd h he | cons a b => rfl
              have he5 : (!wd.toList.isEmpty) = true := by rw [ByteArray.toList_eq]; exact he3
              have he6 : ¬ wd.toList = [] := by rw [ByteArray.toList_eq]; exact he
              clear he hfo hb hdr hx1 h35
              have HR1 := Lib.hid (HR.out.alloc (.cells #[.string wd] 9))
              have HB1 := Lib.hid (HB.out.alloc HB.out.size (.cells #[.string wd] 9))
              go_wp2_with (at_builtin; refine wpList_append_own _ rfl _ _ 54 rfl w.heap.size 9 i0 (.string ⟨#[]⟩) 1 16 Tryz.underlying54 hi hz0 hz1 hz2 rfl (by decide) _ n _ rfl HR1.out ⟨wr.heap.size, 0, none⟩ 1 1 [.string wd] rfl ?qc1 ?qc2 ?qc3 ?qc4 ?qc5 ?qc6 ?_; (case qc1 => rfl); (case qc2 => exact cell_one_new _ _ _); (case qc3 => simp [Value.oneCell']); (case qc4 => unfold maxLen; omega); (case qc5 => omega); (case qc6 => exact HB1.out.size); intro v' w6 hown' hgrow _; obtain ⟨g', cap', rfl⟩ := ownsRow_succ hown')
              go_roundw
              case rel =>
                refine ⟨k + 1, n + 1, ⟨#[]⟩, out ++ [wd], by omega, by go_num, rfl, Nat.zero_le _, by omega, (by show _ = _; rw [List.length_append, HN.out]; rfl), ?_, HB1.out.grown hgrow HB1.out.size (fun k e => (HR1.out.lt k e).1), HG2⟩
                rw [List.map_append]
                exact hown'
              case measure => simp [intOf]; omega
          have r9 := q9 hc9
          have hc13 : c = 13 := by
            unfold blkB at hb
            simp only [Bool.or_eq_true, beq_iff_eq] at hb
            rcases hb with (h | h) | h
            · exact absurd h hc32
            · exact absurd h hc9
            · exact h
          have r13 : ((((s[k]'hlt).toNat : Nat) : Int) == 13) = true := by rw [hc, hc13]; rfl
          clear q32 q9 q13 hc hc32 hc9 hc13
          by_cases he : wd.data.toList = []
          · have hfo : flush wd.data.toList out = out := by unfold flush; rw [if_pos he]
            have hem : wd = ⟨#[]⟩ := by apply ByteArray.ext; apply Array.toList_inj.1; rw [he]
            have HG2 : Hid (lineGo (s.data.toList.drop (k + 1)) (⟨#[]⟩ : ByteArray).data.toList out = lineOf s.data.toList) := by
              show _ = _
              rw [← HG.out, hdr, lineGo_blank hb, hfo]
            subst hem
            clear he hfo hb hdr hx1 h35
            go_wp2
            go_roundw
            case rel => exact ⟨k + 1, n, ⟨#[]⟩, out, by omega, by go_num, rfl, Nat.zero_le _, by omega, HN, HR, HB, HG2⟩
            case measure => simp [intOf]; omega
          · have hfo : flush wd.data.toList out = out ++ [wd] := by unfold flush; rw [if_neg he]
            have HG2 : Hid (lineGo (s.data.toList.drop (k + 1)) (⟨#[]⟩ : ByteArray).data.toList (out ++ [wd]) = lineOf s.data.toList) := by
              show _ = _
              rw [← HG.out, hdr, lineGo_blank hb, hfo]
            have he3 : (!wd.data.toList.isEmpty) = true := by cases h : wd.data.toList with | nil => exact absurd h he | cons a b => rfl
            have he5 : (!wd.toList.isEmpty) = true := by rw [ByteArray.toList_eq]; exact he3
            have he6 : ¬ wd.toList = [] := by rw [ByteArray.toList_eq]; exact he
            clear he hfo hb hdr hx1 h35
            have HR1 := Lib.hid (HR.out.alloc (.cells #[.string wd] 9))
            have HB1 := Lib.hid (HB.out.alloc HB.out.size (.cells #[.string wd] 9))
            go_wp2_with (at_builtin; refine wpList_append_own _ rfl _ _ 54 rfl w.heap.size 9 i0 (.string ⟨#[]⟩) 1 16 Tryz.underlying54 hi hz0 hz1 hz2 rfl (by decide) _ n _ rfl HR1.out ⟨wr.heap.size, 0, none⟩ 1 1 [.string wd] rfl ?rc1 ?rc2 ?rc3 ?rc4 ?rc5 ?rc6 ?_; (case rc1 => rfl); (case rc2 => exact cell_one_new _ _ _); (case rc3 => simp [Value.oneCell']); (case rc4 => unfold maxLen; omega); (case rc5 => omega); (case rc6 => exact HB1.out.size); intro v' w6 hown' hgrow _; obtain ⟨g', cap', rfl⟩ := ownsRow_succ hown')
            go_roundw
            case rel =>
              refine ⟨k + 1, n + 1, ⟨#[]⟩, out ++ [wd], by omega, by go_num, rfl, Nat.zero_le _, by omega, (by show _ = _; rw [List.length_append, HN.out]; rfl), ?_, HB1.out.grown hgrow HB1.out.size (fun k e => (HR1.out.lt k e).1), HG2⟩
              rw [List.map_append]
              exact hown'
            case measure => simp [intOf]; omega
        | false =>
          have hnb : c ≠ 32 ∧ c ≠ 9 ∧ c ≠ 13 := by
            refine ⟨?_, ?_, ?_⟩ <;> (rintro rfl; revert hb; decide)
          have r32 := q32 hnb.1
          have r9 := q9 hnb.2.1
          have r13 := q13 hnb.2.2
          have hok := okB_iff hb
          clear q32 q9 q13 hnb
          by_cases hlo : c.toNat < 33
          · have hloz : ((((s[k]'hlt).toNat : Nat) : Int) < 33) := by rw [hc]; omega
            have HF : Hid (lineOf s.data.toList = none) := by
              show _ = _
              rw [← HG.out, hdr]
              exact lineGo_wrong h35 hb (by rw [hok]; simp; omega) _ _ _
            clear hb hok hdr hx1 hc hlo h35
            go_wp2
            go_ret2
            exact words_post_none HF.out HB.out
          · have hloz : ¬ ((((s[k]'hlt).toNat : Nat) : Int) < 33) := by rw [hc]; omega
            by_cases hhi : 126 < c.toNat
            · have hhiz : (126 : Int) < (((s[k]'hlt).toNat : Nat) : Int) := by rw [hc]; omega
              have HF : Hid (lineOf s.data.toList = none) := by
                show _ = _
                rw [← HG.out, hdr]
                exact lineGo_wrong h35 hb (by rw [hok]; simp; omega) _ _ _
              clear hb hok hdr hx1 hc hlo hhi h35
              go_wp2
              go_ret2
              exact words_post_none HF.out HB.out
            · have hhiz : ¬ (126 : Int) < (((s[k]'hlt).toNat : Nat) : Int) := by rw [hc]; omega
              have HG2 : Hid (lineGo (s.data.toList.drop (k + 1)) (wd ++ ⟨#[c]⟩ : ByteArray).data.toList out = lineOf s.data.toList) := by
                show _ = _
                rw [← HG.out, hdr, lineGo_byte h35 hb (by rw [hok]; simp; omega), list_append]
              clear hb hok hdr hc hlo hhi h35
              have k1 : (k : Int) + 1 ≤ (s.size : Int) := by omega
              have k3 : wd.size + (⟨#[c]⟩ : ByteArray).size ≤ 1000001 := by rw [show (⟨#[c]⟩ : ByteArray).size = 1 from rfl]; omega
              have k2 : (k : Int) ≤ (s.size : Int) := by omega
              go_wp2
              go_roundw
              case rel => exact ⟨k + 1, n, wd ++ ⟨#[c]⟩, out, by omega, by go_num, rfl, by rw [ByteArray.size_append, show (⟨#[c]⟩ : ByteArray).size = 1 from rfl]; omega, by omega, HN, HR, HB, HG2⟩
              case measure => simp [intOf]; omega
    · have hltz : ¬ (k : Int) < (s.size : Int) := by omega
      have hdr := drop_end s k hlt
      have HF : Hid (lineOf s.data.toList = some (flush wd.data.toList out)) := by
        show _ = _
        rw [← HG.out, hdr]
        rfl
      clear hdr
      by_cases he : wd.data.toList = []
      · have hfo : flush wd.data.toList out = out := by unfold flush; rw [if_pos he]
        rw [hfo] at HF
        have hem : wd = ⟨#[]⟩ := by apply ByteArray.ext; apply Array.toList_inj.1; rw [he]
        subst hem
        clear he hfo
        go_wp2
        go_ret2
        show wordsPost _ w (.returned (.tuple #[u4, .bool true])) _
        exact words_post_some HF.out (by rw [HN.out]; exact HR.out) HB.out
      · have hfo : flush wd.data.toList out = out ++ [wd] := by unfold flush; rw [if_neg he]
        rw [hfo] at HF
        have he3 : (!wd.data.toList.isEmpty) = true := by cases h : wd.data.toList with | nil => exact absurd h he | cons a b => rfl
        have he5 : (!wd.toList.isEmpty) = true := by rw [ByteArray.toList_eq]; exact he3
        have he6 : ¬ wd.toList = [] := by rw [ByteArray.toList_eq]; exact he
        have he4 : wd.data.toList.isEmpty = false := by cases h : wd.data.toList with | nil => exact absurd h he | cons a b => rfl
        clear he hfo
        have HR1 := Lib.hid (HR.out.alloc (.cells #[.string wd] 9))
        have HB1 := Lib.hid (HB.out.alloc HB.out.size (.cells #[.string wd] 9))
        have HON := Lib.hid hon
        go_wp2_with (at_builtin; refine wpList_append_own _ rfl _ _ 54 rfl w.heap.size 9 i0 (.string ⟨#[]⟩) 1 16 Tryz.underlying54 hi hz0 hz1 hz2 rfl (by decide) _ n _ rfl HR1.out ⟨wr.heap.size, 0, none⟩ 1 1 [.string wd] rfl ?yc1 ?yc2 ?yc3 ?yc4 ?yc5 ?yc6 ?_; (case yc1 => rfl); (case yc2 => exact cell_one_new _ _ _); (case yc3 => simp [Value.oneCell']); (case yc4 => unfold maxLen; omega); (case yc5 => omega); (case yc6 => exact HB1.out.size); intro v' w6 hown' hgrow _; obtain ⟨g', cap', rfl⟩ := ownsRow_succ hown')
        go_ret2
        refine words_post_some HF.out ?_ (HB1.out.grown hgrow HB1.out.size (fun k e => (HR1.out.lt k e).1))
        rw [List.length_append, HN.out, List.map_append]
        exact hown'
end Go.Proofs.YtmjipkdejggbfaaGreatDoor
namespace Go.Proofs.YtmjipkdejggbfaaGreatDoor
open Go Go.Proofs Go.RowKit Go.Shelf
attribute [local go_sem] Oper.semAt_some

theorem infoLn : (Tryz.prog.info? 58).map (fun i => (i.zero, i.size, i.bytes)) = some (some (.agg #[.int .i64 0, .slice none 0 0]), 2, 32) := by kernel_rfl
theorem cell_pair_new (w : World) (x y : Value) (t : TypeId) : ∀ j u, [x, y][j]? = some u → (w.alloc (.cells #[x, y] t)).cell? ((⟨w.heap.size, 0, none⟩ : Addr).add j) = some u := by
  intro j u hj
  match j, hj with
  | 0, hj => simp at hj; subst hj; simp [Addr.add]
  | 1, hj => simp at hj; subst hj; simp [Addr.add]
  | (j + 2), hj => simp at hj

/-- Where the loop over the lines stands. -/
def LinesI (h : Nat) (w : World) (pre : List (Nat × ByteArray)) (W : World) : Prop :=
  (((((∃ v, Blk W (h + 3) 50 #[v] ∧ LinesR 58 (h + 14) W v (accOf pre)) ∧ Blk W h 50 #[.slice none 0 0]) ∧ Blk W (h + 1) 3 #[.int .i64 0]) ∧ Blk W (h + 2) 27 #[.int .i64 0]) ∧ Below h w W) ∧ (∀ x ∈ pre, okAll x.2 = true)
def LinesX (h : Nat) (w : World) (c : Code) (pre : List (Nat × ByteArray)) (W : World) : Prop :=
  c = .ret ∧ ∃ init x, (pre = init ++ [x] ∧ (∀ y ∈ init, okAll y.2 = true) ∧ okAll x.2 = false) ∧ ((Blk W h 50 #[.slice none 0 0] ∧ Blk W (h + 1) 3 #[.int .i64 (x.1 : Int)]) ∧ Blk W (h + 2) 27 #[.int .i64 13]) ∧ Below h w W
theorem blk_abides {α : Type} {own : Nat → Prop} {b : Nat} (hb : ¬ own b) (t : TypeId) (f : α → Array Value) : AbidesR own (fun (s : α) W => Blk W b t (f s)) := abidesR_block hb (fun s => .cells (f s) t (0, 0))
theorem linesI_abides {h : Nat} {w : World} (hw : h = w.heap.size) {own : Nat → Prop} (ho : ∀ r, own r → h + 6 ≤ r ∧ r < h + 14) : AbidesR own (LinesI h w) := by
  have hb : ∀ b, b < h + 6 → ¬ own b := fun b hb hc => by have := ho b hc; omega
  refine AbidesR.and (AbidesR.and (AbidesR.and (AbidesR.and (AbidesR.and ?_ (blk_abides (hb _ (by omega)) _ (fun _ => _))) (blk_abides (hb _ (by omega)) _ (fun _ => _))) (blk_abides (hb _ (by omega)) _ (fun _ => _))) (abidesR_below (by omega) (fun r hr => by have := ho r hr; omega))) (abidesR_pure _ _)
  intro s A B row hs hg hr
  obtain ⟨v, h1, h2⟩ := hs
  exact ⟨v, blk_abides (hb _ (by omega)) _ (fun (_ : Unit) => #[v]) () A B row h1 hg hr, h2.grown hg (fun r e => (ho r (hr r e)).2)⟩
theorem linesX_abides {h : Nat} {w : World} (hw : h = w.heap.size) {own : Nat → Prop} (ho : ∀ r, own r → h + 6 ≤ r ∧ r < h + 14) (c : Code) : AbidesR own (LinesX h w c) := by
  have hb : ∀ b, b < h + 6 → ¬ own b := fun b hb hc => by have := ho b hc; omega
  refine AbidesR.and (abidesR_pure _ _) ?_
  intro s A B row hs hg hr
  obtain ⟨init, x, hp, ⟨⟨h1, h2⟩, h3⟩, h4⟩ := hs
  exact ⟨init, x, hp, ⟨⟨blk_abides (hb _ (by omega)) _ (fun (_ : Unit) => _) () A B row h1 hg hr, blk_abides (hb _ (by omega)) _ (fun (_ : Unit) => _) () A B row h2 hg hr⟩, blk_abides (hb _ (by omega)) _ (fun (_ : Unit) => _) () A B row h3 hg hr⟩,
    abidesR_below (β := Unit) (by omega) (fun r hr => by have := ho r hr; omega) () A B row h4 hg hr⟩

set_option maxRecDepth 100000 in
theorem lexLines_long (t : ByteArray) (ht : 65536 < t.size) (w : World) :
    Calls Tryz.prog 18 #[.string t] w fun e w' => e = .returned (.tuple #[.slice none 0 0, .int .i64 0, .int .i64 3]) ∧ Below w.heap.size w w' := by
  have hz : (65536 : Int) < (t.size : Int) := by omega
  go_enter Tryz.func18, Tryz.ntmps18
  go_wp2
  refine bodyPost_ret (v := .tuple #[.slice none 0 0, .int .i64 0, .int .i64 3]) (by simp [results, Tryz.results18, go_sem]) rfl ⟨rfl, ?_⟩
  exact (((Below.refl _ w).alloc (Nat.le_refl _) _).alloc (by simp) _).alloc (by simp; omega) _

set_option maxRecDepth 100000 in
set_option maxHeartbeats 2000000 in
theorem lexLines_in (n : Nat) (hn : 9 ≤ n) (t : ByteArray) (ht : t.size ≤ 65536) (w : World) :
    CallsIn Fence.wide n Tryz.prog 18 #[.string t] w fun e w' => ∃ v, e = .returned (.tuple #[v, .int .i64 ((lexAns t).2.1 : Int), .int .i64 ((lexAns t).2.2 : Int)]) ∧ LinesR 58 w.heap.size w' v (lexAns t).1 ∧ Below w.heap.size w w' := by
  have hz : ¬ (65536 : Int) < (t.size : Int) := by omega
  refine callsIn_of_wp_marks Tryz.func18 rfl trivial ?_ rfl
  simp only [Tryz.ntmps18, List.size_toArray, List.length_cons, List.length_nil, Nat.reduceAdd, Nat.reduceSub, Array.replicate_succ, Array.replicate_zero, List.push_toArray, List.append_toArray, List.nil_append, List.cons_append]
  gi_wp2_with fail
  refine ⟨trivial, fun h => (by cases h), ?_⟩
  refine (callsIn_wide.2 (lines_any t _)).mono ?_
  rintro e w1 ⟨rfl, rfl⟩
  gi_wp2
  have b0 := (((((Blk.new w 50 #[.slice none 0 0]).alloc (.cells #[.int .i64 0] 3)).alloc (.cells #[.int .i64 0] 27)).alloc (.cells #[.slice none 0 0] 50)).alloc (.cells #[.string t] 9))
  have b1 := ((((Blk.new (w.alloc (.cells #[.slice none 0 0] 50)) 3 #[.int .i64 0]).alloc (.cells #[.int .i64 0] 27)).alloc (.cells #[.slice none 0 0] 50)).alloc (.cells #[.string t] 9))
  have b2 := (((Blk.new ((w.alloc (.cells #[.slice none 0 0] 50)).alloc (.cells #[.int .i64 0] 3)) 27 #[.int .i64 0]).alloc (.cells #[.slice none 0 0] 50)).alloc (.cells #[.string t] 9))
  have b3 := ((Blk.new (((w.alloc (.cells #[.slice none 0 0] 50)).alloc (.cells #[.int .i64 0] 3)).alloc (.cells #[.int .i64 0] 27)) 50 #[.slice none 0 0]).alloc (.cells #[.string t] 9))
  have b4 := Blk.new ((((w.alloc (.cells #[.slice none 0 0] 50)).alloc (.cells #[.int .i64 0] 3)).alloc (.cells #[.int .i64 0] 27)).alloc (.cells #[.slice none 0 0] 50)) 9 #[.string t]
  have hsz : (((((w.alloc (.cells #[.slice none 0 0] 50)).alloc (.cells #[.int .i64 0] 3)).alloc (.cells #[.int .i64 0] 27)).alloc (.cells #[.slice none 0 0] 50)).alloc (.cells #[.string t] 9)).heap.size = w.heap.size + 5 := by simp
  have hb0 : Below w.heap.size w (((((w.alloc (.cells #[.slice none 0 0] 50)).alloc (.cells #[.int .i64 0] 3)).alloc (.cells #[.int .i64 0] 27)).alloc (.cells #[.slice none 0 0] 50)).alloc (.cells #[.string t] 9)) := (((((Below.refl _ w).alloc (Nat.le_refl _) _).alloc (by simp) _).alloc (by simp; omega) _).alloc (by simp; omega) _).alloc (by simp; omega) _
  simp only [World.size_alloc] at b1 b2 b3 b4
  generalize (((((w.alloc (.cells #[.slice none 0 0] 50)).alloc (.cells #[.int .i64 0] 3)).alloc (.cells #[.int .i64 0] 27)).alloc (.cells #[.slice none 0 0] 50)).alloc (.cells #[.string t] 9)) = W0 at *
  generalize hh : w.heap.size = h at *
  have HH := Lib.hid hh
  clear hh
  refine wpIn_rangeFunc_ownR (F := Fence.wide) rfl (by omega) (gf := 62) (lb := #[.pointer (some ⟨h + 1 + 1 + 1 + 1, 0, none⟩)]) rfl trivial (enters_of Tryz.func62 (by kernel_rfl) rfl)
    (lines1_in (n - 1) (by omega) t (by omega) (h + 1 + 1 + 1 + 1) W0 b4) (fun r e => by omega) (fun r e => by omega) (Below.refl _ _) (fun _ => rfl)
    (LinesI h w) (LinesX h w)
    (linesI_abides HH.out.symm (fun r e => by rcases e with e | e <;> omega))
    (fun c => linesX_abides HH.out.symm (fun r e => by rcases e with e | e <;> omega) c)
    ⟨⟨⟨⟨⟨⟨.slice none 0 0, b3, LinesR.nil _ _ _⟩, b0⟩, b1⟩, b2⟩, hb0⟩, fun x hx => by simp at hx⟩
    (fun x a' _ => a' = { tmps := #[.string t, undef, .pointer (some ⟨h, 0, none⟩), .pointer (some ⟨h + 1, 0, none⟩), .pointer (some ⟨h + 1 + 1, 0, none⟩), .pointer (some ⟨h + 1 + 1 + 1, 0, none⟩), .int .i64 (x.1 : Int), .string x.2, undef, .string t, .int .i64 (t.size : Int), .bool false, .string t, .func (.func 62) #[] #[.pointer (some ⟨h + 1 + 1 + 1 + 1, 0, none⟩)], .int .i64 (x.1 : Int), .string x.2, undef, undef, undef, undef, undef, undef, undef, undef, undef, undef, undef, undef, undef, undef, undef, undef], defers := [] })
    (fun x a' => abidesR_pure _ _) ?assign ?body ?done ?stop
  case assign =>
    rintro l' pre x W' K hi _ hs' hK
    gi_wp2
    exact hK _ _ (KeepsAt.refl _ _) hi rfl
  case body =>
    rintro l' pre ⟨xn, xs⟩ a' W' hs' hsp hI rfl
    obtain ⟨⟨⟨⟨⟨⟨v, c3, hL⟩, c0⟩, c1⟩, c2⟩, hB⟩, hall⟩ := hI
    obtain ⟨hx1, hx2⟩ := numPieces_size (hsp.subset (show (xn, xs) ∈ pre ++ [(xn, xs)] by simp))
    dsimp only at hx1 hx2
    have hpl := hsp.length_le
    have hW7 : h + 14 ≤ W'.heap.size := by omega
    have hpl2 : pre.length + 1 ≤ 65537 := by
      rw [List.length_append, List.length_singleton, numPieces_length] at hpl
      have := pieces_len t
      omega
    have HP := Lib.hid (plain_any13 xs (by omega))
    have HC0 := Lib.hid c0
    have HC1 := Lib.hid c1
    have HC2 := Lib.hid c2
    have HC3 := Lib.hid c3
    have HL := Lib.hid hL
    have HB := Lib.hid hB
    have HALL := Lib.hid hall
    have HSP := Lib.hid hsp
    clear c0 c1 c2 c3 hL hB hall hsp hpl b0 b1 b2 b3 b4 hb0
    cases ho : okAll xs with
    | false =>
      rw [show xs.data.toList.all okB = false from ho] at HP
      have HO := Lib.hid ho
      clear ho
      gi_wp2_with fail
      refine ⟨trivial, fun h => (by cases h), ?_⟩
      refine (CallsIn.inRound l' (callsIn_wide.2 (HP.out _))).mono ?_
      rintro e w1 ⟨rfl, hb1⟩
      have d0 := HC0.out.below hb1 HC0.out.lt
      have d1 := HC1.out.below hb1 HC1.out.lt
      have d2 := HC2.out.below hb1 HC2.out.lt
      have HB1 := Lib.hid (HB.out.trans (hb1.mono (by omega)))
      have HK1 := Lib.hid (KeepsAt.below (R := roundKeeps (fun h r => h ≤ r ∧ r < h + 7) W0.heap.size) hb1)
      have z0 := d0.cell 0
      have y0 := d0.frozen 0
      have z1 := d1.cell 0
      have y1 := d1.frozen 0
      have z2 := d2.cell 0
      have y2 := d2.frozen 0
      simp only [List.getElem?_toArray, List.getElem?_cons_zero] at z0 z1 z2
      have HD0 := Lib.hid d0
      have HD1 := Lib.hid d1
      have HD2 := Lib.hid d2
      clear hb1 d0 d1 d2 HB HC0 HC1 HC2 HC3 HL HP
      gi_wp2
      refine ⟨HK1.out.trans (((KeepsAt.setCell _ _ _ ?k0).trans (KeepsAt.setCell _ _ _ ?k1)).trans (KeepsAt.setCell _ _ _ ?k2)), rfl, pre, (xn, xs), ⟨rfl, HALL.out, HO.out⟩, ⟨⟨?f0, ?f1⟩, ?f2⟩, ?f3⟩
      case k0 => intro hk; rcases hk with hk | hk | hk <;> simp at hk <;> omega
      case k1 => intro hk; rcases hk with hk | hk | hk <;> simp at hk <;> omega
      case k2 => intro hk; rcases hk with hk | hk | hk <;> simp at hk <;> omega
      case f0 => exact ((HD0.out.set 0 (.slice none 0 0)).other (by omega) 0 _).other (by omega) 0 _
      case f1 => exact ((HD1.out.other (by omega) 0 _).set 0 (.int .i64 (xn : Int))).other (by omega) 0 _
      case f2 => exact (((HD2.out.other (by omega) 0 _).other (by omega) 0 _).set 0 (.int .i64 13))
      case f3 => exact ((HB1.out.setCell (p := ⟨h, 0, none⟩) (Nat.le_refl _) _).setCell (p := ⟨h + 1, 0, none⟩) (by simp) _).setCell (p := ⟨h + 1 + 1, 0, none⟩) (by simp; omega) _
    | true =>
      have HF := Lib.hid (fields_any xs (by omega) ho)
      rw [show xs.data.toList.all okB = true from ho] at HP
      have HO := Lib.hid ho
      clear ho
      gi_wp2_with fail
      refine ⟨trivial, fun h => (by cases h), ?_⟩
      refine (CallsIn.inRound l' (callsIn_wide.2 (HP.out _))).mono ?_
      rintro e w1 ⟨rfl, hb1⟩
      have HC01 := Lib.hid (HC0.out.below hb1 HC0.out.lt)
      have HC11 := Lib.hid (HC1.out.below hb1 HC1.out.lt)
      have HC21 := Lib.hid (HC2.out.below hb1 HC2.out.lt)
      have HC31 := Lib.hid (HC3.out.below hb1 HC3.out.lt)
      have HL1 := Lib.hid (HL.out.below hb1)
      have HB1 := Lib.hid (HB.out.trans (hb1.mono (by omega)))
      have HK1 := Lib.hid (KeepsAt.below (R := roundKeeps (fun h r => h ≤ r ∧ r < h + 7) W0.heap.size) hb1)
      have hW71 : h + 14 ≤ w1.heap.size := Nat.le_trans hW7 hb1.size
      clear hb1 HC0 HC1 HC2 HC3 HL HP HB
      obtain ⟨ws, hws⟩ : ∃ ws, wordsB xs = ws := ⟨_, rfl⟩
      rw [show wordsGo xs.data.toList [] [] = ws from hws] at HF
      obtain ⟨K, hK⟩ : ∃ K, ws.length = K := ⟨_, rfl⟩
      rw [hK] at HF
      have HWS := Lib.hid hws
      have HKW := Lib.hid hK
      clear hws hK
      gi_wp2_with fail
      refine ⟨trivial, fun h => (by cases h), ?_⟩
      refine (CallsIn.inRound l' (callsIn_wide.2 (HF.out _))).mono ?_
      rintro e w2 ⟨A, rfl, hA, hR2, hb2⟩
      have HC02 := Lib.hid (HC01.out.below hb2 HC01.out.lt)
      have HC12 := Lib.hid (HC11.out.below hb2 HC11.out.lt)
      have HC22 := Lib.hid (HC21.out.below hb2 HC21.out.lt)
      have HC32 := Lib.hid (HC31.out.below hb2 HC31.out.lt)
      have HL2 := Lib.hid (HL1.out.below hb2)
      have HB2 := Lib.hid (HB1.out.trans (hb2.mono (by omega)))
      have HK2 := Lib.hid (HK1.out.trans (KeepsAt.below hb2))
      have hW72 : h + 14 ≤ w2.heap.size := Nat.le_trans hW71 hb2.size
      have HU := Lib.hid (ownsRow_mono hR2 hW71)
      clear hb2 hR2 hA HC01 HC11 HC21 HC31 HL1 HB1 HK1 HF
      have hallx : Hid (∀ y ∈ pre ++ [(xn, xs)], okAll y.2 = true) := by
        intro y hy
        rcases List.mem_append.1 hy with hy | hy
        · exact HALL.out y hy
        · simp at hy
          subst hy
          exact HO.out
      by_cases hk0 : 0 < K
      · have hk0z : (0 : Int) < (K : Int) := by omega
        have hne : ¬ ws = [] := fun e => by have := HKW.out; rw [e] at this; simp at this; omega
        have Hacc : Hid (accOf (pre ++ [(xn, xs)]) = accOf pre ++ [(xn, ws)]) := by
          show _ = _
          rw [accOf_snoc]
          show addLn xn (wordsB xs) _ = _
          rw [HWS.out]
          unfold addLn
          rw [if_neg hne]
        obtain ⟨us, hu1, hu2, hu3⟩ := HL2.out
        obtain ⟨i0, hi, hz0, hz1, hz2⟩ := info_parts infoLn
        have hal := accOf_length_le pre
        have c3 := HC32.out.cell 0
        have f3 := HC32.out.frozen 0
        simp only [List.getElem?_toArray, List.getElem?_cons_zero] at c3
        obtain ⟨NL, hNL⟩ : ∃ NL, (accOf pre).length = NL := ⟨_, rfl⟩
        rw [hNL] at hu1 hu2 hal
        have HNL := Lib.hid hNL
        have HU1 := Lib.hid hu1
        have HU2 := Lib.hid hu2
        have HU3 := Lib.hid hu3
        have HA2 := Lib.hid (ownsRow_below hu2 ((Below.refl _ w2).alloc (Nat.le_refl _) (.cells #[.int .i64 (xn : Int), .slice (some ⟨A, 0, none⟩) K K] 58)))
        have hlt3 : h + 3 < w2.heap.size := by omega
        have HV : Hid (∀ r, v.ownBlock = some r → h + 14 ≤ r) := fun r e => (hu2.lt r e).1
        have HV3 : Hid (some (h + 3) ≠ v.ownBlock) := fun e => by have := HV.out _ e.symm; omega
        have HCN := Lib.hid (HC32.out.alloc (.cells #[.int .i64 (xn : Int), .slice (some ⟨A, 0, none⟩) K K] 58))
        clear hNL hu1 hu2 hu3 hne
        gi_wp2_with (gi_at_builtin; refine wpListIn_append_own _ rfl _ _ 50 rfl (h + 14) 58 i0 (.agg #[.int .i64 0, .slice none 0 0]) 2 32 Tryz.underlying50 hi hz0 hz1 hz2 rfl (by decide) v NL _ rfl HA2.out ⟨w2.heap.size, 0, none⟩ 1 1 [.int .i64 (xn : Int), .slice (some ⟨A, 0, none⟩) K K] rfl rfl (cell_pair_new _ _ _ _) (by simp [Value.oneCell']) (by unfold maxLen; omega) (by omega) (by simp; omega) ?_; intro v' w3 hown' hgrow _; obtain ⟨g', cap', rfl⟩ := ownsRow_succ hown'; have d3 := HCN.out.kept hgrow HV3.out; have cc3 := d3.cell 0; have ff3 := d3.frozen 0; simp only [List.getElem?_toArray, List.getElem?_cons_zero] at cc3)
        have hsz2 : (w2.alloc (.cells #[.int .i64 (xn : Int), .slice (some ⟨A, 0, none⟩) K K] 58)).heap.size = w2.heap.size + 1 := by simp
        have hbN : Below h w (w2.alloc (.cells #[.int .i64 (xn : Int), .slice (some ⟨A, 0, none⟩) K K] 58)) := HB2.out.alloc (by omega) _
        have hb3 := hbN.grown hgrow (by omega) (fun k e => by have := HV.out k e; omega)
        have hLN : LinesR 58 (h + 14) w3 (.slice (some ⟨g', 0, none⟩) (NL + 1) cap') (accOf (pre ++ [(xn, xs)])) := by
          rw [Hacc.out]
          refine LinesR.snoc (W1 := w2.alloc (.cells #[.int .i64 (xn : Int), .slice (some ⟨A, 0, none⟩) K K] 58)) (us := us) (by decide) (by rw [HNL.out]; exact HU1.out) (by rw [HNL.out]; exact HA2.out) (fun j u x hu hx => ownsRow_below (HU3.out j u x hu hx) ((Below.refl _ w2).alloc (Nat.le_refl _) _)) ?_ hgrow (by rw [HNL.out]; exact hown')
          rw [HKW.out]
          exact ownsRow_below HU.out ((Below.refl _ w2).alloc (Nat.le_refl _) _)
        refine ⟨(HK2.out.trans (KeepsAt.alloc _ _)).trans ((KeepsAt.grown hgrow ?k4).trans (KeepsAt.setCell _ _ _ ?k5)), ⟨⟨⟨⟨⟨_, d3.set 0 _, hLN.grown (grownBy_set _ _ _ _) (fun r e => by cases e; omega)⟩, ?f0⟩, ?f1⟩, ?f2⟩, ?f3⟩, hallx.out⟩
        case k4 => intro r e hk; have := HV.out r e; rcases hk with hk | hk | hk <;> omega
        case k5 => intro hk; rcases hk with hk | hk | hk <;> simp at hk <;> omega
        case f0 => exact (((HC02.out.alloc _).kept hgrow (fun e => by have := HV.out _ e.symm; omega))).other (by omega) 0 _
        case f1 => exact (((HC12.out.alloc _).kept hgrow (fun e => by have := HV.out _ e.symm; omega))).other (by omega) 0 _
        case f2 => exact (((HC22.out.alloc _).kept hgrow (fun e => by have := HV.out _ e.symm; omega))).other (by omega) 0 _
        case f3 => exact hb3.setCell (p := ⟨h + 1 + 1 + 1, 0, none⟩) (by simp; omega) _
      · have hk0z : ¬ (0 : Int) < (K : Int) := by omega
        have hne : ws = [] := List.eq_nil_of_length_eq_zero (by have := HKW.out; omega)
        have Hacc : Hid (accOf (pre ++ [(xn, xs)]) = accOf pre) := by
          show _ = _
          rw [accOf_snoc]
          show addLn xn (wordsB xs) _ = _
          rw [HWS.out, hne]
          rfl
        clear hne
        gi_wp2
        refine ⟨HK2.out, ⟨⟨⟨⟨⟨v, HC32.out, by rw [Hacc.out]; exact HL2.out⟩, HC02.out⟩, HC12.out⟩, HC22.out⟩, HB2.out⟩, hallx.out⟩
  case done =>
    rintro xs W' rfl hI hK
    obtain ⟨⟨⟨⟨⟨⟨v, c3, hL⟩, c0⟩, c1⟩, c2⟩, hB⟩, hall⟩ := hI
    have hans := lexAns_all ht hall
    have HANS := Lib.hid hans
    have HL := Lib.hid hL
    have HB := Lib.hid hB
    have HKK := Lib.hid hK
    have z3 := c3.cell 0
    have z0 := c0.cell 0
    have y0 := c0.frozen 0
    have z1 := c1.cell 0
    have y1 := c1.frozen 0
    have z2 := c2.cell 0
    have y2 := c2.frozen 0
    simp only [List.getElem?_toArray, List.getElem?_cons_zero] at z0 z1 z2 z3
    obtain ⟨a, cc, hv⟩ := hL.slice
    obtain ⟨NL, hNL⟩ : ∃ NL, (accOf (numPieces 1 (piecesB t))).length = NL := ⟨_, rfl⟩
    rw [hNL] at hv
    subst hv
    have HC0 := Lib.hid c0
    have HC1 := Lib.hid c1
    have HC2 := Lib.hid c2
    clear hans hL hB hK hall c0 c1 c2 c3 b0 b1 b2 b3 b4 hb0 hNL
    gi_wp2
    have hK' := (((KeepsOthers.setCell _ ⟨h, 0, none⟩ (.slice a NL cc)).trans (KeepsOthers.setCell _ ⟨h + 1, 0, none⟩ (.int .i64 0))).trans (KeepsOthers.setCell _ ⟨h + 1 + 1, 0, none⟩ (.int .i64 0))).same _ _ HKK.out rfl
    refine ⟨by simp, .inl ⟨_, _, rfl, run_takeDeferred hK', ?_⟩⟩
    have d0 := (((HC0.out.set 0 (.slice a NL cc)).other (B' := h + 1) (by omega) 0 (.int .i64 0)).other (B' := h + 1 + 1) (by omega) 0 (.int .i64 0)).put (.deferred none) (l := W0.heap.size) (by omega)
    have d1 := (((HC1.out.other (B' := h) (by omega) 0 (.slice a NL cc)).set 0 (.int .i64 0)).other (B' := h + 1 + 1) (by omega) 0 (.int .i64 0)).put (.deferred none) (l := W0.heap.size) (by omega)
    have d2 := (((HC2.out.other (B' := h) (by omega) 0 (.slice a NL cc)).other (B' := h + 1) (by omega) 0 (.int .i64 0)).set 0 (.int .i64 0)).put (.deferred none) (l := W0.heap.size) (by omega)
    have e0 := d0.cell 0
    have e1 := d1.cell 0
    have e2 := d2.cell 0
    simp at e0 e1 e2
    refine ⟨.tuple #[.slice a NL cc, .int .i64 0, .int .i64 0], ?_, _, by rw [HANS.out]; rfl, ?_, ?_⟩
    · simp [results, Tryz.f18, go_sem, e0, e1, e2]
    · rw [HANS.out]
      refine LinesR.mono ((((HL.out.grown (grownBy_set _ _ _ _) ?_).grown (grownBy_set _ _ _ _) ?_).grown (grownBy_set _ _ _ _) ?_).grown (grownBy_putObj' _ W0.heap.size _) ?_) ?_
      · intro r e; cases e; omega
      · intro r e; cases e; omega
      · intro r e; cases e; omega
      · intro r e; cases e; omega
      · rw [HH.out]; omega
    · rw [HH.out]
      have hX := ((HB.out.setCell (p := ⟨h, 0, none⟩) (Nat.le_refl _) (.slice a NL cc)).setCell (p := ⟨h + 1, 0, none⟩) (by simp) (.int .i64 0)).setCell (p := ⟨h + 1 + 1, 0, none⟩) (by simp; omega) (.int .i64 0)
      exact hX.grown (grownBy_putObj' _ W0.heap.size _) (by have := hX.size; rw [HH.out] at this; exact this) (fun k e => by cases e; omega)
  case stop =>
    rintro c pre W' hS ⟨rfl, init, x, ⟨rfl, hall, hbad⟩, ⟨⟨c0, c1⟩, c2⟩, hB⟩ hK
    have hans := lexAns_bad ht hS hall hbad
    gi_wp2
    refine ⟨by simp, .inl ⟨_, _, rfl, run_takeDeferred hK, ?_⟩⟩
    have d0 := c0.put (.deferred none) (l := W0.heap.size) (by omega)
    have d1 := c1.put (.deferred none) (l := W0.heap.size) (by omega)
    have d2 := c2.put (.deferred none) (l := W0.heap.size) (by omega)
    have e0 := d0.cell 0
    have e1 := d1.cell 0
    have e2 := d2.cell 0
    simp at e0 e1 e2
    refine ⟨.tuple #[.slice none 0 0, .int .i64 (x.1 : Int), .int .i64 13], ?_, _, by rw [hans]; rfl, ?_, ?_⟩
    · simp [results, Tryz.f18, go_sem, e0, e1, e2]
    · rw [hans]
      exact LinesR.nil _ _ _
    · rw [HH.out]
      exact hB.grown (grownBy_putObj' _ W0.heap.size _) (by have := hB.size; rw [HH.out] at this; exact this) (fun k e => by cases e; omega)

/-- THE CONTRACT. -/
theorem lexLines_any (t : ByteArray) (w : World) : Calls Tryz.prog 18 #[.string t] w fun e w' => ∃ v, e = .returned (.tuple #[v, .int .i64 ((lexAns t).2.1 : Int), .int .i64 ((lexAns t).2.2 : Int)]) ∧ LinesR 58 w.heap.size w' v (lexAns t).1 ∧ Below w.heap.size w w' := by
  by_cases h : 65536 < t.size
  · refine (lexLines_long t h w).mono ?_
    rintro e w' ⟨rfl, hb⟩
    rw [lexAns_long h]
    exact ⟨_, rfl, LinesR.nil _ _ _, hb⟩
  · exact callsIn_wide.1 (lexLines_in 9 (by omega) t (by omega) w)
end Go.Proofs.YtmjipkdejggbfaaGreatDoor
namespace Go.Proofs.YtmjipkdejggbfaaGreatDoor
open Go Go.Proofs Go.RowKit

theorem infoLnR : (Tryz.prog.info? 63).map (fun i => (i.zero, i.size, i.bytes)) = some (some (.agg #[.int .i64 0, .slice none 0 0]), 2, 32) := by kernel_rfl
/-- What the reference's loop has, at byte i, the piece under way beginning at a. -/
def RunAt (t : ByteArray) (ans : List Ln × Nat × Nat) (i a n : Nat) (acc : List Ln) : Prop :=
  (i ≤ t.size ∧ a ≤ i ∧ (∀ j (h : j < t.size), a ≤ j → j < i → t[j]'h ≠ 10) ∧ lexGo (pieces (t.data.toList.drop a)) n acc = ans) ∨ (i = t.size + 1 ∧ ans = (acc, 0, 0))
theorem piece_here (t : ByteArray) (i a : Nat) (ha : a ≤ i) (hi : i ≤ t.size) (hno : ∀ j (h : j < t.size), a ≤ j → j < i → t[j]'h ≠ 10) : (10 : UInt8) ∉ (t.extract a i).data.toList ∧ (t.extract a i).size ≤ t.size ∧ t.data.toList.drop a = (t.extract a i).data.toList ++ t.data.toList.drop i := by
  have e := extract_word t a i
  have hl : (t.extract a i).data.toList = (t.data.toList.take i).drop a := by rw [e]
  have hd : t.data.toList.drop a = (t.data.toList.take i).drop a ++ t.data.toList.drop i := by
    conv => lhs; rw [← List.take_append_drop i t.data.toList]
    rw [List.drop_append_of_le_length (by rw [List.length_take, size_list]; omega)]
  refine ⟨?_, ?_, by rw [hl]; exact hd⟩
  · rw [hl]
    intro hm
    obtain ⟨j, hj, hj2⟩ := List.mem_iff_getElem.1 hm
    rw [List.length_drop, List.length_take, size_list] at hj
    rw [List.getElem_drop, List.getElem_take] at hj2
    exact hno (a + j) (by omega) (by omega) (by omega) hj2
  · rw [← size_list, hl, List.length_drop, List.length_take, size_list]
    omega
theorem run_next {t : ByteArray} {ans : List Ln × Nat × Nat} {i a n : Nat} {acc : List Ln} (h : RunAt t ans i a n acc) (hi : i < t.size) (hb : t[i]'hi ≠ 10) : RunAt t ans (i + 1) a n acc := by
  rcases h with ⟨_, h2, h3, h4⟩ | ⟨h1, _⟩
  · refine .inl ⟨by omega, by omega, fun j hj h5 h6 => ?_, h4⟩
    by_cases e : j = i
    · subst e; exact hb
    · exact h3 j hj h5 (by omega)
  · omega
theorem run_piece {t : ByteArray} {ans : List Ln × Nat × Nat} {i a n : Nat} {acc : List Ln} (h : RunAt t ans i a n acc) (hi : i ≤ t.size) (hb : ∀ h : i < t.size, t[i]'h = 10) :
    a ≤ i ∧ (t.extract a i).size ≤ t.size ∧ (lineOf (t.extract a i).data.toList = none → ans = ([], n, 13)) ∧ (∀ ws, lineOf (t.extract a i).data.toList = some ws → RunAt t ans (i + 1) (i + 1) (n + 1) (addLn n ws acc)) := by
  rcases h with ⟨_, h2, h3, h4⟩ | ⟨h1, _⟩
  · obtain ⟨p1, p2, p3⟩ := piece_here t i a h2 hi h3
    refine ⟨h2, p2, ?_, ?_⟩
    · intro hn
      rw [← h4, p3]
      by_cases hlt : i < t.size
      · rw [drop_byte t i hlt, hb hlt, pieces_at _ _ p1]
        unfold lexGo
        rw [hn]
      · rw [drop_end t i hlt, List.append_nil, pieces_none _ p1]
        unfold lexGo
        rw [hn]
    · intro ws hw
      by_cases hlt : i < t.size
      · refine .inl ⟨by omega, Nat.le_refl _, fun j hj h5 h6 => by omega, ?_⟩
        rw [← h4, p3, drop_byte t i hlt, hb hlt, pieces_at _ _ p1]
        conv => rhs; unfold lexGo
        rw [hw]
      · refine .inr ⟨by omega, ?_⟩
        rw [← h4, p3, drop_end t i hlt, List.append_nil, pieces_none _ p1]
        unfold lexGo
        rw [hw]
        rfl
  · omega
/-- What Lines answers. -/
def linesPost (tl : Nat) (a : List Ln × Nat × Nat) (w : World) (e : Ending) (w' : World) : Prop :=
  ∃ v, e = .returned (.tuple #[v, .int .i64 (a.2.1 : Int), .int .i64 (a.2.2 : Int)]) ∧ LinesR tl w.heap.size w' v a.1 ∧ Below w.heap.size w w'
theorem lines_post {tl : Nat} {a : List Ln × Nat × Nat} {ls : List Ln} {n e : Nat} {v : Value} {w w' : World} (h : a = (ls, n, e)) (hl : LinesR tl w.heap.size w' v ls) (hb : Below w.heap.size w w') : linesPost tl a w (.returned (.tuple #[v, .int .i64 (n : Int), .int .i64 (e : Int)])) w' := by
  subst h
  exact ⟨v, rfl, hl, hb⟩

set_option maxRecDepth 100000 in
set_option maxHeartbeats 2000000 in
theorem refLines_any (t : ByteArray) (ht : t.size ≤ 1000000) (w : World) :
    Calls Tryz.prog 20 #[.string t] w fun e w' => linesPost 63 (lexAns t) w e w' := by
  by_cases hlong : 65536 < t.size
  · have hz : (65536 : Int) < (t.size : Int) := by omega
    have HA := Lib.hid (lexAns_long hlong)
    clear hlong
    go_enter Tryz.func20, Tryz.ntmps20
    go_wp2
    go_ret3
    exact lines_post HA.out (LinesR.nil _ _ _) (Below.refl _ _)
  have hz : ¬ (65536 : Int) < (t.size : Int) := by omega
  obtain ⟨ans, hans⟩ : ∃ ans, lexAns t = ans := ⟨_, rfl⟩
  have h0 : RunAt t ans 0 0 1 [] := by
    refine .inl ⟨Nat.zero_le _, Nat.le_refl _, fun j _ _ h => by omega, ?_⟩
    rw [← hans]
    unfold lexAns
    rw [if_neg hlong]
    rfl
  rw [hans]
  have H0 := Lib.hid h0
  clear h0 hans
  obtain ⟨i0, hi, hz0, hz1, hz2⟩ := info_parts infoLnR
  go_enter Tryz.func20, Tryz.ntmps20
  go_wp2
  go_loopw [5, 6, 7, 8] (fun v nv av iv wr => ∃ (i a n : Nat) (acc : List Ln), i ≤ t.size + 1 ∧ a ≤ i ∧ n ≤ i + 1 ∧ acc.length ≤ i ∧ iv = .int .i64 i ∧ av = .int .i64 a ∧ nv = .int .i64 n ∧ Hid (RunAt t ans i a n acc) ∧ Hid (LinesR 63 w.heap.size wr v acc) ∧ Hid (Below w.heap.size w wr)) (fun _ _ _ iv _ => t.size + 1 - (intOf iv).toNat)
  case atStart => exact ⟨0, 0, 1, [], Nat.zero_le _, Nat.le_refl _, by omega, by simp, rfl, rfl, rfl, H0, LinesR.nil _ _ _, Below.refl _ _⟩
  case round =>
    obtain ⟨i, a, n, acc, hi1, hai, hni, hal, rfl, rfl, rfl, HR, HL, HB⟩ := hrel
    clear H0
    have i0z : (0 : Int) ≤ (i : Int) := by omega
    have a0z : (0 : Int) ≤ (a : Int) := by omega
    have aiz : (a : Int) ≤ (i : Int) := by omega
    by_cases hle : i ≤ t.size
    · have hlez : (i : Int) ≤ (t.size : Int) := by omega
      have piece : (∀ h : i < t.size, t[i]'h = 10) → (((i : Int) < (t.size : Int) ∧ ∃ h : i < t.size, ((((t[i]'h).toNat : Nat) : Int) != 10) = false) ∨ ¬ (i : Int) < (t.size : Int)) → True := fun _ _ => trivial
      clear piece
      by_cases hlt : i < t.size
      · have hltz : (i : Int) < (t.size : Int) := by omega
        by_cases h10 : t[i]'hlt = 10
        · have q10 : ((((t[i]'hlt).toNat : Nat) : Int) == 10) = true := by rw [h10]; rfl
          have q10n : ((((t[i]'hlt).toNat : Nat) : Int) != 10) = false := by rw [h10]; rfl
          obtain ⟨_, hps, hbad, hgood⟩ := run_piece HR.out hle (fun _ => h10)
          clear h10
          obtain ⟨pc, hpc⟩ : ∃ pc, t.extract a i = pc := ⟨_, rfl⟩
          rw [hpc] at hps hbad hgood
          have HW := Lib.hid (refWords_any pc (by omega))
          cases hlo : lineOf pc.data.toList with
          | none =>
            have HA := Lib.hid (hbad hlo)
            rw [hlo] at HW
            clear hlo hbad hgood HR
            go_wp2_with fail
            refine (HW.out _).mono ?_
            rintro e w1 ⟨rfl, hb1⟩
            have HB1 := Lib.hid (HB.out.trans (hb1.mono HB.out.size))
            clear hb1 HB HW HL
            go_wp2
            go_ret3
            exact lines_post HA.out (LinesR.nil _ _ _) HB1.out
          | some ws =>
            have HR2 := Lib.hid (hgood ws hlo)
            rw [hlo] at HW
            clear hlo hbad hgood HR
            obtain ⟨K, hK⟩ : ∃ K, ws.length = K := ⟨_, rfl⟩
            have HKW := Lib.hid hK
            go_wp2_with fail
            refine (HW.out _).mono ?_
            rintro e w1 ⟨⟨u, rfl, hu⟩, hb1⟩
            rw [hK] at hu
            have HL1 := Lib.hid (HL.out.below hb1)
            have HB1 := Lib.hid (HB.out.trans (hb1.mono HB.out.size))
            have HU := Lib.hid (ownsRow_mono hu HB.out.size)
            clear hK HB HW HL
            obtain ⟨ua, uc, rfl⟩ : ∃ ua uc, u = .slice ua K uc := by
              rcases hu.2 with ⟨rfl, h0⟩ | ⟨g, cap, cur, rfl, _⟩
              · exact ⟨none, 0, by rw [h0]⟩
              · exact ⟨_, _, rfl⟩
            clear hu hb1
            by_cases hk0 : 0 < K
            · have hk0z : (0 : Int) < (K : Int) := by omega
              have hne : ¬ ws = [] := fun e => by have := HKW.out; rw [e] at this; simp at this; omega
              have Hacc : Hid (addLn n ws acc = acc ++ [(n, ws)]) := by show _ = _; unfold addLn; rw [if_neg hne]
              obtain ⟨us, hu1, hu2, hu3⟩ := HL1.out
              obtain ⟨NL, hNL⟩ : ∃ NL, acc.length = NL := ⟨_, rfl⟩
              rw [hNL] at hu1 hu2 hal
              have HNL := Lib.hid hNL
              have HU1 := Lib.hid hu1
              have HU3 := Lib.hid hu3
              have HA2 := Lib.hid (ownsRow_below hu2 ((Below.refl _ w1).alloc (Nat.le_refl _) (.cells #[.int .i64 (n : Int), .slice ua K uc] 63)))
              have HB2 := Lib.hid (HB1.out.alloc HB1.out.size (.cells #[.int .i64 (n : Int), .slice ua K uc] 63))
              clear hNL hu1 hu2 hu3 hne
              go_wp2_with (at_builtin; refine wpList_append_own _ rfl _ _ 60 rfl w.heap.size 63 i0 (.agg #[.int .i64 0, .slice none 0 0]) 2 32 Tryz.underlying60 hi hz0 hz1 hz2 rfl (by decide) _ NL _ rfl HA2.out ⟨w1.heap.size, 0, none⟩ 1 1 [.int .i64 (n : Int), .slice ua K uc] rfl ?ac1 ?ac2 ?ac3 ?ac4 ?ac5 ?ac6 ?_; (case ac1 => rfl); (case ac2 => exact cell_pair_new _ _ _ _); (case ac3 => simp [Value.oneCell']); (case ac4 => unfold maxLen; omega); (case ac5 => omega); (case ac6 => exact HB2.out.size); intro v' w3 hown' hgrow _; obtain ⟨g', cap', rfl⟩ := ownsRow_succ hown')
              go_roundw
              case rel =>
                refine ⟨i + 1, i + 1, n + 1, acc ++ [(n, ws)], by omega, by omega, by omega, (by rw [List.length_append, HNL.out, List.length_singleton]; omega), by go_num, by go_num, by go_num, (by rw [Hacc.out] at HR2; exact HR2), ?_, HB2.out.grown hgrow HB2.out.size (fun k e => (HA2.out.lt k e).1)⟩
                show LinesR _ _ _ _ _
                refine LinesR.snoc (W1 := w1.alloc (.cells #[.int .i64 (n : Int), .slice ua K uc] 63)) (us := us) (by decide) (by rw [HNL.out]; exact HU1.out) (by rw [HNL.out]; exact HA2.out) (fun j u x hu hx => ownsRow_below (HU3.out j u x hu hx) ((Below.refl _ w1).alloc (Nat.le_refl _) _)) ?_ hgrow (by rw [HNL.out]; exact hown')
                rw [HKW.out]
                exact ownsRow_below HU.out ((Below.refl _ w1).alloc (Nat.le_refl _) _)
              case measure => simp [intOf]; omega
            · have hk0z : ¬ (0 : Int) < (K : Int) := by omega
              have hne : ws = [] := List.eq_nil_of_length_eq_zero (by have := HKW.out; omega)
              have Hacc : Hid (addLn n ws acc = acc) := by show _ = _; rw [hne]; rfl
              clear hne
              go_wp2
              go_roundw
              case rel => exact ⟨i + 1, i + 1, n + 1, acc, by omega, by omega, by omega, by omega, by go_num, by go_num, by go_num, (by rw [Hacc.out] at HR2; exact HR2), HL1, HB1⟩
              case measure => simp [intOf]; omega
        · have q10 : ((((t[i]'hlt).toNat : Nat) : Int) == 10) = false := by rw [show (10 : Int) = ((10 : Nat) : Int) from rfl, byte_eq (by decide)]; simpa using h10
          have q10n : ((((t[i]'hlt).toNat : Nat) : Int) != 10) = true := by show (!_) = true; rw [q10]; rfl
          have HR2 := Lib.hid (run_next HR.out hlt h10)
          clear h10
          go_wp2
          go_roundw
          case rel => exact ⟨i + 1, a, n, acc, by omega, by omega, by omega, by omega, by go_num, rfl, rfl, HR2, HL, HB⟩
          case measure => simp [intOf]; omega
      · have hltz : ¬ (i : Int) < (t.size : Int) := by omega
        obtain ⟨_, hps, hbad, hgood⟩ := run_piece HR.out hle (fun h => absurd h hlt)
        obtain ⟨pc, hpc⟩ : ∃ pc, t.extract a i = pc := ⟨_, rfl⟩
        rw [hpc] at hps hbad hgood
        have HW := Lib.hid (refWords_any pc (by omega))
        cases hlo : lineOf pc.data.toList with
        | none =>
          have HA := Lib.hid (hbad hlo)
          rw [hlo] at HW
          clear hlo hbad hgood HR
          go_wp2_with fail
          refine (HW.out _).mono ?_
          rintro e w1 ⟨rfl, hb1⟩
          have HB1 := Lib.hid (HB.out.trans (hb1.mono HB.out.size))
          clear hb1 HB HW HL
          go_wp2
          go_ret3
          exact lines_post HA.out (LinesR.nil _ _ _) HB1.out
        | some ws =>
          have HR2 := Lib.hid (hgood ws hlo)
          rw [hlo] at HW
          clear hlo hbad hgood HR
          obtain ⟨K, hK⟩ : ∃ K, ws.length = K := ⟨_, rfl⟩
          have HKW := Lib.hid hK
          go_wp2_with fail
          refine (HW.out _).mono ?_
          rintro e w1 ⟨⟨u, rfl, hu⟩, hb1⟩
          rw [hK] at hu
          have HL1 := Lib.hid (HL.out.below hb1)
          have HB1 := Lib.hid (HB.out.trans (hb1.mono HB.out.size))
          have HU := Lib.hid (ownsRow_mono hu HB.out.size)
          clear hK HB HW HL
          obtain ⟨ua, uc, rfl⟩ : ∃ ua uc, u = .slice ua K uc := by
            rcases hu.2 with ⟨rfl, h0⟩ | ⟨g, cap, cur, rfl, _⟩
            · exact ⟨none, 0, by rw [h0]⟩
            · exact ⟨_, _, rfl⟩
          clear hu hb1
          by_cases hk0 : 0 < K
          · have hk0z : (0 : Int) < (K : Int) := by omega
            have hne : ¬ ws = [] := fun e => by have := HKW.out; rw [e] at this; simp at this; omega
            have Hacc : Hid (addLn n ws acc = acc ++ [(n, ws)]) := by show _ = _; unfold addLn; rw [if_neg hne]
            obtain ⟨us, hu1, hu2, hu3⟩ := HL1.out
            obtain ⟨NL, hNL⟩ : ∃ NL, acc.length = NL := ⟨_, rfl⟩
            rw [hNL] at hu1 hu2 hal
            have HNL := Lib.hid hNL
            have HU1 := Lib.hid hu1
            have HU3 := Lib.hid hu3
            have HA2 := Lib.hid (ownsRow_below hu2 ((Below.refl _ w1).alloc (Nat.le_refl _) (.cells #[.int .i64 (n : Int), .slice ua K uc] 63)))
            have HB2 := Lib.hid (HB1.out.alloc HB1.out.size (.cells #[.int .i64 (n : Int), .slice ua K uc] 63))
            clear hNL hu1 hu2 hu3 hne
            go_wp2_with (at_builtin; refine wpList_append_own _ rfl _ _ 60 rfl w.heap.size 63 i0 (.agg #[.int .i64 0, .slice none 0 0]) 2 32 Tryz.underlying60 hi hz0 hz1 hz2 rfl (by decide) _ NL _ rfl HA2.out ⟨w1.heap.size, 0, none⟩ 1 1 [.int .i64 (n : Int), .slice ua K uc] rfl ?bc1 ?bc2 ?bc3 ?bc4 ?bc5 ?bc6 ?_; (case bc1 => rfl); (case bc2 => exact cell_pair_new _ _ _ _); (case bc3 => simp [Value.oneCell']); (case bc4 => unfold maxLen; omega); (case bc5 => omega); (case bc6 => exact HB2.out.size); intro v' w3 hown' hgrow _; obtain ⟨g', cap', rfl⟩ := ownsRow_succ hown')
            go_roundw
            case rel =>
              refine ⟨i + 1, i + 1, n + 1, acc ++ [(n, ws)], by omega, by omega, by omega, (by rw [List.length_append, HNL.out, List.length_singleton]; omega), by go_num, by go_num, by go_num, (by rw [Hacc.out] at HR2; exact HR2), ?_, HB2.out.grown hgrow HB2.out.size (fun k e => (HA2.out.lt k e).1)⟩
              show LinesR _ _ _ _ _
              refine LinesR.snoc (W1 := w1.alloc (.cells #[.int .i64 (n : Int), .slice ua K uc] 63)) (us := us) (by decide) (by rw [HNL.out]; exact HU1.out) (by rw [HNL.out]; exact HA2.out) (fun j u x hu hx => ownsRow_below (HU3.out j u x hu hx) ((Below.refl _ w1).alloc (Nat.le_refl _) _)) ?_ hgrow (by rw [HNL.out]; exact hown')
              rw [HKW.out]
              exact ownsRow_below HU.out ((Below.refl _ w1).alloc (Nat.le_refl _) _)
            case measure => simp [intOf]; omega
          · have hk0z : ¬ (0 : Int) < (K : Int) := by omega
            have hne : ws = [] := List.eq_nil_of_length_eq_zero (by have := HKW.out; omega)
            have Hacc : Hid (addLn n ws acc = acc) := by show _ = _; rw [hne]; rfl
            clear hne
            go_wp2
            go_roundw
            case rel => exact ⟨i + 1, i + 1, n + 1, acc, by omega, by omega, by omega, by omega, by go_num, by go_num, by go_num, (by rw [Hacc.out] at HR2; exact HR2), HL1, HB1⟩
            case measure => simp [intOf]; omega
    · have hlez : ¬ (i : Int) ≤ (t.size : Int) := by omega
      have HA : Hid (ans = (acc, 0, 0)) := by
        rcases HR.out with ⟨h, _⟩ | ⟨_, h⟩
        · omega
        · exact h
      obtain ⟨us, hus⟩ := HL.out.slice
      go_wp2
      go_ret3
      exact lines_post HA.out HL.out HB.out
end Go.Proofs.YtmjipkdejggbfaaGreatDoor
