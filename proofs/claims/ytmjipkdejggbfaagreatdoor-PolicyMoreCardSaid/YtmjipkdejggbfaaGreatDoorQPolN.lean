/- policy: a name, what gives up, the first word. -/
import Derived.WalkLawsBesides
import Derived.WalkSpells
import Derived.Maps.Own
import Derived.Test.YtmjipkdejggbfaaGreatDoorQPolP
namespace Go.Proofs.YtmjipkdejggbfaaGreatDoor
open Go Go.Proofs Go.RowKit

/-- How a wrong line ends: the program's own panic, with an error's number. -/
def wrongP (c : Int) : List PanicEntry := [{ v := .iface 99 (.agg #[.int .i64 c]), recovered := false }]
set_option maxRecDepth 100000 in
theorem pneed_true (c : Int) (w : World) : Calls Tryz.prog 65 #[.bool true, .int .i64 c] w fun e w' => e = .returned (.tuple #[]) ∧ w = w' := by
  go_enter Tryz.func65, Tryz.ntmps65
  go_wp2
  first
    | (go_end0; exact ⟨rfl, rfl⟩)
    | (refine bodyPost_ret (results_none rfl _ _ _) rfl ?_; exact ⟨rfl, rfl⟩)
set_option maxRecDepth 100000 in
theorem pneed_false (c : Int) (w : World) : Calls Tryz.prog 65 #[.bool false, .int .i64 c] w fun e w' => e = .panicked (wrongP c) ∧ w = w' := by
  go_enter Tryz.func65, Tryz.ntmps65
  go_wp2
  exact ⟨rfl, rfl, rfl⟩
def needE (b : Bool) (c : Int) (e : Ending) : Prop := if b = true then e = .returned (.tuple #[]) else e = .panicked (wrongP c)
theorem pneed_any (b : Bool) (c : Int) (w : World) : Calls Tryz.prog 65 #[.bool b, .int .i64 c] w fun e w' => needE b c e ∧ w = w' := by
  cases b
  · exact pneed_false c w
  · exact pneed_true c w
set_option maxRecDepth 100000 in
theorem ptold_ok (w : World) : Calls Tryz.prog 82 #[.int .i64 0] w fun e w' => e = .returned (.tuple #[]) ∧ w = w' := by
  go_enter Tryz.func82, Tryz.ntmps82
  go_wp2_with (go_at_call 65; refine (pneed_true _ _).mono ?_; rintro e w' ⟨rfl, rfl⟩)
  first
    | (go_end0; exact ⟨rfl, rfl⟩)
    | (refine bodyPost_ret (results_none rfl _ _ _) rfl ?_; exact ⟨rfl, rfl⟩)
set_option maxRecDepth 100000 in
theorem ptold_bad (c : Int) (hc : c ≠ 0) (w : World) : Calls Tryz.prog 82 #[.int .i64 c] w fun e w' => e = .panicked (wrongP (formE c)) ∧ w = w' := by
  by_cases h4 : c = 4
  · subst h4
    go_enter Tryz.func82, Tryz.ntmps82
    go_wp2_with (go_at_call 65; refine (pneed_false _ _).mono ?_; rintro e w' ⟨rfl, rfl⟩)
    exact ⟨rfl, rfl, rfl⟩
  · have hb : (c == 0) = false := by simpa using hc
    have h4b : (c == 4) = false := by simpa using h4
    have hf : formE c = c := by unfold formE; rw [if_neg h4]
    rw [hf]
    go_enter Tryz.func82, Tryz.ntmps82
    go_wp2_with (go_at_call 65; refine (pneed_false _ _).mono ?_; rintro e w' ⟨rfl, rfl⟩)
    exact ⟨rfl, rfl, rfl⟩

/-- Words in memory, below a block. -/
def PWords (R : Nat) (W : World) (sv : Value) (ws : List ByteArray) : Prop :=
  ∃ a c, sv = .slice a ws.length c ∧ ws.length ≤ c ∧ (ws = [] ∨ ∃ b off, a = some ⟨b, off, none⟩ ∧ b < R ∧ b < W.heap.size ∧ ∀ (j : Nat) (s : ByteArray), ws[j]? = some s → W.cell? ⟨b, off + j, none⟩ = some (.string s))
theorem PWords.below {R : Nat} {W W' : World} {sv : Value} {ws : List ByteArray} (h : PWords R W sv ws) (hb : Below R W W') (hs : W.heap.size ≤ W'.heap.size) : PWords R W' sv ws := by
  obtain ⟨a, c, h1, h2, h3⟩ := h
  refine ⟨a, c, h1, h2, ?_⟩
  rcases h3 with h3 | ⟨b, off, h3, h4, h5, h6⟩
  · exact .inl h3
  · exact .inr ⟨b, off, h3, h4, by omega, fun j s hj => (hb.cell (p := ⟨b, off + j, none⟩) h4).trans (h6 j s hj)⟩
theorem PWords.act {R : Nat} {W : World} {sv : Value} {ws : List ByteArray} (h : PWords R W sv ws) : ActP.WordsV W sv ws := by
  obtain ⟨a, c, h1, h2, h3⟩ := h
  refine ⟨a, c, h1, ?_⟩
  rcases h3 with h3 | ⟨b, off, h3, h4, h5, h6⟩
  · exact .inl h3
  · exact .inr ⟨b, off, h3, h5, h6⟩
theorem PWords.cond {R : Nat} {W : World} {sv : Value} {ws : List ByteArray} (h : PWords R W sv ws) : CondP.WordsV W sv ws := h.act
theorem sizeStr : ∀ w, (Go.sizeOf 9).run Tryz.prog w = .ok 1 w := fun _ => by kernel_rfl
/-- Behind so many words. -/
theorem PWords.drop {R : Nat} {W : World} {sv : Value} {ws : List ByteArray} (h : PWords R W sv ws) (m : Nat) (hm : m ≤ ws.length) :
    ∃ sv', PWords R W sv' (ws.drop m) ∧ ∀ W', (Instr.slice 54 sv (some (.int .i64 (m : Int))) none none).run Tryz.prog W' = .ok sv' W' := by
  obtain ⟨a, c, rfl, h2, h3⟩ := h
  have ht' : Tryz.prog.underlying 54 = some (.slice (Tryz.prog.elem 54)) := by simp [Program.elem, Tryz.underlying54]
  have he : Tryz.prog.elem 54 = 9 := by simp [Program.elem, Tryz.underlying54]
  refine ⟨sliced a m ws.length c 1, ⟨(if c = m then a else a.map (·.add (m * 1))), c - m, by unfold sliced; rw [List.length_drop], by rw [List.length_drop]; omega, ?_⟩, fun W' => ?_⟩
  · by_cases hlt : m < ws.length
    · rcases h3 with rfl | ⟨b, off, rfl, h4, h5, h6⟩
      · simp at hlt
      · refine .inr ⟨b, off + m, ?_, h4, h5, fun j s hj => ?_⟩
        · rw [if_neg (by omega)]
          simp [Addr.add]
        · rw [List.getElem?_drop] at hj
          rw [Nat.add_assoc]
          exact h6 _ _ hj
    · left
      exact List.drop_eq_nil_of_le (by omega)
  · rw [run_slice_l W' _ _ _ _ ht' .i64 _ (by omega) (by omega), he, sizeStr]
    simp [Result.andThen]
theorem PWords.drop1 {R : Nat} {W : World} {sv : Value} {w0 : ByteArray} {r : List ByteArray} (h : PWords R W sv (w0 :: r)) :
    ∃ sv', PWords R W sv' r ∧ ∀ W', (Instr.slice 54 sv (some (.int .i64 1)) none none).run Tryz.prog W' = .ok sv' W' := h.drop 1 (by simp)
theorem PWords.head {R : Nat} {W : World} {sv : Value} {w0 : ByteArray} {r : List ByteArray} (h : PWords R W sv (w0 :: r)) :
    ∃ b off c, sv = .slice (some ⟨b, off, none⟩) (r.length + 1) c ∧ W.cell? ⟨b, off, none⟩ = some (.string w0) ∧ b < R := by
  obtain ⟨a, c, rfl, h2, h3⟩ := h
  rcases h3 with h3 | ⟨b, off, rfl, h4, h5, h6⟩
  · cases h3
  · exact ⟨b, off, c, rfl, h6 0 w0 rfl, h4⟩
/-- The reader's cells. -/
def RdB (W : World) (R : Nat) (k n : Int) (x : Bool) (vr vw : Value) (cnt : Int) : Prop := Blk W R 56 #[.int .i64 k, .int .i64 n, .bool x, vr, vw, .int .i64 cnt]
theorem RdB.below {W W' : World} {R N : Nat} {k n : Int} {x : Bool} {vr vw : Value} {cnt : Int} (h : RdB W R k n x vr vw cnt) (hb : Below N W W') (hN : R < N) : RdB W' R k n x vr vw cnt := Blk.below h hb hN
set_option maxRecDepth 100000 in
set_option maxHeartbeats 2000000 in
theorem next_any {R : Nat} {k n : Int} {x : Bool} {vr vw : Value} {cnt : Int} {w0 : ByteArray} {r : List ByteArray} (hbig : r.length ≤ 1000000) (w : World) (hR : RdB w R k n x vr vw cnt) (hW : PWords R w vw (w0 :: r)) :
    Calls Tryz.prog 41 #[.pointer (some ⟨R, 0, none⟩)] w fun e w' => e = .returned (.string w0) ∧ ∃ vw', PWords R w' vw' r ∧ RdB w' R k n x vr vw' cnt ∧ w' = w.setCell ⟨R, 4, none⟩ vw' := by
  obtain ⟨vw', hW', hrun⟩ := hW.drop1
  obtain ⟨a', c', rfl, _⟩ := id hW'
  obtain ⟨b, off, c, rfl, hc, hbR⟩ := hW.head
  have z4 := Blk.cell hR 4
  have f4 := Blk.frozen hR 4
  simp only [List.getElem?_toArray, List.getElem?_cons_zero, List.getElem?_cons_succ] at z4
  have hRlt := Blk.lt hR
  have HPW : Hid (PWords R (w.setCell ⟨R, 4, none⟩ (.slice a' r.length c')) (.slice a' r.length c') r) := hW'.below ((Below.refl _ w).setCell (p := ⟨R, 4, none⟩) (Nat.le_refl _) _) (by simp)
  have HRD : Hid (RdB (w.setCell ⟨R, 4, none⟩ (.slice a' r.length c')) R k n x vr (.slice a' r.length c') cnt) := Blk.set 4 (.slice a' r.length c') hR
  have hl0 : (0 : Int) < ((r.length + 1 : Nat) : Int) := by omega
  obtain ⟨L, hL⟩ : ∃ L, r.length + 1 = L := ⟨_, rfl⟩
  rw [hL] at hrun hl0 z4
  clear hW hW' hR
  go_enter Tryz.func41, Tryz.ntmps41
  go_wp2
  go_ret
  exact ⟨rfl, _, HPW.out, HRD.out, rfl⟩
end Go.Proofs.YtmjipkdejggbfaaGreatDoor
