/- The document's Read (strainerref03) at every text: the walk. -/
import Derived.Test.YtokehnclakedeaaGreatDoorListReadsP
import Derived.Test.YtokehnclakedeaaGreatDoorListRWords
import Derived.Test.YtokehnclakedeaaGreatDoorListLaw
import Derived.Deep.QuietTactic
import Derived.BigQuiet
import Derived.Deep.LoopGhost
namespace Go.Proofs.YtokehnclakedeaaGreatDoor
open Go Go.Proofs Go.RowKit

theorem words_cells {W : World} {base : Nat} {g n cap : Nat} {ws : List ByteArray} (h : W.ownsRow base 9 1 (.slice (some ⟨g, 0, none⟩) n cap) n (ws.map Value.string)) (hn : ws.length = n) : ∀ (j : Nat) (s : ByteArray), ws[j]? = some s → W.cell? ⟨g, j, none⟩ = some (.string s) := by
  intro j s hj
  have hlt : j < ws.length := (List.getElem?_eq_some_iff.1 hj).1
  have h1 := h.cellAt j (by omega)
  rw [h1, List.getElem?_map, hj]
  rfl
theorem sliceZero {W : World} {base : Nat} {t : TypeId} {v : Value} {xs : List Value} (h : W.ownsRow base t 1 v 0 xs) : ∃ p cap, v = .slice p 0 cap := by
  rcases h.2 with ⟨h, _⟩ | ⟨g, cap, cur, h, _⟩
  · exact ⟨_, _, h⟩
  · exact ⟨_, _, h⟩
/-- What a number's call says. -/
theorem limE_cases {l : List UInt8} {bits : Nat} {e : Ending} (h : limE l bits e) : ∃ v : Int, e = .returned (.tuple #[.int .i64 v, .bool (numV l bits).isSome]) ∧ ∀ n : Nat, numV l bits = some n → v = (n : Int) := h

set_option maxRecDepth 100000 in
set_option maxHeartbeats 8000000 in
theorem rread_empty (s : ByteArray) (hs : s.size ≤ 1000000) (hws : lineWords s.data.toList = []) (w : World) :
    Calls Tryz.prog 8 #[.string s] w fun e w' => e = .returned (.tuple #[.agg #[.int .u16 0, .int .u8 0, .int .u8 0, .int .u32 0], .int .i64 4]) ∧ Below w.heap.size w w' := by
  have HP := Lib.hid (Blk.new w 29 #[.int .u16 0, .int .u8 0, .int .u8 0, .int .u32 0])
  have HB := Lib.hid ((Below.refl w.heap.size w).alloc (Nat.le_refl _) (.cells #[.int .u16 0, .int .u8 0, .int .u8 0, .int .u32 0] 29))
  have hwd := fun W => rwords3_any s hs W
  rw [hws] at hwd
  have HWD := Lib.hid hwd
  clear hwd hws hs
  go_enter Tryz.func8, Tryz.ntmps8
  go_wp2_with fail
  refine (HWD.out _).mono ?_
  rintro e w1 ⟨v, rfl, HR, HB1⟩
  obtain ⟨p, cap, rfl⟩ := sliceZero HR.out
  have HP1 := blkH HP HB1.out
  have HBw := belB HB HB1.out
  clear HP HB HB1 HR HWD
  have z0 := HP1.out.frozen 0
  have z1 := HP1.out.frozen 1
  have z2 := HP1.out.frozen 2
  have z3 := HP1.out.frozen 3
  have y0 := HP1.out.cell 0
  have y1 := HP1.out.cell 1
  have y2 := HP1.out.cell 2
  have y3 := HP1.out.cell 3
  simp only [List.getElem?_toArray, List.getElem?_cons_zero, List.getElem?_cons_succ] at y0 y1 y2 y3
  go_wp2
  have bF := ((((HP1.out.set 0 (.int .u16 0)).set 1 (.int .u8 0)).set 2 (.int .u8 0)).set 3 (.int .u32 0))
  have hF := (((HBw.out.setCell (p := ⟨w.heap.size, 0, none⟩) (Nat.le_refl _) (.int .u16 0)).setCell (p := ⟨w.heap.size, 1, none⟩) (Nat.le_refl _) (.int .u8 0)).setCell (p := ⟨w.heap.size, 2, none⟩) (Nat.le_refl _) (.int .u8 0)).setCell (p := ⟨w.heap.size, 3, none⟩) (Nat.le_refl _) (.int .u32 0)
  have e0 := bF.cell 0
  have e1 := bF.cell 1
  have e2 := bF.cell 2
  have e3 := bF.cell 3
  simp at e0 e1 e2 e3
  exact bodyPost_ret (v := .tuple #[.agg #[.int .u16 0, .int .u8 0, .int .u8 0, .int .u32 0], .int .i64 4]) (by simp [results, Tryz.results8, go_sem, e0, e1, e2, e3]) rfl ⟨rfl, hF⟩
end Go.Proofs.YtokehnclakedeaaGreatDoor
