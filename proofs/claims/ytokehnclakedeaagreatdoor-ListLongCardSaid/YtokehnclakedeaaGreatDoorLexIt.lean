/- The iterator over a text's lines: its contract, for every loop body. -/
import Derived.Test.YtokehnclakedeaaGreatDoorSplit
import Derived.Deep.QuietTactic
import Derived.BigQuiet
namespace Go.Proofs.YtokehnclakedeaaGreatDoor
open Go Go.Proofs Go.RowKit Go.Shelf
attribute [local go_sem] Oper.semAt_some

/-- A line's number and its text ahead of the note. -/
def numPieces : Nat → List ByteArray → List (Nat × ByteArray)
  | _, [] => []
  | n, p :: r => (n, ⟨(unNoted p.data.toList).toArray⟩) :: numPieces (n + 1) r
theorem numPieces_snoc : ∀ (l : List ByteArray) (n : Nat) (p : ByteArray), numPieces n (l ++ [p]) = numPieces n l ++ [(n + l.length, ⟨(unNoted p.data.toList).toArray⟩)]
  | [], n, p => rfl
  | q :: l, n, p => by
    show (n, _) :: numPieces (n + 1) (l ++ [p]) = (n, _) :: (numPieces (n + 1) l ++ _)
    rw [numPieces_snoc l (n + 1) p, List.length_cons, show n + 1 + l.length = n + (l.length + 1) by omega]
theorem numPieces_prefix {l l' : List ByteArray} (n : Nat) (h : l <+: l') : numPieces n l <+: numPieces n l' := by
  obtain ⟨r, rfl⟩ := h
  have : ∀ (l : List ByteArray) (n : Nat), ∃ q, numPieces n (l ++ r) = numPieces n l ++ q := by
    intro l
    induction l with
    | nil => exact fun n => ⟨_, rfl⟩
    | cons p l ih =>
      intro n
      obtain ⟨q, hq⟩ := ih (n + 1)
      exact ⟨q, by show (n, _) :: numPieces (n + 1) (l ++ r) = _; rw [hq]; rfl⟩
  obtain ⟨q, hq⟩ := this l n
  exact ⟨q, hq.symm⟩

theorem pieces_count : ∀ l : List UInt8, (pieces l).length ≤ l.length + 1
  | [] => by simp [pieces]
  | c :: r => by
    have := pieces_count r
    unfold pieces
    split
    · simpa using this
    · split
      · simp
      · rename_i h
        rw [h] at this
        simp at this ⊢
        omega
theorem pieces_mem : ∀ (l p : List UInt8), p ∈ pieces l → p.length ≤ l.length
  | [], p, h => by simp [pieces] at h; simp [h]
  | c :: r, p, h => by
    unfold pieces at h
    split at h
    · rcases List.mem_cons.1 h with rfl | h
      · simp
      · have := pieces_mem r p h; simp; omega
    · split at h
      · simp at h; simp [h]
      · rename_i h' t he
        rcases List.mem_cons.1 h with rfl | h
        · have := pieces_mem r h' (by rw [he]; simp); simp; omega
        · have := pieces_mem r p (by rw [he]; simp [h]); simp; omega
theorem pieces_size {t x : ByteArray} (h : x ∈ piecesB t) : x.size ≤ t.size := by
  unfold piecesB at h
  obtain ⟨p, hp, rfl⟩ := List.mem_map.1 h
  have := pieces_mem _ p hp
  rw [Array.length_toList] at this
  show p.toArray.size ≤ t.size
  rw [List.size_toArray]
  exact this
theorem pieces_len (t : ByteArray) : (piecesB t).length ≤ t.size + 1 := by
  unfold piecesB
  rw [List.length_map]
  have := pieces_count t.data.toList
  rw [Array.length_toList] at this
  exact this

theorem roundAny {m m' l : Nat} (l' : Nat) {P : Program} {f : FuncId} {tmps : Array Value} {assign body : Code} {w : World} {R : Ending → World → Prop} (h : RoundIn Fence.wide m P l f tmps assign body w R) :
    RoundIn (Fence.wide.inRound l') m' P l f tmps assign body w R := ⟨h.1, fun c cs _ => h.2 c cs (room_wide _)⟩

set_option maxRecDepth 100000 in
theorem split_any (t s : ByteArray) (w : World) :
    Calls Tryz.prog 40 #[.string t, .string s, .int .i64 0] w fun e w' => e = .returned (.func (.func 50) #[] #[.pointer (some ⟨w.heap.size + 1, 0, none⟩), .pointer (some ⟨w.heap.size, 0, none⟩), .pointer (some ⟨w.heap.size + 2, 0, none⟩)]) ∧
      ((w.alloc (.cells #[.string t] 9)).alloc (.cells #[.string s] 9)).alloc (.cells #[.int .i64 0] 3) = w' := by
  go_enter Tryz.func40, Tryz.ntmps40
  go_wp2
  go_ret
  exact ⟨rfl, rfl⟩
set_option maxRecDepth 100000 in
theorem splitSeq_any (t s : ByteArray) (w : World) :
    Calls Tryz.prog 22 #[.string t, .string s] w fun e w' => e = .returned (.func (.func 50) #[] #[.pointer (some ⟨w.heap.size + 1, 0, none⟩), .pointer (some ⟨w.heap.size, 0, none⟩), .pointer (some ⟨w.heap.size + 2, 0, none⟩)]) ∧
      ((w.alloc (.cells #[.string t] 9)).alloc (.cells #[.string s] 9)).alloc (.cells #[.int .i64 0] 3) = w' := by
  go_enter Tryz.func22, Tryz.ntmps22
  go_wp2_with (go_at_call 40; refine (split_any _ _ _).mono ?_; rintro e w' ⟨rfl, rfl⟩)
  go_ret
  exact ⟨rfl, rfl⟩

end Go.Proofs.YtokehnclakedeaaGreatDoor
