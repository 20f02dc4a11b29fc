/- list.words: the words of a line. -/
import Derived.Test.YtokehnclakedeaaGreatDoorListLineR
import Derived.Test.YtokehnclakedeaaGreatDoorFieldsB
import Derived.Shelf.Strings.FieldsFuncAny
namespace Go.Proofs.YtokehnclakedeaaGreatDoor
open Go Go.Proofs Go.RowKit Go.Shelf

set_option maxRecDepth 100000 in
theorem blank3_any (c : Nat) (w : World) : Calls Tryz.prog 32 #[.int .i32 (c : Int)] w fun e w' => e = .returned (.bool (blkR c)) ∧ w = w' := by
  by_cases h1 : c = 32
  · subst h1
    go_enter Tryz.func32, Tryz.ntmps32
    go_wp2
    go_ret
    exact ⟨rfl, rfl⟩
  have z1 : (((c : Nat) : Int) == 32) = false := by simp; omega
  by_cases h2 : c = 9
  · subst h2
    go_enter Tryz.func32, Tryz.ntmps32
    go_wp2
    go_ret
    exact ⟨rfl, rfl⟩
  have z2 : (((c : Nat) : Int) == 9) = false := by simp; omega
  by_cases h3 : c = 13
  · subst h3
    go_enter Tryz.func32, Tryz.ntmps32
    go_wp2
    go_ret
    exact ⟨rfl, rfl⟩
  have z3 : (((c : Nat) : Int) == 13) = false := by simp; omega
  have hb : blkR c = false := by simp [blkR, h1, h2, h3]
  rw [hb]
  clear h1 h2 h3 hb
  go_enter Tryz.func32, Tryz.ntmps32
  go_wp2
  go_ret
  exact ⟨rfl, rfl⟩
theorem blank3_pays (w : World) : PredAtRunes Tryz.prog 32 #[] blkR w := fun W x _ _ => (blank3_any x W).mono fun e w' ⟨he, hw⟩ => ⟨he, 0, by rw [← hw]; rfl⟩
/-- The words of a line. -/
def noteCut (l : List UInt8) : List UInt8 := (cutV 59 l).1
def lineWords (l : List UInt8) : List ByteArray := wordsGo (noteCut l) [] []
theorem cutV_len (b : UInt8) : ∀ l : List UInt8, (cutV b l).1.length ≤ l.length
  | [] => Nat.le_refl _
  | c :: r => by
    unfold cutV
    split
    · simp
    · have := cutV_len b r
      simp only [List.length_cons]
      omega
/-- Words that lie in memory. -/
def WordsV (W : World) (ws : List ByteArray) (A n : Nat) : Prop := n = ws.length ∧ A < W.heap.size ∧ ∀ (j : Nat) (s : ByteArray), ws[j]? = some s → W.cell? ⟨A, 0 + j, none⟩ = some (.string s)
set_option maxRecDepth 100000 in
set_option maxHeartbeats 2000000 in
theorem words3_any (s : ByteArray) (hs : s.size ≤ 1000000) (w : World) :
    Calls Tryz.prog 16 #[.string s] w fun e w' => ∃ A n, e = .returned (.slice (some ⟨A, 0, none⟩) n n) ∧ Hid (WordsV w' (lineWords s.data.toList) A n) ∧ Hid (Below w.heap.size w w') := by
  have hcut := fun W => cut1_any s 59 hs W
  have hlen := cutV_len 59 s.data.toList
  have e : s.data.toList.length = s.size := Array.length_toList
  obtain ⟨X, hX⟩ : ∃ X : ByteArray, (⟨(cutV 59 s.data.toList).1.toArray⟩ : ByteArray) = X := ⟨_, rfl⟩
  have hXl : noteCut s.data.toList = X.data.toList := by rw [← hX]; rfl
  have hXs : X.size ≤ 1000000 := by
    have e2 : X.data.toList.length = X.size := Array.length_toList
    rw [← hXl] at e2
    unfold noteCut at e2
    omega
  have hlw : lineWords s.data.toList = Lib.goFieldsP blkR X := by unfold lineWords; rw [hXl, fields_wordsB]
  have hff := fun W => Any.strings_FieldsFunc_runes Tryz.lays229 32 #[] (enters_of Tryz.func32 (by kernel_rfl) rfl) blkR X W (by omega) (blank3_pays W) (by kernel_rfl) (by kernel_rfl)
  rw [← hlw] at hff
  have hff : ∀ W, Calls Tryz.prog 31 #[.string X, .func (.func 32) #[] #[]] W fun e w' => ∃ A n, e = .returned (.slice (some ⟨A, 0, none⟩) n n) ∧ Hid (WordsV w' (lineWords s.data.toList) A n) ∧ Hid (Below W.heap.size W w') := fun W => (hff W).mono (fun e w' h => by
    obtain ⟨A, h1, _, h3, h4⟩ := h
    refine ⟨A, _, h1, ?_, h4⟩
    obtain ⟨g1, g2⟩ := own_facts h3
    refine ⟨rfl, g1, fun j x hj => ?_⟩
    have hlt := (List.getElem?_eq_some_iff.1 hj).1
    rw [Nat.zero_add, h3.cellAt j (by omega), List.getElem?_map, hj]
    rfl)
  rw [hX] at hcut
  generalize (⟨(cutV 59 s.data.toList).2.1.toArray⟩ : ByteArray) = Y at hcut
  generalize (cutV 59 s.data.toList).2.2 = Z at hcut
  have HC := Lib.hid hcut
  have HF := Lib.hid hff
  clear hcut hff hlw hX hXl hlen e
  go_enter Tryz.func16, Tryz.ntmps16
  go_wp2_with fail
  refine (HC.out _).mono ?_
  rintro e w1 ⟨rfl, hb1⟩
  have HB := Lib.hid hb1
  clear hb1
  go_wp2_with fail
  refine (HF.out _).mono ?_
  rintro e w2 ⟨A, n, rfl, HW, HB2⟩
  go_wp2
  go_ret
  exact ⟨A, n, rfl, HW, HB.out.trans (HB2.out.mono HB.out.size)⟩
end Go.Proofs.YtokehnclakedeaaGreatDoor
