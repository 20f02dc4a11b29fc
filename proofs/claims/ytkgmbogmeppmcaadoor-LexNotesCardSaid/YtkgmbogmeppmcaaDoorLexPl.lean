/- lex.blank, lex.plain: whether a rune is a blank, whether a line has no other bytes; the library's fields of such a line. -/
import Derived.Test.YtkgmbogmeppmcaaDoorLexIt
import Derived.Test.YtkgmbogmeppmcaaDoorIn
import Derived.Lib.OthersKept
import Derived.BigCall
namespace Go.Proofs.YtkgmbogmeppmcaaDoor
open Go Go.Proofs Go.RowKit Go.Shelf

set_option maxRecDepth 100000 in
theorem blank_any (c : Nat) (w : World) : Calls Tryd.prog 42 #[.int .i32 (c : Int)] w fun e w' => e = .returned (.bool (blkR c)) ∧ w = w' := by
  by_cases h1 : c = 32
  · subst h1
    go_enter Tryd.func42, Tryd.ntmps42
    go_wp2
    go_ret
    exact ⟨rfl, rfl⟩
  have z1 : (((c : Nat) : Int) == 32) = false := by simp; omega
  by_cases h2 : c = 9
  · subst h2
    go_enter Tryd.func42, Tryd.ntmps42
    go_wp2
    go_ret
    exact ⟨rfl, rfl⟩
  have z2 : (((c : Nat) : Int) == 9) = false := by simp; omega
  by_cases h3 : c = 13
  · subst h3
    go_enter Tryd.func42, Tryd.ntmps42
    go_wp2
    go_ret
    exact ⟨rfl, rfl⟩
  have z3 : (((c : Nat) : Int) == 13) = false := by simp; omega
  have hb : blkR c = false := by simp [blkR, h1, h2, h3]
  rw [hb]
  clear h1 h2 h3 hb
  go_enter Tryd.func42, Tryd.ntmps42
  go_wp2
  go_ret
  exact ⟨rfl, rfl⟩

theorem byte_mem (s : ByteArray) (j : Nat) (h : j < s.size) : s[j]'h ∈ s.data.toList := Array.mem_toList_iff.2 (Array.getElem_mem (xs := s.data) h)
/-- What a rune of a line must be. -/
def okR (c : Nat) : Bool := blkR c || (32 ≤ c && c ≤ 126)
theorem okR_byte (c : UInt8) : okR c.toNat = okB c := by
  unfold okR okB
  rw [blkR_byte]
  congr 1
theorem okR_low {c : Nat} (h : okR c = true) : c < 128 := by
  unfold okR blkR at h
  simp only [Bool.or_eq_true, Bool.and_eq_true, decide_eq_true_eq, beq_iff_eq] at h
  omega
/-- The rune at a place is one of a line just if the byte there is. -/
theorem okR_at (s : ByteArray) (pos : Nat) (h : pos < s.size) : okR (Utf8.decode s pos).1 = okB (s[pos]'h) ∧ (okB (s[pos]'h) = true → (Utf8.decode s pos).2 = 1) := by
  by_cases hb : (s[pos]'h).toNat < 128
  · rw [decode_low s pos h hb]
    exact ⟨okR_byte _, fun _ => rfl⟩
  · have h1 := decode_high s pos h (by omega)
    have e1 : okR (Utf8.decode s pos).1 = false := by
      rw [Bool.eq_false_iff]
      intro h2
      have := okR_low h2
      omega
    have e2 : okB (s[pos]'h) = false := by
      rw [Bool.eq_false_iff, ← okR_byte]
      intro h2
      have := okR_low h2
      omega
    exact ⟨e1.trans e2.symm, fun h3 => by rw [e2] at h3; cases h3⟩

set_option maxRecDepth 100000 in
set_option maxHeartbeats 1000000 in
theorem plain_any13 (s : ByteArray) (hs : s.size ≤ 1000000) (w : World) : Calls Tryd.prog 40 #[.string s] w fun e w' => e = .returned (.bool (s.data.toList.all okB)) ∧ Below w.heap.size w w' := by
  obtain ⟨R, hR⟩ : ∃ R, s.data.toList.all okB = R := ⟨_, rfl⟩
  rw [hR]
  have HR := Lib.hid hR
  clear hR
  go_enter Tryd.func40, Tryd.ntmps40
  go_wp2
  go_loopw [4] (fun _ wr => ∃ pos : Nat, Hid (wr.heap[w.heap.size]? = some (.stringIter s pos)) ∧ Hid (Below w.heap.size w wr) ∧ Hid (∀ j (h : j < s.size), j < pos → okB (s[j]'h) = true) ∧ pos ≤ s.size) (fun _ wr => s.size - wr.iterPos w.heap.size)
  case atStart => exact ⟨0, World.iter_heap w s 0, (Below.refl _ _).alloc (Nat.le_refl _) _, fun j _ hj => absurd hj (Nat.not_lt_zero _), Nat.zero_le _⟩
  case round =>
    obtain ⟨pos, HI, HB, HA, hps⟩ := hrel
    by_cases hp : pos < s.size
    · have hnx : ∀ ty, (Instr.next (.pointer (some ⟨w.heap.size, 0, none⟩)) true ty).run Tryd.prog wr = _ := fun ty => Lib.run_next_any_at wr w.heap.size s pos ty HI.out hp
      obtain ⟨hok1, hok2⟩ := okR_at s pos hp
      obtain ⟨c, hc⟩ : ∃ c, (Utf8.decode s pos).1 = c := ⟨_, rfl⟩
      obtain ⟨q, hq⟩ : ∃ q, (Utf8.decode s pos).2 = q := ⟨_, rfl⟩
      rw [hc, hq] at hnx
      rw [hc] at hok1
      rw [hq] at hok2
      have hcr : c ≤ 1114111 := by rw [← hc]; exact Lib.rune_le s pos
      have HI2 : Hid ((wr.iterAt w.heap.size s (pos + q)).heap[w.heap.size]? = some (.stringIter s (pos + q))) := Lib.iterAt_heap wr w.heap.size s pos (pos + q) HI.out
      have HB2 : Hid (Below w.heap.size w (wr.iterAt w.heap.size s (pos + q))) := Lib.below_iterAt HB.out (Nat.le_refl _) s (pos + q)
      have Hhc := Lib.hid hc
      clear hc hq
      generalize wr.iterAt w.heap.size s (pos + q) = W2 at *
      have fin : okB (s[pos]'hp) = false → s.data.toList.all okB = false := fun h => by
        rw [List.all_eq_false]
        exact ⟨s[pos]'hp, byte_mem s pos hp, by rw [h]; decide⟩
      cases hb : blkR c with
      | true =>
        have ho : okB (s[pos]'hp) = true := by rw [← hok1]; unfold okR; rw [hb]; rfl
        obtain rfl : q = 1 := hok2 ho
        have Hbl := Lib.hid (fun W => blank_any c W)
        rw [hb] at Hbl
        have HO := Lib.hid ho
        clear hb ho hok1 hok2 fin
        go_wp2_with fail
        refine (Hbl.out _).mono ?_
        rintro e w1 ⟨rfl, rfl⟩
        go_wp2
        go_roundw
        case rel => exact ⟨pos + 1, HI2, HB2, fun j h hj => by by_cases e : j = pos; · subst e; exact HO.out
                                                               · exact HA.out j h (by omega), by omega⟩
        case measure =>
          simp only [World.iterPos, HI2.out, HI.out]
          omega
      | false =>
        have Hbl := Lib.hid (fun W => blank_any c W)
        rw [hb] at Hbl
        by_cases hl : c < 32
        · have hlz : ((c : Nat) : Int) < 32 := by omega
          have ho : okB (s[pos]'hp) = false := by
            rw [← hok1]
            unfold okR
            rw [hb]
            simp
            omega
          have HF := Lib.hid (HR.out.symm.trans (fin ho))
          clear hb ho hok1 hok2 fin
          go_wp2_with fail
          refine (Hbl.out _).mono ?_
          rintro e w1 ⟨rfl, rfl⟩
          go_wp2
          go_ret
          exact ⟨retB HF.out.symm, HB2.out⟩
        · have hlz : ¬ ((c : Nat) : Int) < 32 := by omega
          by_cases hg : 126 < c
          · have hgz : (126 : Int) < ((c : Nat) : Int) := by omega
            have ho : okB (s[pos]'hp) = false := by
              rw [← hok1]
              unfold okR
              rw [hb]
              simp
              omega
            have HF := Lib.hid (HR.out.symm.trans (fin ho))
            clear hb ho hok1 hok2 fin
            go_wp2_with fail
            refine (Hbl.out _).mono ?_
            rintro e w1 ⟨rfl, rfl⟩
            go_wp2
            go_ret
            exact ⟨retB HF.out.symm, HB2.out⟩
          · have hgz : ¬ (126 : Int) < ((c : Nat) : Int) := by omega
            have ho : okB (s[pos]'hp) = true := by
              rw [← hok1]
              unfold okR
              rw [hb]
              simp
              omega
            obtain rfl : q = 1 := hok2 ho
            have HO := Lib.hid ho
            clear hb ho hok1 hok2 fin
            go_wp2_with fail
            refine (Hbl.out _).mono ?_
            rintro e w1 ⟨rfl, rfl⟩
            go_wp2
            go_roundw
            case rel => exact ⟨pos + 1, HI2, HB2, fun j h hj => by by_cases e : j = pos; · subst e; exact HO.out
                                                                   · exact HA.out j h (by omega), by omega⟩
            case measure =>
              simp only [World.iterPos, HI2.out, HI.out]
              omega
    · have hnx : ∀ ty, (Instr.next (.pointer (some ⟨w.heap.size, 0, none⟩)) true ty).run Tryd.prog wr = _ := fun ty => Lib.run_next_end_at wr w.heap.size s pos ty HI.out hp
      have hf : s.data.toList.all okB = true := by
        rw [List.all_eq_true]
        intro x hx
        obtain ⟨j, hj, rfl⟩ := List.mem_iff_getElem.1 hx
        rw [Array.length_toList] at hj
        have := HA.out j hj (by have e : s.data.size = s.size := rfl; omega)
        rw [Array.getElem_toList]
        exact this
      have HF := Lib.hid (HR.out.symm.trans hf)
      clear hf
      go_wp2
      go_ret
      exact ⟨retB HF.out.symm, HB.out⟩

/-- The library's fields at lex.blank. -/
theorem blank_pays (w : World) : PredAtRunes Tryd.prog 42 #[] blkR w := fun W x _ _ => (blank_any x W).mono fun e w' ⟨he, hw⟩ => ⟨he, 0, by rw [← hw]; rfl⟩
theorem fields_any (s : ByteArray) (hs : s.size ≤ 1000000) (hok : s.data.toList.all okB = true) (w : World) :
    Calls Tryd.prog 41 #[.string s, .func (.func 42) #[] #[]] w fun e w' => ∃ A, e = .returned (.slice (some ⟨A, 0, none⟩) (wordsGo s.data.toList [] []).length (wordsGo s.data.toList [] []).length) ∧ w.heap.size ≤ A ∧
      w'.ownsRow w.heap.size 9 1 (.slice (some ⟨A, 0, none⟩) (wordsGo s.data.toList [] []).length (wordsGo s.data.toList [] []).length) (wordsGo s.data.toList [] []).length ((wordsGo s.data.toList [] []).map Value.string) ∧ Below w.heap.size w w' := by
  have hf := fields_words s (fun j h => by
    have h1 := List.all_eq_true.1 hok (s[j]'h) (byte_mem s j h)
    rw [← okR_byte] at h1
    exact okR_low h1)
  rw [← hf]
  exact Any.strings_FieldsFunc_runes Tryd.lays229 42 #[] (enters_of Tryd.func42 (by kernel_rfl) rfl) blkR s w (by omega) (blank_pays w) (by kernel_rfl) (by kernel_rfl)
end Go.Proofs.YtkgmbogmeppmcaaDoor
