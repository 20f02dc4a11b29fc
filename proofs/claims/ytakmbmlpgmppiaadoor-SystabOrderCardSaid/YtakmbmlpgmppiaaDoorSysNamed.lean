/- systab.named: may a name be? -/
import Derived.Test.YtakmbmlpgmppiaaDoorSysRow
import Derived.Test.YtakmbmlpgmppiaaDoorShelf
import Derived.Lib.SlTrimSet
namespace Go.Proofs.YtakmbmlpgmppiaaDoor
open Go Go.Proofs Go.RowKit Go.Shelf Go.Lib

theorem dropWhile_nil {p : UInt8 → Bool} : ∀ l : List UInt8, l.dropWhile p = [] ↔ ∀ b ∈ l, p b = true
  | [] => by simp
  | x :: r => by
    have ih := dropWhile_nil (p := p) r
    by_cases h : p x = true
    · simp [h, ih]
    · simp [h]
theorem dropWhile_sat {p : UInt8 → Bool} : ∀ l : List UInt8, (∀ b ∈ l.dropWhile p, p b = true) → ∀ b ∈ l, p b = true
  | [], _ => by simp
  | x :: r, h => by
    by_cases hx : p x = true
    · have ih := dropWhile_sat (p := p) r (by simpa [List.dropWhile_cons, hx] using h)
      intro b hb
      rcases List.mem_cons.1 hb with rfl | hb
      · exact hx
      · exact ih b hb
    · exact absurd (h x (by simp [hx])) hx
theorem trimS_nil (l cs : List UInt8) : trimS l cs = [] ↔ ∀ b ∈ l, cs.contains b = true := by
  unfold trimS trimLeftS
  rw [dropWhile_nil]
  constructor
  · intro h
    have h2 : ∀ b ∈ l.reverse.dropWhile (cs.contains ·), cs.contains b = true := fun b hb => h b (by unfold trimRightS; simpa using hb)
    have := dropWhile_sat l.reverse h2
    intro b hb
    exact this b (by simpa using hb)
  · intro h b hb
    unfold trimRightS at hb
    have := (List.dropWhile_sublist (l := l.reverse) (cs.contains ·)).subset (by simpa using hb : b ∈ _)
    exact h b (by simpa using this)

def cutS : List UInt8 := [97, 98, 99, 100, 101, 102, 103, 104, 105, 106, 107, 108, 109, 110, 111, 112, 113, 114, 115, 116, 117, 118, 119, 120, 121, 122, 48, 49, 50, 51, 52, 53, 54, 55, 56, 57, 95]
def lettersS : List UInt8 := [97, 98, 99, 100, 101, 102, 103, 104, 105, 106, 107, 108, 109, 110, 111, 112, 113, 114, 115, 116, 117, 118, 119, 120, 121, 122]
theorem cut_all : ∀ n, n < 256 → cutS.contains (UInt8.ofNat n) = decide ((97 ≤ n ∧ n ≤ 122) ∨ (48 ≤ n ∧ n ≤ 57) ∨ n = 95) := by decide +kernel
theorem cut_ok (b : UInt8) : cutS.contains b = true ↔ okN b.toNat := by
  have h := cut_all b.toNat b.toNat_lt
  rw [UInt8.ofNat_toNat] at h
  rw [h]
  simp [okN]
theorem let_all : ∀ n, n < 256 → decide (0 ≤ indexByte lettersS (UInt8.ofNat n)) = decide (97 ≤ n ∧ n ≤ 122) := by decide +kernel

def NamedPost (s : ByteArray) (w : World) (e : Ending) (w' : World) : Prop := ∃ v : Bool, e = .returned (.bool v) ∧ (v = true ↔ refNameP s) ∧ Below w.heap.size w w'
theorem nm_false {s : ByteArray} {w w' : World} (h : ¬ refNameP s) (hb : Below w.heap.size w w') : NamedPost s w (.returned (.bool false)) w' := ⟨false, rfl, ⟨fun e => by simp at e, fun e => absurd e h⟩, hb⟩

theorem all_okN (s : ByteArray) : (∀ b ∈ s.data.toList, cutS.contains b = true) ↔ ∀ j (h : j < s.size), okN (s[j]'h).toNat := by
  constructor
  · intro h j hj
    rw [← cut_ok]
    exact h _ (by simp [Array.mem_toList_iff]; exact Array.getElem_mem (xs := s.data) hj)
  · intro h b hb
    obtain ⟨j, hj, rfl⟩ := List.mem_iff_getElem.1 hb
    rw [cut_ok]
    exact h j (by simpa using hj)

set_option maxRecDepth 100000 in
set_option maxHeartbeats 1000000 in
theorem named_any (s : ByteArray) (w : World) (hs : s.size ≤ 9223372036854775807) : Calls Tryd.prog 20 #[.string s] w (NamedPost s w) := by
  by_cases h0 : s.size = 0
  · have e0 : s.toList = [] := by rw [ByteArray.toList_eq]; exact List.eq_nil_of_length_eq_zero (by simpa using h0)
    have e1 : s.toList.isEmpty = true := by rw [e0]; rfl
    go_enter Tryd.func20, Tryd.ntmps20
    go_wp2
    go_ret
    exact nm_false (fun h => by obtain ⟨h, _⟩ := h.2.1; omega) (Below.refl _ _)
  have h00 : 0 < s.size := by omega
  have e0 : ¬ s.toList = [] := by
    rw [ByteArray.toList_eq]
    intro h
    have := congrArg List.length h
    simp at this
    exact h0 (by rw [this]; rfl)
  have e1 : s.toList.isEmpty = false := by simpa using e0
  by_cases a3 : s.toList = [100, 101, 102, 97, 117, 108, 116]
  · have b3 : (s.toList == [100, 101, 102, 97, 117, 108, 116]) = true := by simpa using a3
    go_enter Tryd.func20, Tryd.ntmps20
    go_wp2
    go_ret
    exact nm_false (fun h => h.2.2.1 a3) (Below.refl _ _)
  have b3 : (s.toList == [100, 101, 102, 97, 117, 108, 116]) = false := by simpa using a3
  by_cases a4 : s.toList = [120, 51, 50]
  · have b4 : (s.toList == [120, 51, 50]) = true := by simpa using a4
    go_enter Tryd.func20, Tryd.ntmps20
    go_wp2
    go_ret
    exact nm_false (fun h => h.2.2.2.1 a4) (Below.refl _ _)
  have b4 : (s.toList == [120, 51, 50]) = false := by simpa using a4
  by_cases a5 : s.size ≤ 30
  case neg =>
    have b5 : decide ((s.size : Int) ≤ 30) = false := decide_eq_false (by omega)
    go_enter Tryd.func20, Tryd.ntmps20
    go_wp2
    go_ret
    exact nm_false (fun h => a5 h.1) (Below.refl _ _)
  have b5 : decide ((s.size : Int) ≤ 30) = true := decide_eq_true (by omega)
  have hcon := fun W => Any.strings_Trim_laid Tryd.lays160 (by kernel_rfl) s ⟨cutS.toArray⟩ W hs (by decide) (ascii_of_all (by decide))
  have HQ : Hid (s.size ≤ 30 ∧ ¬ s.toList = [100, 101, 102, 97, 117, 108, 116] ∧ ¬ s.toList = [120, 51, 50]) := ⟨a5, a3, a4⟩
  clear a3 a4 a5
  by_cases hall : ∀ b ∈ s.data.toList, cutS.contains b = true
  case neg =>
    have hne : ¬ trimS s.data.toList cutS = [] := fun h => hall ((trimS_nil _ _).1 h)
    have hcon' : ∀ W, ∃ r : ByteArray, r.toList.isEmpty = false ∧ Calls Tryd.prog 33 #[.string s, .string ⟨cutS.toArray⟩] W fun e w' => e = .returned (.string r) ∧ Below W.heap.size W w' := fun W => ⟨_, by rw [ByteArray.toList_eq]; simpa using hne, hcon W⟩
    obtain ⟨r, hr, hc⟩ := hcon' w
    have hr2 : ¬ r.toList = [] := by simpa using hr
    have Hc := Lib.hid hc
    have HN : Hid (¬ refNameP s) := fun h => hall ((all_okN s).2 h.2.2.2.2)
    clear hcon hcon' hc hne hall
    go_enter Tryd.func20, Tryd.ntmps20
    go_wp2_with (go_at_call 33; refine Hc.out.mono ?_; rintro e w1 ⟨rfl, hb1⟩)
    go_ret
    exact nm_false HN.out hb1
  have hc : Calls Tryd.prog 33 #[.string s, .string ⟨cutS.toArray⟩] w fun e w' => e = .returned (.string ⟨#[]⟩) ∧ Below w.heap.size w w' := by
    have := hcon w
    rw [show (⟨cutS.toArray⟩ : ByteArray).data.toList = cutS from rfl, (trimS_nil _ _).2 hall] at this
    exact this
  have Hc := Lib.hid hc
  have HA := Lib.hid ((all_okN s).1 hall)
  clear hcon hc hall
  have hi := let_all (s[0]'h00).toNat (s[0]'h00).toNat_lt
  rw [UInt8.ofNat_toNat] at hi
  have hib : ∀ W, Calls Tryd.prog 34 #[.string ⟨lettersS.toArray⟩, .int .u8 ((s[0]'h00).toNat : Int)] W fun e w' => e = .returned (.int .i64 (indexByte lettersS (s[0]'h00))) ∧ w' = W := fun W => by
    have := Any.strings_IndexByte Tryd.lays137 ⟨lettersS.toArray⟩ ((s[0]'h00).toNat : Int) W
    rw [Int.toNat_natCast, show (s[0]'h00).toNat.toUInt8 = s[0]'h00 from UInt8.ofNat_toNat] at this
    exact this
  generalize indexByte lettersS (s[0]'h00) = ix at hi hib
  have Hib := Lib.hid hib
  clear hib
  have h01 : (0 : Int) < (s.size : Int) := by omega
  by_cases a1 : 97 ≤ (s[0]'h00).toNat ∧ (s[0]'h00).toNat ≤ 122
  · rw [decide_eq_true a1] at hi
    have HV : Hid (refNameP s) := ⟨HQ.out.1, ⟨h00, a1⟩, HQ.out.2.1, HQ.out.2.2, HA.out⟩
    clear a1
    go_enter Tryd.func20, Tryd.ntmps20
    go_wp2_with (first | (go_at_call 33; refine Hc.out.mono ?_; rintro e w1 ⟨rfl, hb1⟩) | (go_at_call 34; refine (Hib.out _).mono ?_; rintro e w2 ⟨rfl, rfl⟩))
    go_ret
    exact ⟨true, rfl, ⟨fun _ => HV.out, fun _ => rfl⟩, hb1⟩
  · rw [decide_eq_false a1] at hi
    have HV : Hid (¬ refNameP s) := fun h => a1 (by obtain ⟨h', h1, h2⟩ := h.2.1; exact ⟨h1, h2⟩)
    clear a1
    go_enter Tryd.func20, Tryd.ntmps20
    go_wp2_with (first | (go_at_call 33; refine Hc.out.mono ?_; rintro e w1 ⟨rfl, hb1⟩) | (go_at_call 34; refine (Hib.out _).mono ?_; rintro e w2 ⟨rfl, rfl⟩))
    go_ret
    exact nm_false HV.out hb1
end Go.Proofs.YtakmbmlpgmppiaaDoor
