/- act.plain: plain digits. -/
import Derived.Test.YtkgmbogmeppmcaaDoorActNum
import Derived.Lib.SlTrimSet
namespace Go.Proofs.YtkgmbogmeppmcaaDoor
open Go Go.Proofs Go.RowKit Go.Shelf Go.Lib

theorem dropWhile_nil {p : UInt8 → Bool} : ∀ l : List UInt8, l.dropWhile p = [] ↔ ∀ b ∈ l, p b = true
  | [] => by simp
  | x :: r => by
    have ih := dropWhile_nil (p := p) r
    by_cases h : p x = true
    · simp [h, ih]
    · simp [h]
theorem dropWhile_sat {p : UInt8 → Bool} : ∀ l : List UInt8, (∀ b ∈ l.dropWhile p, p b = true) → ∀ b ∈ l, p b = true
  | [], _ => by simp
  | x :: r, h => by
    by_cases hx : p x = true
    · have ih := dropWhile_sat (p := p) r (by simpa [List.dropWhile_cons, hx] using h)
      intro b hb
      rcases List.mem_cons.1 hb with rfl | hb
      · exact hx
      · exact ih b hb
    · exact absurd (h x (by simp [hx])) hx
theorem trimS_nil (l cs : List UInt8) : trimS l cs = [] ↔ ∀ b ∈ l, cs.contains b = true := by
  unfold trimS trimLeftS
  rw [dropWhile_nil]
  constructor
  · intro h
    have h2 : ∀ b ∈ l.reverse.dropWhile (cs.contains ·), cs.contains b = true := fun b hb => h b (by unfold trimRightS; simpa using hb)
    have := dropWhile_sat l.reverse h2
    intro b hb
    exact this b (by simpa using hb)
  · intro h b hb
    unfold trimRightS at hb
    have := (List.dropWhile_sublist (l := l.reverse) (cs.contains ·)).subset (by simpa using hb : b ∈ _)
    exact h b (by simpa using this)


def digS : List UInt8 := [48, 49, 50, 51, 52, 53, 54, 55, 56, 57]
theorem dig_all : ∀ n, n < 256 → digS.contains (UInt8.ofNat n) = decide (48 ≤ n ∧ n ≤ 57) := by decide +kernel
theorem dig_ok (b : UInt8) : digS.contains b = true ↔ (digitVal b).isSome = true := by
  have h := dig_all b.toNat b.toNat_lt
  rw [UInt8.ofNat_toNat] at h
  rw [h]
  unfold digitVal
  split <;> simp [*]
theorem decFrom_all : ∀ (l : List UInt8) (acc : Nat), (∀ b ∈ l, digS.contains b = true) → (decFrom acc l).isSome = true
  | [], _, _ => rfl
  | b :: r, acc, h => by
    have hb := (dig_ok b).1 (h b (by simp))
    obtain ⟨d, hd⟩ := Option.isSome_iff_exists.1 hb
    unfold decFrom
    rw [hd]
    exact decFrom_all r _ (fun c hc => h c (by simp [hc]))
theorem decFrom_some {l : List UInt8} {acc : Nat} (h : (decFrom acc l).isSome = true) : ∀ b ∈ l, digS.contains b = true := by
  intro b hb
  obtain ⟨k, hk, rfl⟩ := List.mem_iff_getElem.1 hb
  rw [dig_ok]
  cases hv : digitVal l[k] with
  | some _ => rfl
  | none =>
    rw [decFrom_bad l k acc _ (List.getElem?_eq_getElem hk) hv] at h
    cases h

set_option maxRecDepth 100000 in
set_option maxHeartbeats 1000000 in
theorem plain_any (s : ByteArray) (hs : s.size ≤ 9223372036854775807) (w : World) : Calls Tryd.prog 48 #[.string s] w fun e w' => e = .returned (.bool (refNum s).isSome) ∧ Below w.heap.size w w' := by
  by_cases h0 : s.size = 0
  · have hv : (refNum s).isSome = false := by unfold refNum; rw [if_pos (.inl h0)]; rfl
    rw [hv]
    have he : s.toList = [] := by rw [ByteArray.toList_eq]; exact List.eq_nil_of_length_eq_zero (by rw [Array.length_toList]; exact h0)
    have hb : s.toList.isEmpty = true := by rw [he]; rfl
    clear hv he
    go_enter Tryd.func48, Tryd.ntmps48
    go_wp2
    go_ret
    exact ⟨rfl, Below.refl _ w⟩
  have hne : ¬ s.toList = [] := by
    rw [ByteArray.toList_eq]
    intro h
    have := congrArg List.length h
    rw [Array.length_toList] at this
    exact h0 this
  have hb : s.toList.isEmpty = false := by simpa using hne
  by_cases h9 : 9 < s.size
  · have hv : (refNum s).isSome = false := by unfold refNum; rw [if_pos (.inr (.inl h9))]; rfl
    rw [hv]
    have h9z : decide ((s.size : Int) ≤ 9) = false := decide_eq_false (by omega)
    clear hv hne
    go_enter Tryd.func48, Tryd.ntmps48
    go_wp2
    go_ret
    exact ⟨rfl, Below.refl _ w⟩
  have h9z : decide ((s.size : Int) ≤ 9) = true := decide_eq_true (by omega)
  have h00 : 0 < s.size := by omega
  have h00z : (0 : Int) < (s.size : Int) := by omega
  have hhd : s.data.toList.head? = some (s[0]'h00) := by rw [List.head?_eq_getElem?]; exact byte_get s 0 h00
  have hcon := fun W => Any.strings_Trim_laid Tryd.lays160 (by kernel_rfl) s ⟨digS.toArray⟩ W hs (by decide) (ascii_of_all (by decide))
  by_cases hall : ∀ b ∈ s.data.toList, digS.contains b = true
  case neg =>
    have hne2 : ¬ trimS s.data.toList digS = [] := fun h => hall ((trimS_nil _ _).1 h)
    have hcon' : ∀ W, ∃ r : ByteArray, r.toList.isEmpty = false ∧ Calls Tryd.prog 58 #[.string s, .string ⟨digS.toArray⟩] W fun e w' => e = .returned (.string r) ∧ Below W.heap.size W w' := fun W => ⟨_, by rw [ByteArray.toList_eq]; simpa using hne2, hcon W⟩
    obtain ⟨r, hr, hc⟩ := hcon' w
    have hr2 : ¬ r.toList = [] := by simpa using hr
    have Hc := Lib.hid hc
    have hv : (refNum s).isSome = false := by
      cases hq : (refNum s).isSome with
      | false => rfl
      | true =>
        unfold refNum at hq
        split at hq
        · cases hq
        · exact absurd (decFrom_some hq) hall
    rw [hv]
    clear hcon hcon' hc hne2 hall hv hhd hne
    go_enter Tryd.func48, Tryd.ntmps48
    go_wp2_with (go_at_call 58; refine Hc.out.mono ?_; rintro e w1 ⟨rfl, hb1⟩)
    go_ret
    exact ⟨rfl, hb1⟩
  have hc : Calls Tryd.prog 58 #[.string s, .string ⟨digS.toArray⟩] w fun e w' => e = .returned (.string ⟨#[]⟩) ∧ Below w.heap.size w w' := by
    have := hcon w
    rw [show (⟨digS.toArray⟩ : ByteArray).data.toList = digS from rfl, (trimS_nil _ _).2 hall] at this
    exact this
  have Hc := Lib.hid hc
  by_cases hz : s.toList = [48]
  · have hv : (refNum s).isSome = true := by
      unfold refNum
      rw [if_neg]
      · exact decFrom_all _ _ hall
      · rintro (h | h | ⟨_, h⟩)
        · exact h0 h
        · exact h9 h
        · have e := congrArg List.length hz
          rw [ByteArray.toList_eq, Array.length_toList] at e
          have e2 : s.size = 1 := e
          omega
    rw [hv]
    have hzb : (s.toList == [48]) = true := by simpa using hz
    clear hcon hc hall hv hhd hne hz
    go_enter Tryd.func48, Tryd.ntmps48
    go_wp2_with (go_at_call 58; refine Hc.out.mono ?_; rintro e w1 ⟨rfl, hb1⟩)
    go_ret
    exact ⟨rfl, hb1⟩
  · have hzb : (s.toList == [48]) = false := by simpa using hz
    have hone : s.size = 1 → ¬ (s[0]'h00) = 48 := by
      intro h1 h2
      apply hz
      rw [ByteArray.toList_eq]
      have hl : s.data.toList.length = 1 := by rw [Array.length_toList]; exact h1
      match hd : s.data.toList, hl with
      | [x], _ =>
        rw [hd] at hhd
        simp only [List.head?_cons, Option.some.injEq] at hhd
        rw [hhd, h2]
    by_cases h48 : (s[0]'h00) = 48
    · have hv : (refNum s).isSome = false := by
        unfold refNum
        rw [if_pos (.inr (.inr ⟨by rw [hhd, h48], by have := hone; by_cases e : s.size = 1; exact absurd h48 (hone e); omega⟩))]
        rfl
      rw [hv]
      have hq : ((((s[0]'h00).toNat : Nat) : Int) != 48) = false := by rw [h48]; rfl
      have hq2 : (((s[0]'h00).toNat : Nat) : Int) = 48 := by rw [h48]; rfl
      clear hcon hc hall hv hhd hne hz hone h48
      go_enter Tryd.func48, Tryd.ntmps48
      go_wp2_with (go_at_call 58; refine Hc.out.mono ?_; rintro e w1 ⟨rfl, hb1⟩)
      go_ret
      exact ⟨rfl, hb1⟩
    · have hv : (refNum s).isSome = true := by
        unfold refNum
        rw [if_neg]
        · exact decFrom_all _ _ hall
        · rintro (h | h | ⟨h, _⟩)
          · exact h0 h
          · exact h9 h
          · rw [hhd] at h; exact h48 (Option.some.inj h)
      rw [hv]
      have hq2 : ¬ (((s[0]'h00).toNat : Nat) : Int) = 48 := fun e => h48 (UInt8.toNat_inj.1 (by simpa using Int.ofNat.inj e))
      have hq : ((((s[0]'h00).toNat : Nat) : Int) != 48) = true := by simpa using hq2
      clear hcon hc hall hv hhd hne hz hone h48
      go_enter Tryd.func48, Tryd.ntmps48
      go_wp2_with (go_at_call 58; refine Hc.out.mono ?_; rintro e w1 ⟨rfl, hb1⟩)
      go_ret
      exact ⟨rfl, hb1⟩
end Go.Proofs.YtkgmbogmeppmcaaDoor
