/- cond.arg at every text. -/
import Derived.Test.YtlmobmbglninkaaDoorCondNum
namespace Go.Proofs.YtlmobmbglninkaaDoor
open Go Go.Proofs Go.RowKit Go.Shelf Go.Lib

set_option maxHeartbeats 4000000 in
set_option maxRecDepth 100000 in
theorem arg_any (s : ByteArray) (hs : s.size ≤ 281474976710656) (w : World) :
    Calls Tryd.prog 19 #[.string s] w fun e w' => e = .returned (.tuple #[.int .i64 (((argOf s.data.toList).1 : Nat) : Int), .int .i64 (((argOf s.data.toList).2 : Nat) : Int)]) ∧ Below w.heap.size w w' := by
  have hcut := Any.strings_CutPrefix Tryd.lays103 s ⟨#[97]⟩ w
  rw [show (⟨#[97]⟩ : ByteArray).data.toList = [97] from rfl] at hcut
  have hsz := size_trimPrefix s.data.toList [97]
  rw [Array.length_toList] at hsz
  have hsz : (trimPrefix s.data.toList [97]).length ≤ s.size := hsz
  unfold argOf
  cases hp : hasPrefix s.data.toList [97] with
  | false =>
    rw [hp] at hcut
    have Hcut := Lib.hid hcut
    rw [if_pos (.inl rfl)]
    clear hcut hp hsz
    generalize (⟨(trimPrefix s.data.toList [97]).toArray⟩ : ByteArray) = r at Hcut
    go_enter Tryd.func19, Tryd.ntmps19
    go_wp2_with (go_at_call 24; refine Hcut.out.mono ?_; rintro e w1 ⟨rfl, rfl⟩)
    go_ret2
    exact ⟨rfl, Below.refl _ _⟩
  | true =>
    rw [hp] at hcut
    obtain ⟨r, hr⟩ : ∃ r : ByteArray, r.data.toList = trimPrefix s.data.toList [97] := ⟨⟨(trimPrefix s.data.toList [97]).toArray⟩, rfl⟩
    rw [← hr] at hcut hsz ⊢
    have hcut : Calls Tryd.prog 24 #[.string s, .string ⟨#[97]⟩] w fun e w' => e = .returned (.tuple #[.string r, .bool true]) ∧ w' = w := hcut
    rw [Array.length_toList] at hsz ⊢
    have hsz : r.size ≤ s.size := hsz
    clear hr hp
    have Hcut := Lib.hid hcut
    clear hcut
    by_cases h0 : r.size = 0
    · have hl : r.data.toList = [] := size_nil h0
      rw [if_pos (.inr (.inl hl))]
      have hb : r.toList.isEmpty = true := by rw [ByteArray.toList_eq, hl]; rfl
      clear hl h0 hsz
      go_enter Tryd.func19, Tryd.ntmps19
      go_wp2_with (go_at_call 24; refine Hcut.out.mono ?_; rintro e w1 ⟨rfl, rfl⟩)
      go_ret2
      exact ⟨rfl, Below.refl _ _⟩
    have hnl : r.data.toList ≠ [] := fun h => h0 (by have := congrArg List.length h; rwa [Array.length_toList] at this)
    have hb : r.toList.isEmpty = false := by rw [ByteArray.toList_eq]; simpa using hnl
    have hcon := Any.strings_Trim_laid Tryd.lays160 (by kernel_rfl) r ⟨decS10.toArray⟩ w (by omega) (by decide) (ascii_of_all (by decide))
    by_cases hall : ∀ b ∈ r.data.toList, decS10.contains b = true
    case neg =>
      have hne2 : ¬ trimS r.data.toList decS10 = [] := fun h => hall ((trimS_nil _ _).1 h)
      have hcon' : ∃ q : ByteArray, q.toList.isEmpty = false ∧ Calls Tryd.prog 25 #[.string r, .string ⟨decS10.toArray⟩] w fun e w' => e = .returned (.string q) ∧ Below w.heap.size w w' := ⟨_, by rw [ByteArray.toList_eq]; simpa using hne2, hcon⟩
      obtain ⟨q, hr, hc⟩ := hcon'
      have hr2 : ¬ q.toList = [] := by simpa using hr
      have Hc := Lib.hid hc
      rw [if_pos (.inr (.inr hall))]
      clear hcon hc hne2 hall hnl
      go_enter Tryd.func19, Tryd.ntmps19
      go_wp2_with (first | (go_at_call 24; refine Hcut.out.mono ?_; rintro e w1 ⟨rfl, rfl⟩) | (go_at_call 25; refine Hc.out.mono ?_; rintro e w1 ⟨rfl, hb1⟩))
      go_ret2
      exact ⟨rfl, hb1⟩
    have hc : Calls Tryd.prog 25 #[.string r, .string ⟨decS10.toArray⟩] w fun e w' => e = .returned (.string ⟨#[]⟩) ∧ Below w.heap.size w w' := by
      have := hcon
      rw [show (⟨decS10.toArray⟩ : ByteArray).data.toList = decS10 from rfl, (trimS_nil _ _).2 hall] at this
      exact this
    have Hc := Lib.hid hc
    have h00 : 0 < r.size := by omega
    have h00z : (0 : Int) < (r.size : Int) := by omega
    have hhd := head_get r h00
    have hget : r.data.toList.getD 0 0 = r[0]'h00 := by
      rw [List.head?_eq_getElem?] at hhd
      simp [List.getD, hhd]
    have h48 : 48 ≤ (r[0]'h00).toNat := by
      have h1 := hall (r[0]'h00) (by rw [List.head?_eq_getElem?] at hhd; exact List.mem_of_getElem? hhd)
      have h2 := base_fig (.inl rfl) (r[0]'h00)
      rw [show baseS 10 = decS10 from rfl, h1] at h2
      refine Classical.byContradiction fun hlt => ?_
      by_cases h3 : 97 ≤ (r[0]'h00).toNat ∧ (r[0]'h00).toNat ≤ 102
      · omega
      · have hv : figV (r[0]'h00) = none := by unfold figV; rw [if_neg (by omega), if_neg h3]
        rw [hv] at h2
        cases h2
    have hno : ¬ (true = false ∨ r.data.toList = [] ∨ ¬ ∀ b ∈ r.data.toList, decS10.contains b = true) := by
      rintro (h | h | h)
      · cases h
      · exact hnl h
      · exact h hall
    rw [if_neg hno, hget]
    clear hcon hc hall hhd hget hnl hno
    by_cases h1 : 1 < r.data.size
    · rw [if_pos (.inl h1)]
      have h1z : (1 : Int) < (r.size : Int) := by have : 1 < r.size := h1; omega
      clear h1
      go_enter Tryd.func19, Tryd.ntmps19
      go_wp2_with (first | (go_at_call 24; refine Hcut.out.mono ?_; rintro e w1 ⟨rfl, rfl⟩) | (go_at_call 25; refine Hc.out.mono ?_; rintro e w1 ⟨rfl, hb1⟩))
      go_ret2
      exact ⟨rfl, hb1⟩
    have h1z : ¬ (1 : Int) < (r.size : Int) := by have : ¬ 1 < r.size := h1; omega
    by_cases h5 : 53 < (r[0]'h00).toNat
    · rw [if_pos (.inr h5)]
      have h5z : (53 : Int) < (((r[0]'h00).toNat : Nat) : Int) := by omega
      clear h1
      go_enter Tryd.func19, Tryd.ntmps19
      go_wp2_with (first | (go_at_call 24; refine Hcut.out.mono ?_; rintro e w1 ⟨rfl, rfl⟩) | (go_at_call 25; refine Hc.out.mono ?_; rintro e w1 ⟨rfl, hb1⟩))
      go_ret2
      exact ⟨rfl, hb1⟩
    · rw [if_neg (by rintro (h | h); exact h1 h; exact h5 h)]
      have h5z : ¬ (53 : Int) < (((r[0]'h00).toNat : Nat) : Int) := by omega
      have hE : ((((r[0]'h00).toNat - 48 : Nat)) : Int) = (((r[0]'h00).toNat : Nat) : Int) - 48 := by omega
      have hz48 : (48 : Int) ≤ (((r[0]'h00).toNat : Nat) : Int) := by omega
      rw [show ((((r[0]'h00).toNat - 48, 0) : Nat × Nat).1 : Nat) = (r[0]'h00).toNat - 48 from rfl, hE]
      clear h1 hE h5
      go_enter Tryd.func19, Tryd.ntmps19
      go_wp2_with (first | (go_at_call 24; refine Hcut.out.mono ?_; rintro e w1 ⟨rfl, rfl⟩) | (go_at_call 25; refine Hc.out.mono ?_; rintro e w1 ⟨rfl, hb1⟩))
      go_ret2
      exact ⟨by first | rfl | (congr 3; omega), hb1⟩
end Go.Proofs.YtlmobmbglninkaaDoor
