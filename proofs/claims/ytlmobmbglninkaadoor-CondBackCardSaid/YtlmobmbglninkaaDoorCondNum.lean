/- cond.Number and cond.arg, at every text. -/
import Derived.Test.YtlmobmbglninkaaDoorCondPu
import Derived.Shelf.Small.Wraps
import Derived.Shelf.Strings.SlTrimAscii
namespace Go.Proofs.YtlmobmbglninkaaDoor
open Go Go.Proofs Go.RowKit Go.Shelf Go.Lib

/-- What the error variable holds is an error. -/
def ErrV (W : World) : Prop := ∃ ev, W.cell? ⟨1, 0, none⟩ = some ev ∧ (ev = .nilIface ∨ ∃ te pe, ev = .iface te pe)
theorem ErrV.below {w W : World} (h : ErrV w) (hb : Below w.heap.size w W) : ErrV W := by
  obtain ⟨ev, h1, h2⟩ := h
  exact ⟨ev, (hb.cell (Lib.lt_of_cell h1)).trans h1, h2⟩

set_option maxHeartbeats 4000000 in
set_option maxRecDepth 100000 in
theorem pu16_any (s : ByteArray) (hne : s.size ≠ 0) (hlim : s.size ≤ 281474976710656) (hall : ∀ b ∈ s.data.toList, hexS16.contains b = true) (w : World) (hv : ErrV w) :
    Calls Tryd.prog 26 #[.string s, .int .i64 16, .int .i64 64] w fun e w' => (match numFrom 16 0 s.data.toList with | some u => e = .returned (.tuple #[.int .u64 u, .nilIface]) | none => ∃ N : Nat, e = .returned (.tuple #[.int .u64 18446744073709551615, .iface 95 (.pointer (some ⟨N, 0, none⟩))])) ∧ Below w.heap.size w w' := by
  have hI := parse16_in s hne (by omega) hall w
  cases hq : numFrom 16 0 s.data.toList with
  | some u =>
    rw [hq] at hI
    have hI : Calls Tryd.prog 46 #[.string s, .int .i64 16, .int .i64 64] w fun e w' => e = .returned (.tuple #[.int .u64 (u : Int), .nilIface]) ∧ w' = Lib.bytesWorld w 5 s := hI
    have Hc := Lib.hid hI
    clear hI hq hall
    go_enter Tryd.func26, Tryd.ntmps26
    go_wp2_with (go_at_call 46; refine Hc.out.mono ?_; rintro e W1 ⟨rfl, rfl⟩)
    go_wp2
    go_ret2
    exact ⟨rfl, Lib.bytesWorld_below _ _ _⟩
  | none =>
    rw [hq] at hI
    obtain ⟨ev, hg, hev⟩ := hv
    have hb1 : Below w.heap.size w (Lib.bytesWorld w 5 s) := Lib.bytesWorld_below _ _ _
    have hG : 1 < w.heap.size := Lib.lt_of_cell hg
    have hv1 : (Lib.bytesWorld w 5 s).cell? ⟨1, 0, none⟩ = some ev := (hb1.cell hG).trans hg
    have hT := AnyPu.strconv_toError_range (ρ := Tryd.layspu14_ren) { Tryd.layspu14 with } ⟨#[80, 97, 114, 115, 101, 85, 105, 110, 116]⟩ s 16 64 ev _ hlim hv1 hev
    generalize Lib.bytesWorld w 5 s = W1 at hI hT hb1
    have hI : Calls Tryd.prog 46 #[.string s, .int .i64 16, .int .i64 64] w fun e w' => e = .returned (.tuple #[.int .u64 18446744073709551615, .iface 91 (.int .i64 1)]) ∧ w' = W1 := hI
    have hT : Calls Tryd.prog 47 #[.string ⟨#[80, 97, 114, 115, 101, 85, 105, 110, 116]⟩, .string s, .int .i64 16, .int .i64 64, .iface 91 (.int .i64 1)] W1 fun e w' => ∃ N : Nat, e = .returned (.iface 95 (.pointer (some ⟨N, 0, none⟩))) ∧ Below W1.heap.size W1 w' := hT.mono (by
      rintro e w' ⟨N, rfl, _, _, h⟩
      exact ⟨N, rfl, h⟩)
    have Hc := Lib.hid hI
    have Ht := Lib.hid hT
    have Hb := Lib.hid hb1
    clear hI hT hb1 hv1 hg hev hG hq hall
    go_enter Tryd.func26, Tryd.ntmps26
    go_wp2_with (go_at_call 46; refine Hc.out.mono ?_)
    rintro e W2 ⟨rfl, rfl⟩
    go_wp2_with (go_at_call 47; refine Ht.out.mono ?_)
    rintro e W3 ⟨N, rfl, h3⟩
    go_wp2
    go_ret2
    exact ⟨⟨N, rfl⟩, Hb.out.trans (h3.mono Hb.out.size)⟩

theorem pu10_any (s : ByteArray) (hne : s.size ≠ 0) (hlim : s.size ≤ 281474976710656) (hall : ∀ b ∈ s.data.toList, decS10.contains b = true) (w : World) (hv : ErrV w) :
    Calls Tryd.prog 26 #[.string s, .int .i64 10, .int .i64 64] w fun e w' => (match numFrom 10 0 s.data.toList with | some u => e = .returned (.tuple #[.int .u64 u, .nilIface]) | none => ∃ N : Nat, e = .returned (.tuple #[.int .u64 18446744073709551615, .iface 95 (.pointer (some ⟨N, 0, none⟩))])) ∧ Below w.heap.size w w' := by
  have hnl : s.data.toList ≠ [] := fun h => hne (by have := congrArg List.length h; rwa [Array.length_toList] at this)
  rcases parse_dec0 hall hnl with ⟨u, h1, h2⟩ | ⟨h1, h2⟩
  · rw [h1]
    refine (Any.strconv_ParseUint_10_at64_ok Tryd.layspu14 s (by omega) u h2 w).mono ?_
    rintro e w' ⟨rfl, h⟩
    refine ⟨rfl, ?_⟩
    rcases h with rfl | rfl
    · exact Below.refl _ _
    · exact Lib.bytesWorld_below _ _ _
  · rw [h1]
    obtain ⟨ev, hg, hev⟩ := hv
    refine (Any.strconv_ParseUint_10_at64_range Tryd.layspu14 s hlim h2 ev w hg hev).mono ?_
    rintro e w' ⟨N, rfl, _, _, h⟩
    exact ⟨⟨N, rfl⟩, h⟩
theorem size_trimPrefix (l p : List UInt8) : (trimPrefix l p).length ≤ l.length := by
  unfold trimPrefix
  split
  · simp
  · exact Nat.le_refl _
theorem head_get (s : ByteArray) (h : 0 < s.size) : s.data.toList.head? = some (s[0]'h) := by
  rw [List.head?_eq_getElem?, List.getElem?_eq_getElem (by rw [Array.length_toList]; exact h)]
  rfl
theorem size_nil {s : ByteArray} (h : s.size = 0) : s.data.toList = [] := List.eq_nil_of_length_eq_zero (by rw [Array.length_toList]; exact h)

set_option maxHeartbeats 4000000 in
set_option maxRecDepth 100000 in
theorem number_16 (s r : ByteArray) (hs : r.size ≤ 281474976710656) (w : World) (hv : ErrV w)
    (hcut : Calls Tryd.prog 24 #[.string s, .string ⟨#[48, 120]⟩] w fun e w' => e = .returned (.tuple #[.string r, .bool true]) ∧ w' = w) :
    Calls Tryd.prog 11 #[.string s] w fun e w' => e = .returned (.tuple #[.int .u64 (((numRest 16 r.data.toList).getD 0 : Nat) : Int), .bool (numRest 16 r.data.toList).isSome]) ∧ Below w.heap.size w w' := by
  have Hcut := Lib.hid hcut
  clear hcut
  by_cases h0 : r.size = 0
  · have hl : r.data.toList = [] := size_nil h0
    have hnone : numRest 16 r.data.toList = none := by rw [hl]; rfl
    have hb : r.toList.isEmpty = true := by rw [ByteArray.toList_eq, hl]; rfl
    rw [hnone]
    clear hnone hl h0
    go_enter Tryd.func11, Tryd.ntmps11
    go_wp2_with (go_at_call 24; refine Hcut.out.mono ?_; rintro e w1 ⟨rfl, rfl⟩)
    go_ret2
    exact ⟨rfl, Below.refl _ _⟩
  have hnl : r.data.toList ≠ [] := fun h => h0 (by have := congrArg List.length h; rwa [Array.length_toList] at this)
  have hb : r.toList.isEmpty = false := by rw [ByteArray.toList_eq]; simpa using hnl
  have hcon := Any.strings_Trim_laid Tryd.lays160 (by kernel_rfl) r ⟨hexS16.toArray⟩ w (by omega) (by decide) (ascii_of_all (by decide))
  by_cases hall : ∀ b ∈ r.data.toList, hexS16.contains b = true
  case neg =>
    have hne2 : ¬ trimS r.data.toList hexS16 = [] := fun h => hall ((trimS_nil _ _).1 h)
    have hcon' : ∃ q : ByteArray, q.toList.isEmpty = false ∧ Calls Tryd.prog 25 #[.string r, .string ⟨hexS16.toArray⟩] w fun e w' => e = .returned (.string q) ∧ Below w.heap.size w w' := ⟨_, by rw [ByteArray.toList_eq]; simpa using hne2, hcon⟩
    obtain ⟨q, hr, hc⟩ := hcon'
    have hr2 : ¬ q.toList = [] := by simpa using hr
    have Hc := Lib.hid hc
    have hbad : ∃ b ∈ r.data.toList, hexS16.contains b = false := by
      simpa using hall
    have hnone : numRest 16 r.data.toList = none := by
      unfold numRest
      split
      · rfl
      · exact numFrom_bad (.inr rfl) _ _ hbad
    rw [hnone]
    clear hcon hc hne2 hall hnone hnl hbad
    go_enter Tryd.func11, Tryd.ntmps11
    go_wp2_with (first | (go_at_call 24; refine Hcut.out.mono ?_; rintro e w1 ⟨rfl, rfl⟩) | (go_at_call 25; refine Hc.out.mono ?_; rintro e w1 ⟨rfl, hb1⟩))
    go_ret2
    exact ⟨rfl, hb1⟩
  have hc : Calls Tryd.prog 25 #[.string r, .string ⟨hexS16.toArray⟩] w fun e w' => e = .returned (.string ⟨#[]⟩) ∧ Below w.heap.size w w' := by
    have := hcon
    rw [show (⟨hexS16.toArray⟩ : ByteArray).data.toList = hexS16 from rfl, (trimS_nil _ _).2 hall] at this
    exact this
  have Hc := Lib.hid hc
  have h00 : 0 < r.size := by omega
  have h00z : (0 : Int) < (r.size : Int) := by omega
  have hhd := head_get r h00
  by_cases hz : r.data.toList.head? = some 48 ∧ r.data.toList ≠ [48]
  · have hnone : numRest 16 r.data.toList = none := by unfold numRest; rw [if_pos (.inr hz)]
    rw [hnone]
    have hq : (((r[0]'h00).toNat : Nat) : Int) = 48 := by rw [hhd] at hz; rw [Option.some.inj hz.1]; rfl
    have hz2 : (r.toList == [48]) = false := by rw [ByteArray.toList_eq]; simpa using hz.2
    have hz3 : ¬ r.toList = [48] := by rw [ByteArray.toList_eq]; exact hz.2
    clear hcon hc hall hhd hnl hnone hz
    go_enter Tryd.func11, Tryd.ntmps11
    go_wp2_with (first | (go_at_call 24; refine Hcut.out.mono ?_; rintro e w1 ⟨rfl, rfl⟩) | (go_at_call 25; refine Hc.out.mono ?_; rintro e w1 ⟨rfl, hb1⟩))
    go_ret2
    exact ⟨rfl, hb1⟩
  have hnum : numRest 16 r.data.toList = numFrom 16 0 r.data.toList := by
    unfold numRest
    rw [if_neg]
    rintro (h | h)
    · exact hnl h
    · exact hz h
  rw [hnum]
  have hpu := fun W (hW : ErrV W) => pu16_any r h0 hs hall W hW
  have hor : (¬ (((r[0]'h00).toNat : Nat) : Int) = 48) ∨ ((((r[0]'h00).toNat : Nat) : Int) = 48 ∧ r.toList = [48]) := by
    by_cases e : r[0]'h00 = 48
    · refine .inr ⟨by rw [e]; rfl, ?_⟩
      rw [ByteArray.toList_eq]
      refine Classical.byContradiction fun hne => hz ⟨by rw [hhd, e], hne⟩
    · exact .inl fun e2 => e (UInt8.toNat_inj.1 (by simpa using Int.ofNat.inj e2))
  clear hcon hc hnum hz hhd hnl
  obtain ⟨nf, hnf⟩ : ∃ nf, nf = numFrom 16 0 r.data.toList := ⟨_, rfl⟩
  rw [← hnf] at hpu ⊢
  clear hnf hall
  have Hpu := Lib.hid hpu
  have Hv := Lib.hid hv
  clear hpu hv
  rcases hor with hq | ⟨hq, hz⟩
  · cases nf with
    | some u =>
      go_enter Tryd.func11, Tryd.ntmps11
      go_wp2_with (first | (go_at_call 24; refine Hcut.out.mono ?_; rintro e w1 ⟨rfl, rfl⟩) | (go_at_call 25; refine Hc.out.mono ?_; rintro e w1 ⟨rfl, hb1⟩) | (go_at_call 26; refine (Hpu.out _ (Hv.out.below hb1)).mono ?_; rintro e w2 ⟨rfl, hb2⟩))
      go_ret2
      exact ⟨rfl, hb1.trans (hb2.mono hb1.size)⟩
    | none =>
      go_enter Tryd.func11, Tryd.ntmps11
      go_wp2_with (first | (go_at_call 24; refine Hcut.out.mono ?_; rintro e w1 ⟨rfl, rfl⟩) | (go_at_call 25; refine Hc.out.mono ?_; rintro e w1 ⟨rfl, hb1⟩) | (go_at_call 26; refine (Hpu.out _ (Hv.out.below hb1)).mono ?_; rintro e w2 ⟨⟨N, rfl⟩, hb2⟩))
      go_ret2
      exact ⟨rfl, hb1.trans (hb2.mono hb1.size)⟩
  · have hzb : (r.toList == [48]) = true := by simpa using hz
    cases nf with
    | some u =>
      go_enter Tryd.func11, Tryd.ntmps11
      go_wp2_with (first | (go_at_call 24; refine Hcut.out.mono ?_; rintro e w1 ⟨rfl, rfl⟩) | (go_at_call 25; refine Hc.out.mono ?_; rintro e w1 ⟨rfl, hb1⟩) | (go_at_call 26; refine (Hpu.out _ (Hv.out.below hb1)).mono ?_; rintro e w2 ⟨rfl, hb2⟩))
      go_ret2
      exact ⟨rfl, hb1.trans (hb2.mono hb1.size)⟩
    | none =>
      go_enter Tryd.func11, Tryd.ntmps11
      go_wp2_with (first | (go_at_call 24; refine Hcut.out.mono ?_; rintro e w1 ⟨rfl, rfl⟩) | (go_at_call 25; refine Hc.out.mono ?_; rintro e w1 ⟨rfl, hb1⟩) | (go_at_call 26; refine (Hpu.out _ (Hv.out.below hb1)).mono ?_; rintro e w2 ⟨⟨N, rfl⟩, hb2⟩))
      go_ret2
      exact ⟨rfl, hb1.trans (hb2.mono hb1.size)⟩

set_option maxHeartbeats 4000000 in
set_option maxRecDepth 100000 in
theorem number_10 (s r : ByteArray) (hs : r.size ≤ 281474976710656) (w : World) (hv : ErrV w)
    (hcut : Calls Tryd.prog 24 #[.string s, .string ⟨#[48, 120]⟩] w fun e w' => e = .returned (.tuple #[.string r, .bool false]) ∧ w' = w) :
    Calls Tryd.prog 11 #[.string s] w fun e w' => e = .returned (.tuple #[.int .u64 (((numRest 10 r.data.toList).getD 0 : Nat) : Int), .bool (numRest 10 r.data.toList).isSome]) ∧ Below w.heap.size w w' := by
  have Hcut := Lib.hid hcut
  clear hcut
  by_cases h0 : r.size = 0
  · have hl : r.data.toList = [] := size_nil h0
    have hnone : numRest 10 r.data.toList = none := by rw [hl]; rfl
    have hb : r.toList.isEmpty = true := by rw [ByteArray.toList_eq, hl]; rfl
    rw [hnone]
    clear hnone hl h0
    go_enter Tryd.func11, Tryd.ntmps11
    go_wp2_with (go_at_call 24; refine Hcut.out.mono ?_; rintro e w1 ⟨rfl, rfl⟩)
    go_ret2
    exact ⟨rfl, Below.refl _ _⟩
  have hnl : r.data.toList ≠ [] := fun h => h0 (by have := congrArg List.length h; rwa [Array.length_toList] at this)
  have hb : r.toList.isEmpty = false := by rw [ByteArray.toList_eq]; simpa using hnl
  have hcon := Any.strings_Trim_laid Tryd.lays160 (by kernel_rfl) r ⟨decS10.toArray⟩ w (by omega) (by decide) (ascii_of_all (by decide))
  by_cases hall : ∀ b ∈ r.data.toList, decS10.contains b = true
  case neg =>
    have hne2 : ¬ trimS r.data.toList decS10 = [] := fun h => hall ((trimS_nil _ _).1 h)
    have hcon' : ∃ q : ByteArray, q.toList.isEmpty = false ∧ Calls Tryd.prog 25 #[.string r, .string ⟨decS10.toArray⟩] w fun e w' => e = .returned (.string q) ∧ Below w.heap.size w w' := ⟨_, by rw [ByteArray.toList_eq]; simpa using hne2, hcon⟩
    obtain ⟨q, hr, hc⟩ := hcon'
    have hr2 : ¬ q.toList = [] := by simpa using hr
    have Hc := Lib.hid hc
    have hbad : ∃ b ∈ r.data.toList, decS10.contains b = false := by
      simpa using hall
    have hnone : numRest 10 r.data.toList = none := by
      unfold numRest
      split
      · rfl
      · exact numFrom_bad (.inl rfl) _ _ hbad
    rw [hnone]
    clear hcon hc hne2 hall hnone hnl hbad
    go_enter Tryd.func11, Tryd.ntmps11
    go_wp2_with (first | (go_at_call 24; refine Hcut.out.mono ?_; rintro e w1 ⟨rfl, rfl⟩) | (go_at_call 25; refine Hc.out.mono ?_; rintro e w1 ⟨rfl, hb1⟩))
    go_ret2
    exact ⟨rfl, hb1⟩
  have hc : Calls Tryd.prog 25 #[.string r, .string ⟨decS10.toArray⟩] w fun e w' => e = .returned (.string ⟨#[]⟩) ∧ Below w.heap.size w w' := by
    have := hcon
    rw [show (⟨decS10.toArray⟩ : ByteArray).data.toList = decS10 from rfl, (trimS_nil _ _).2 hall] at this
    exact this
  have Hc := Lib.hid hc
  have h00 : 0 < r.size := by omega
  have h00z : (0 : Int) < (r.size : Int) := by omega
  have hhd := head_get r h00
  by_cases hz : r.data.toList.head? = some 48 ∧ r.data.toList ≠ [48]
  · have hnone : numRest 10 r.data.toList = none := by unfold numRest; rw [if_pos (.inr hz)]
    rw [hnone]
    have hq : (((r[0]'h00).toNat : Nat) : Int) = 48 := by rw [hhd] at hz; rw [Option.some.inj hz.1]; rfl
    have hz2 : (r.toList == [48]) = false := by rw [ByteArray.toList_eq]; simpa using hz.2
    have hz3 : ¬ r.toList = [48] := by rw [ByteArray.toList_eq]; exact hz.2
    clear hcon hc hall hhd hnl hnone hz
    go_enter Tryd.func11, Tryd.ntmps11
    go_wp2_with (first | (go_at_call 24; refine Hcut.out.mono ?_; rintro e w1 ⟨rfl, rfl⟩) | (go_at_call 25; refine Hc.out.mono ?_; rintro e w1 ⟨rfl, hb1⟩))
    go_ret2
    exact ⟨rfl, hb1⟩
  have hnum : numRest 10 r.data.toList = numFrom 10 0 r.data.toList := by
    unfold numRest
    rw [if_neg]
    rintro (h | h)
    · exact hnl h
    · exact hz h
  rw [hnum]
  have hpu := fun W (hW : ErrV W) => pu10_any r h0 hs hall W hW
  have hor : (¬ (((r[0]'h00).toNat : Nat) : Int) = 48) ∨ ((((r[0]'h00).toNat : Nat) : Int) = 48 ∧ r.toList = [48]) := by
    by_cases e : r[0]'h00 = 48
    · refine .inr ⟨by rw [e]; rfl, ?_⟩
      rw [ByteArray.toList_eq]
      refine Classical.byContradiction fun hne => hz ⟨by rw [hhd, e], hne⟩
    · exact .inl fun e2 => e (UInt8.toNat_inj.1 (by simpa using Int.ofNat.inj e2))
  clear hcon hc hnum hz hhd hnl
  obtain ⟨nf, hnf⟩ : ∃ nf, nf = numFrom 10 0 r.data.toList := ⟨_, rfl⟩
  rw [← hnf] at hpu ⊢
  clear hnf hall
  have Hpu := Lib.hid hpu
  have Hv := Lib.hid hv
  clear hpu hv
  rcases hor with hq | ⟨hq, hz⟩
  · cases nf with
    | some u =>
      go_enter Tryd.func11, Tryd.ntmps11
      go_wp2_with (first | (go_at_call 24; refine Hcut.out.mono ?_; rintro e w1 ⟨rfl, rfl⟩) | (go_at_call 25; refine Hc.out.mono ?_; rintro e w1 ⟨rfl, hb1⟩) | (go_at_call 26; refine (Hpu.out _ (Hv.out.below hb1)).mono ?_; rintro e w2 ⟨rfl, hb2⟩))
      go_ret2
      exact ⟨rfl, hb1.trans (hb2.mono hb1.size)⟩
    | none =>
      go_enter Tryd.func11, Tryd.ntmps11
      go_wp2_with (first | (go_at_call 24; refine Hcut.out.mono ?_; rintro e w1 ⟨rfl, rfl⟩) | (go_at_call 25; refine Hc.out.mono ?_; rintro e w1 ⟨rfl, hb1⟩) | (go_at_call 26; refine (Hpu.out _ (Hv.out.below hb1)).mono ?_; rintro e w2 ⟨⟨N, rfl⟩, hb2⟩))
      go_ret2
      exact ⟨rfl, hb1.trans (hb2.mono hb1.size)⟩
  · have hzb : (r.toList == [48]) = true := by simpa using hz
    cases nf with
    | some u =>
      go_enter Tryd.func11, Tryd.ntmps11
      go_wp2_with (first | (go_at_call 24; refine Hcut.out.mono ?_; rintro e w1 ⟨rfl, rfl⟩) | (go_at_call 25; refine Hc.out.mono ?_; rintro e w1 ⟨rfl, hb1⟩) | (go_at_call 26; refine (Hpu.out _ (Hv.out.below hb1)).mono ?_; rintro e w2 ⟨rfl, hb2⟩))
      go_ret2
      exact ⟨rfl, hb1.trans (hb2.mono hb1.size)⟩
    | none =>
      go_enter Tryd.func11, Tryd.ntmps11
      go_wp2_with (first | (go_at_call 24; refine Hcut.out.mono ?_; rintro e w1 ⟨rfl, rfl⟩) | (go_at_call 25; refine Hc.out.mono ?_; rintro e w1 ⟨rfl, hb1⟩) | (go_at_call 26; refine (Hpu.out _ (Hv.out.below hb1)).mono ?_; rintro e w2 ⟨⟨N, rfl⟩, hb2⟩))
      go_ret2
      exact ⟨rfl, hb1.trans (hb2.mono hb1.size)⟩

theorem number_any (s : ByteArray) (hs : s.size ≤ 281474976710656) (w : World) (hv : ErrV w) :
    Calls Tryd.prog 11 #[.string s] w fun e w' => e = .returned (.tuple #[.int .u64 (((numOf s.data.toList).getD 0 : Nat) : Int), .bool (numOf s.data.toList).isSome]) ∧ Below w.heap.size w w' := by
  have hcut := Any.strings_CutPrefix Tryd.lays103 s ⟨#[48, 120]⟩ w
  rw [show (⟨#[48, 120]⟩ : ByteArray).data.toList = [48, 120] from rfl] at hcut
  unfold numOf
  cases hp : hasPrefix s.data.toList [48, 120] with
  | true =>
    rw [if_pos rfl]
    rw [hp] at hcut
    have := number_16 s ⟨(trimPrefix s.data.toList [48, 120]).toArray⟩ (by
      have := size_trimPrefix s.data.toList [48, 120]
      rw [Array.length_toList] at this
      show (trimPrefix s.data.toList [48, 120]).toArray.size ≤ _
      rw [List.size_toArray]
      exact Nat.le_trans this hs) w hv hcut
    exact this
  | false =>
    rw [if_neg (by decide)]
    have he : trimPrefix s.data.toList [48, 120] = s.data.toList := by unfold trimPrefix; rw [hp]; rfl
    rw [hp, he] at hcut
    exact number_10 s s hs w hv hcut

/-- What an argument's name says. -/
def argOf (l : List UInt8) : Nat × Nat :=
  if hasPrefix l [97] = false ∨ trimPrefix l [97] = [] ∨ ¬ (∀ b ∈ trimPrefix l [97], decS10.contains b = true) then (0, 13)
  else if 1 < (trimPrefix l [97]).length ∨ 53 < ((trimPrefix l [97]).getD 0 0).toNat then (0, 16) else (((trimPrefix l [97]).getD 0 0).toNat - 48, 0)

end Go.Proofs.YtlmobmbglninkaaDoor
