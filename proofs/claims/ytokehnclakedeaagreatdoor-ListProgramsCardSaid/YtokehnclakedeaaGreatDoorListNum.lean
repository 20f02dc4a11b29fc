/- list.number at every text. -/
import Derived.Test.YtokehnclakedeaaGreatDoorListNeed
import Derived.Test.YtokehnclakedeaaGreatDoorCondNumP
import Derived.Test.YtokehnclakedeaaGreatDoorListFu
import Derived.Shelf.Strings.SlTrimAscii
import Derived.Shelf.Pu.ParseUintPublic10
namespace Go.Proofs.YtokehnclakedeaaGreatDoor
open Go Go.Proofs Go.RowKit Go.Shelf Go.Lib

/-- A number of so many bits. -/
def numV (l : List UInt8) (bits : Nat) : Option Nat := if l.length ≤ 10 then (numRest 10 l).bind (fun n => if n < 2 ^ bits then some n else none) else none
def numEnd (o : Option Nat) (e : Ending) : Prop := match o with | some n => e = .returned (.int .u32 (n : Int)) | none => e = .panicked wrongP
theorem head_get (s : ByteArray) (h : 0 < s.size) : s.data.toList.head? = some (s[0]'h) := by
  rw [List.head?_eq_getElem?, List.getElem?_eq_getElem (by rw [Array.length_toList]; exact h)]
  rfl
theorem size_nil {s : ByteArray} (h : s.size = 0) : s.data.toList = [] := List.eq_nil_of_length_eq_zero (by rw [Array.length_toList]; exact h)
theorem numFrom_bound : ∀ (l : List UInt8) (acc n : Nat), numFrom 10 acc l = some n → n < (acc + 1) * 10 ^ l.length
  | [], acc, n, h => by
    simp only [numFrom, Option.some.injEq] at h
    simp
    omega
  | c :: r, acc, n, h => by
    unfold numFrom at h
    split at h
    · rename_i d hd
      split at h
      · rename_i hlt
        have := numFrom_bound r _ n h
        rw [List.length_cons, Nat.pow_succ]
        have e : (acc * 10 + d + 1) * 10 ^ r.length ≤ (acc + 1) * 10 * 10 ^ r.length := Nat.mul_le_mul_right _ (by omega)
        calc n < _ := this
          _ ≤ _ := e
          _ = _ := by rw [Nat.mul_assoc, Nat.mul_comm 10]
      · cases h
    · cases h
theorem parse_ok {s : ByteArray} (hne : s.data.toList ≠ []) (hall : ∀ b ∈ s.data.toList, decS10.contains b = true) (hl : s.data.toList.length ≤ 10) : ∃ u, numFrom 10 0 s.data.toList = some u ∧ parseUintB 64 s.data.toList = .ok u := by
  rcases parse_dec0 hall hne with h | ⟨h, _⟩
  · exact h
  · exfalso
    -- ten digits are below 2^64
    have key : ∀ (l : List UInt8) (acc : Nat), (∀ b ∈ l, decS10.contains b = true) → (acc + 1) * 10 ^ l.length ≤ 18446744073709551616 → numFrom 10 acc l ≠ none := by
      intro l
      induction l with
      | nil => intro acc _ _ h; cases h
      | cons c r ih =>
        intro acc hd hb h
        have hc := hd c (by simp)
        have hfig := base_fig (.inl rfl) c
        rw [show baseS 10 = decS10 from rfl, hc] at hfig
        unfold numFrom at h
        split at hfig
        · rename_i d hfd
          have hd10 : d < 10 := by simpa using hfig.symm
          rw [hfd] at h
          dsimp only at h
          rw [List.length_cons, Nat.pow_succ] at hb
          have e : (acc * 10 + d + 1) * 10 ^ r.length ≤ (acc + 1) * 10 * 10 ^ r.length := Nat.mul_le_mul_right _ (by omega)
          have e2 : (acc + 1) * 10 * 10 ^ r.length = (acc + 1) * (10 ^ r.length * 10) := by rw [Nat.mul_assoc, Nat.mul_comm 10]
          have e3 : 1 ≤ 10 ^ r.length := Nat.pow_pos (by decide)
          have e4 : acc * 10 + d + 1 ≤ (acc * 10 + d + 1) * 10 ^ r.length := Nat.le_mul_of_pos_right _ e3
          rw [if_pos ⟨hd10, by omega⟩] at h
          exact ih _ (fun b hb => hd b (by simp [hb])) (by omega) h
        · cases hfig
    refine key _ 0 hall ?_ h
    calc (0 + 1) * 10 ^ s.data.toList.length ≤ 1 * 10 ^ 10 := by rw [Nat.zero_add]; exact Nat.mul_le_mul_left _ (Nat.pow_le_pow_right (by decide) hl)
      _ ≤ _ := by decide

set_option maxHeartbeats 8000000 in
set_option maxRecDepth 100000 in
theorem number3_any (r : ByteArray) (bits : Nat) (hbits : bits = 8 ∨ bits = 16 ∨ bits = 32) (hs : r.size ≤ 281474976710656) (w : World) :
    Calls Tryz.prog 34 #[.string r, .int .i64 (bits : Int)] w fun e w' => numEnd (numV r.data.toList bits) e ∧ Below w.heap.size w w' := by
  have hlen : r.data.toList.length = r.size := Array.length_toList
  by_cases h0 : r.size = 0
  · have hl : r.data.toList = [] := size_nil h0
    have hnone : numV r.data.toList bits = none := by rw [hl]; rfl
    have hb : r.toList.isEmpty = true := by rw [ByteArray.toList_eq, hl]; rfl
    rw [hnone]
    clear hnone hl h0 hlen
    go_enter Tryz.func34, Tryz.ntmps34
    go_wp2_with fail
    refine (need_false _).mono ?_
    rintro e w1 ⟨rfl, rfl⟩
    go_wp2
    exact ⟨rfl, rfl, Below.refl _ _⟩
  have hnl : r.data.toList ≠ [] := fun h => h0 (by rw [← hlen, h]; rfl)
  have hb : r.toList.isEmpty = false := by rw [ByteArray.toList_eq]; simpa using hnl
  have hbn : ¬ r.toList = [] := by rw [ByteArray.toList_eq]; exact hnl
  by_cases h10 : 10 < r.size
  · have hnone : numV r.data.toList bits = none := by unfold numV; rw [if_neg (by omega)]
    have hz : ¬ (r.size : Int) ≤ 10 := by omega
    have hzb : decide ((r.size : Int) ≤ 10) = false := decide_eq_false hz
    rw [hnone]
    clear hnone hnl hlen
    go_enter Tryz.func34, Tryz.ntmps34
    go_wp2_with fail
    refine (need_false _).mono ?_
    rintro e w1 ⟨rfl, rfl⟩
    go_wp2
    exact ⟨rfl, rfl, Below.refl _ _⟩
  have hz10 : (r.size : Int) ≤ 10 := by omega
  have hcon := Any.strings_Trim_laid Tryz.lays160 (by kernel_rfl) r ⟨decS10.toArray⟩ w (by omega) (by decide) (ascii_of_all (by decide))
  by_cases hall : ∀ b ∈ r.data.toList, decS10.contains b = true
  case neg =>
    have hne2 : ¬ trimS r.data.toList decS10 = [] := fun h => hall ((trimS_nil _ _).1 h)
    have hcon' : ∃ q : ByteArray, q.toList.isEmpty = false ∧ Calls Tryz.prog 47 #[.string r, .string ⟨decS10.toArray⟩] w fun e w' => e = .returned (.string q) ∧ Below w.heap.size w w' := ⟨_, by rw [ByteArray.toList_eq]; simpa using hne2, hcon⟩
    obtain ⟨q, hr, hc⟩ := hcon'
    have hr2 : ¬ q.toList = [] := by simpa using hr
    have Hc := Lib.hid hc
    have hbad : ∃ b ∈ r.data.toList, decS10.contains b = false := by simpa using hall
    have hnone : numV r.data.toList bits = none := by
      unfold numV
      rw [if_pos (by omega)]
      have : numRest 10 r.data.toList = none := by
        unfold numRest
        split
        · rfl
        · exact numFrom_bad (.inl rfl) _ _ hbad
      rw [this]
      rfl
    rw [hnone]
    clear hcon hc hne2 hall hnone hnl hbad hlen
    go_enter Tryz.func34, Tryz.ntmps34
    go_wp2_with fail
    refine Hc.out.mono ?_
    rintro e w1 ⟨rfl, hb1⟩
    go_wp2_with fail
    refine (need_false _).mono ?_
    rintro e w2 ⟨rfl, rfl⟩
    go_wp2
    exact ⟨rfl, rfl, hb1⟩
  have hc : Calls Tryz.prog 47 #[.string r, .string ⟨decS10.toArray⟩] w fun e w' => e = .returned (.string ⟨#[]⟩) ∧ Below w.heap.size w w' := by
    have := hcon
    rw [show (⟨decS10.toArray⟩ : ByteArray).data.toList = decS10 from rfl, (trimS_nil _ _).2 hall] at this
    exact this
  have Hc := Lib.hid hc
  have h00 : 0 < r.size := by omega
  have h00z : (0 : Int) < (r.size : Int) := by omega
  have hhd := head_get r h00
  by_cases hz : r.data.toList.head? = some 48 ∧ r.data.toList ≠ [48]
  · have hnone : numV r.data.toList bits = none := by
      unfold numV
      rw [if_pos (by omega)]
      have : numRest 10 r.data.toList = none := by unfold numRest; rw [if_pos (.inr hz)]
      rw [this]
      rfl
    rw [hnone]
    have hq : (((r[0]'h00).toNat : Nat) : Int) = 48 := by rw [hhd] at hz; rw [Option.some.inj hz.1]; rfl
    have hz2 : (r.toList == [48]) = false := by rw [ByteArray.toList_eq]; simpa using hz.2
    have hz3 : ¬ r.toList = [48] := by rw [ByteArray.toList_eq]; exact hz.2
    clear hcon hc hall hhd hnl hnone hz hlen
    go_enter Tryz.func34, Tryz.ntmps34
    go_wp2_with fail
    refine Hc.out.mono ?_
    rintro e w1 ⟨rfl, hb1⟩
    go_wp2_with fail
    refine (need_false _).mono ?_
    rintro e w2 ⟨rfl, rfl⟩
    go_wp2
    exact ⟨rfl, rfl, hb1⟩
  obtain ⟨u, hu, hpu⟩ := parse_ok hnl hall (by omega)
  have hnum : numV r.data.toList bits = if u < 2 ^ bits then some u else none := by
    unfold numV
    rw [if_pos (by omega)]
    have : numRest 10 r.data.toList = some u := by
      unfold numRest
      rw [if_neg]
      · exact hu
      · rintro (h | h)
        · exact hnl h
        · exact hz h
    rw [this]
    rfl
  rw [hnum]
  have hpa : ∀ W, Calls Tryz.prog 48 #[.string r, .int .i64 10, .int .i64 64] W fun e w' => e = .returned (.tuple #[.int .u64 (u : Int), .nilIface]) ∧ Below W.heap.size W w' := fun W => (Any.strconv_ParseUint_10_at64_ok Tryz.layspu14 r (by omega) u hpu W).mono (by
    rintro e w' ⟨rfl, h⟩
    refine ⟨rfl, ?_⟩
    rcases h with rfl | rfl
    · exact Below.refl _ _
    · exact Lib.bytesWorld_below _ _ _)
  have Hpu := Lib.hid hpa
  have hu10 : u < 10000000000 := by
    have h1 := numFrom_bound _ _ _ hu
    have h2 : 10 ^ r.data.toList.length ≤ 10 ^ 10 := Nat.pow_le_pow_right (by decide) (by omega)
    omega
  have hor : (¬ (((r[0]'h00).toNat : Nat) : Int) = 48) ∨ ((((r[0]'h00).toNat : Nat) : Int) = 48 ∧ r.toList = [48]) := by
    by_cases e : r[0]'h00 = 48
    · refine .inr ⟨by rw [e]; rfl, ?_⟩
      rw [ByteArray.toList_eq]
      refine Classical.byContradiction fun hne => hz ⟨by rw [hhd, e], hne⟩
    · exact .inl fun e2 => e (UInt8.toNat_inj.1 (by simpa using Int.ofNat.inj e2))
  have hor : ((r.toList == [48]) = false ∧ ¬ r.toList = [48] ∧ ((((r[0]'h00).toNat : Nat) : Int) != 48) = true) ∨ ((r.toList == [48]) = true ∧ r.toList = [48]) := by
    by_cases e : r.toList = [48]
    · exact .inr ⟨by simpa using e, e⟩
    · refine .inl ⟨by simpa using e, e, ?_⟩
      have := hor.resolve_right (fun h => e h.2)
      simpa using this
  clear hcon hc hnum hz hhd hnl hall hu hpu hpa hlen
  obtain ⟨B2, hB2⟩ : ∃ B2 : Nat, B2 = 2 ^ bits := ⟨_, rfl⟩
  rw [← hB2]
  have hwu : IntKind.u64.wrap (u : Int) = (u : Int) := by rw [IntKind.wrap_u64]; omega
  by_cases hlt : u < B2
  · rw [if_pos hlt]
    have hw32 : IntKind.u32.wrap (u : Int) = (u : Int) := by rw [IntKind.wrap_u32]; rcases hbits with rfl | rfl | rfl <;> omega
    rcases hbits with rfl | rfl | rfl
    all_goals
      have hz1 : (u : Int) < (B2 : Int) := by omega
      subst hB2
      simp at hz1
      rcases hor with ⟨n1, n2, n3⟩ | ⟨n1, n2⟩
      all_goals
        go_enter Tryz.func34, Tryz.ntmps34
        go_wp2_with fail
        refine Hc.out.mono ?_
        rintro e w1 ⟨rfl, hb1⟩
        go_wp2_with fail
        refine (need_true _).mono ?_
        rintro e w2 ⟨rfl, rfl⟩
        go_wp2_with fail
        refine (Hpu.out _).mono ?_
        rintro e w3 ⟨rfl, hb3⟩
        go_wp2_with fail
        refine (need_true _).mono ?_
        rintro e w4 ⟨rfl, rfl⟩
        go_wp2
        go_ret
        exact ⟨rfl, hb1.trans (hb3.mono hb1.size)⟩
  · rw [if_neg hlt]
    rcases hbits with rfl | rfl | rfl
    · have hdz : decide ((u : Int) < 256) = false := decide_eq_false (by rw [hB2] at hlt; omega)
      have hdn : ¬ (u : Int) < 256 := by simpa using hdz
      clear hlt hB2
      rcases hor with ⟨n1, n2, n3⟩ | ⟨n1, n2⟩
      all_goals
        go_enter Tryz.func34, Tryz.ntmps34
        go_wp2_with fail
        refine Hc.out.mono ?_
        rintro e w1 ⟨rfl, hb1⟩
        go_wp2_with fail
        refine (need_true _).mono ?_
        rintro e w2 ⟨rfl, rfl⟩
        go_wp2_with fail
        refine (Hpu.out _).mono ?_
        rintro e w3 ⟨rfl, hb3⟩
        go_wp2_with fail
        refine (need_false _).mono ?_
        rintro e w4 ⟨rfl, rfl⟩
        go_wp2
        exact ⟨rfl, rfl, hb1.trans (hb3.mono hb1.size)⟩
    · have hdz : decide ((u : Int) < 65536) = false := decide_eq_false (by rw [hB2] at hlt; omega)
      have hdn : ¬ (u : Int) < 65536 := by simpa using hdz
      clear hlt hB2
      rcases hor with ⟨n1, n2, n3⟩ | ⟨n1, n2⟩
      all_goals
        go_enter Tryz.func34, Tryz.ntmps34
        go_wp2_with fail
        refine Hc.out.mono ?_
        rintro e w1 ⟨rfl, hb1⟩
        go_wp2_with fail
        refine (need_true _).mono ?_
        rintro e w2 ⟨rfl, rfl⟩
        go_wp2_with fail
        refine (Hpu.out _).mono ?_
        rintro e w3 ⟨rfl, hb3⟩
        go_wp2_with fail
        refine (need_false _).mono ?_
        rintro e w4 ⟨rfl, rfl⟩
        go_wp2
        exact ⟨rfl, rfl, hb1.trans (hb3.mono hb1.size)⟩
    · have hdz : decide ((u : Int) < 4294967296) = false := decide_eq_false (by rw [hB2] at hlt; omega)
      have hdn : ¬ (u : Int) < 4294967296 := by simpa using hdz
      clear hlt hB2
      rcases hor with ⟨n1, n2, n3⟩ | ⟨n1, n2⟩
      all_goals
        go_enter Tryz.func34, Tryz.ntmps34
        go_wp2_with fail
        refine Hc.out.mono ?_
        rintro e w1 ⟨rfl, hb1⟩
        go_wp2_with fail
        refine (need_true _).mono ?_
        rintro e w2 ⟨rfl, rfl⟩
        go_wp2_with fail
        refine (Hpu.out _).mono ?_
        rintro e w3 ⟨rfl, hb3⟩
        go_wp2_with fail
        refine (need_false _).mono ?_
        rintro e w4 ⟨rfl, rfl⟩
        go_wp2
        exact ⟨rfl, rfl, hb1.trans (hb3.mono hb1.size)⟩
end Go.Proofs.YtokehnclakedeaaGreatDoor
