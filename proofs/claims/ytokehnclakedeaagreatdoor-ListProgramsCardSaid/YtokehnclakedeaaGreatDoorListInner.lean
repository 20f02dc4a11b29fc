/- list: a form's inner. -/
import Derived.Test.YtokehnclakedeaaGreatDoorListFn
import Derived.Test.YtokehnclakedeaaGreatDoorListPlain
import Derived.Test.YtokehnclakedeaaGreatDoorListNum
import Derived.Test.YtokehnclakedeaaGreatDoorCut1
import Derived.Shelf.Small.Wraps
import Derived.Deep.QuietTactic
import Derived.BigQuiet
namespace Go.Proofs.YtokehnclakedeaaGreatDoor
open Go Go.Proofs Go.RowKit Go.Shelf

def preT (t : Nat) : List UInt8 := if t = 1 then [91] else if t = 2 then [109, 91] else if t = 7 then [35] else []
def postT (t : Nat) : List UInt8 := if t = 1 ∨ t = 2 then [93] else []
def digH (l : List UInt8) : Bool := match l with | [] => false | c :: _ => decide (48 ≤ c.toNat) && decide (c.toNat ≤ 57)
def innerK (t : Nat) (s : List UInt8) : List UInt8 := Lib.trimSuffix (Lib.trimPrefix s (preT t)) (postT t)
/-- The number's text in a form's other word; is it the form's? -/
def innerV (t : Nat) (o s : List UInt8) : List UInt8 × Bool :=
  if tagB t = true then (innerK t s, Lib.hasPrefix s (preT t) && Lib.hasSuffix (Lib.trimPrefix s (preT t)) (postT t) && digH (innerK t s)) else ([], s == o)
theorem cut_form {o : ByteArray} (ht : formTag o ≠ 8) (hb : tagB (formTag o) = true) : cutV 0 (writtenF o ⟨#[0]⟩).data.toList = (preT (formTag o), postT (formTag o), true) := by
  have h : (formTag o = 1 ∧ o = ⟨#[91, 93]⟩) ∨ (formTag o = 2 ∧ o = ⟨#[109, 91, 93]⟩) ∨ (formTag o = 7 ∧ o = ⟨#[35]⟩) ∨ (formTag o = 5 ∧ o = ⟨#[107]⟩) := by
    unfold formTag at ht hb ⊢
    by_cases h1 : o = ⟨#[91, 93]⟩
    · rw [if_pos h1]; exact .inl ⟨rfl, h1⟩
    rw [if_neg h1] at ht hb ⊢
    by_cases h2 : o = ⟨#[109, 91, 93]⟩
    · rw [if_pos h2]; exact .inr (.inl ⟨rfl, h2⟩)
    rw [if_neg h2] at ht hb ⊢
    by_cases h3 : o = ⟨#[35]⟩
    · rw [if_pos h3]; exact .inr (.inr (.inl ⟨rfl, h3⟩))
    rw [if_neg h3] at ht hb ⊢
    by_cases h4 : o = ⟨#[107]⟩
    · rw [if_pos h4]; exact .inr (.inr (.inr ⟨rfl, h4⟩))
    rw [if_neg h4] at ht hb ⊢
    exfalso
    repeat' split at hb
    all_goals first | exact absurd hb (by decide) | exact ht rfl | (simp_all)
  rcases h with ⟨h, rfl⟩ | ⟨h, rfl⟩ | ⟨h, rfl⟩ | ⟨h, rfl⟩ <;> rw [h] <;> decide +kernel
theorem trimSuffix_len (l p : List UInt8) : (Lib.trimSuffix l p).length ≤ l.length := by
  unfold Lib.trimSuffix
  split
  · rw [List.length_take]; omega
  · omega
theorem trimPrefix_len (l p : List UInt8) : (Lib.trimPrefix l p).length ≤ l.length := by
  unfold Lib.trimPrefix
  split
  · rw [List.length_drop]; omega
  · omega

set_option maxRecDepth 100000 in
set_option maxHeartbeats 4000000 in
theorem inner_any (fw fo s : ByteArray) (fc : Int) (fx fj : Bool) (ht : formTag fo ≤ 7) (hn : numberedF fo = tagB (formTag fo)) (ho : fo.size ≤ 100) (has : ∀ b ∈ fo.data.toList, b.toNat < 128) (hs : s.size ≤ 1000000) (w : World) :
    Calls Tryz.prog 49 #[.agg #[.string fw, .string fo, .int .u16 fc, .bool fx, .bool fj], .string s] w fun e w' => e = .returned (.tuple #[.string ⟨(innerV (formTag fo) fo.data.toList s.data.toList).1.toArray⟩, .bool (innerV (formTag fo) fo.data.toList s.data.toList).2]) ∧ Below w.heap.size w w' := by
  have hB := Blk.new w 62 #[.string fw, .string fo, .int .u16 fc, .bool fx, .bool fj]
  have hb := (Below.refl w.heap.size w).alloc (Nat.le_refl _) (.cells #[.string fw, .string fo, .int .u16 fc, .bool fx, .bool fj] 62)
  have Hnu := Lib.hid (fun W => numbered_any fw fo fc fx fj ho has W)
  rw [hn] at Hnu
  have HBK := Lib.hid hB
  have HB := Lib.hid hb
  have f0 := HBK.out.cell 0
  have f1 := HBK.out.cell 1
  have f2 := HBK.out.cell 2
  have f3 := HBK.out.cell 3
  have f4 := HBK.out.cell 4
  simp only [List.getElem?_toArray, List.getElem?_cons_zero, List.getElem?_cons_succ] at f0 f1 f2 f3 f4
  clear hB hb
  cases htb : tagB (formTag fo) with
  | false =>
    rw [htb] at Hnu
    have hv : innerV (formTag fo) fo.data.toList s.data.toList = ([], s.data.toList == fo.data.toList) := by unfold innerV; rw [htb]; rfl
    rw [hv]
    dsimp only
    rw [← ByteArray.toList_eq, ← ByteArray.toList_eq]
    clear hv htb hn ht
    go_enter Tryz.func49, Tryz.ntmps49
    go_wp2_with fail
    refine (Hnu.out _).mono ?_
    rintro e w1 ⟨rfl, hb1⟩
    have HB1 := Lib.hid (HB.out.trans (hb1.mono HB.out.size))
    have HK1 := Lib.hid (HBK.out.below hb1 HBK.out.lt)
    clear f0 f1 f2 f3 f4 hb1
    have f1 := HK1.out.cell 1
    simp only [List.getElem?_toArray, List.getElem?_cons_zero, List.getElem?_cons_succ] at f1
    go_upto_region 2 with fail
    go_quiet (fail)
    go_wp2
    go_ret2
    exact ⟨rfl, ⟨HB1.out.os, HB1.out.tape, HB1.out.output, HB1.out.size, HB1.out.block⟩⟩
  | true =>
    rw [htb] at Hnu
    have hcv := cut_form (by omega) htb
    have hwz : (writtenF fo ⟨#[0]⟩).size ≤ 1000000 := by
      unfold writtenF
      have h0 : (⟨#[0]⟩ : ByteArray).size = 1 := rfl
      have h1 : (⟨#[91]⟩ : ByteArray).size = 1 := rfl
      have h2 : (⟨#[93]⟩ : ByteArray).size = 1 := rfl
      have h3 : (⟨#[109, 91]⟩ : ByteArray).size = 2 := rfl
      have h4 : (⟨#[35]⟩ : ByteArray).size = 1 := rfl
      repeat' split
      all_goals (first | (simp only [ByteArray.size_append, h0, h1, h2, h3, h4]; omega) | omega)
    have hcut := fun W => cut1_any (writtenF fo ⟨#[0]⟩) 0 hwz W
    rw [hcv] at hcut
    dsimp only at hcut
    have hwr := fun W => written_any fw fo ⟨#[0]⟩ fc fx fj (by decide) W
    have hcp := fun W => Any.strings_CutPrefix Tryz.lays103 s ⟨(preT (formTag fo)).toArray⟩ W
    have hcs := fun W => Any.strings_CutSuffix Tryz.lays104 ⟨(Lib.trimPrefix s.data.toList (preT (formTag fo))).toArray⟩ ⟨(postT (formTag fo)).toArray⟩ W (by
      have := trimPrefix_len s.data.toList (preT (formTag fo))
      have e : s.data.toList.length = s.size := Array.length_toList
      show (Lib.trimPrefix s.data.toList (preT (formTag fo))).toArray.size ≤ _
      rw [List.size_toArray]
      omega)
    have hcp : ∀ W, Calls Tryz.prog 68 #[.string s, .string ⟨(preT (formTag fo)).toArray⟩] W fun e w' => e = .returned (.tuple #[.string ⟨(Lib.trimPrefix s.data.toList (preT (formTag fo))).toArray⟩, .bool (Lib.hasPrefix s.data.toList (preT (formTag fo)))]) ∧ w' = W := hcp
    have hcs : ∀ W, Calls Tryz.prog 69 #[.string ⟨(Lib.trimPrefix s.data.toList (preT (formTag fo))).toArray⟩, .string ⟨(postT (formTag fo)).toArray⟩] W fun e w' => e = .returned (.tuple #[.string ⟨(innerK (formTag fo) s.data.toList).toArray⟩, .bool (Lib.hasSuffix (Lib.trimPrefix s.data.toList (preT (formTag fo))) (postT (formTag fo)))]) ∧ w' = W := hcs
    have hv : innerV (formTag fo) fo.data.toList s.data.toList = (innerK (formTag fo) s.data.toList, Lib.hasPrefix s.data.toList (preT (formTag fo)) && Lib.hasSuffix (Lib.trimPrefix s.data.toList (preT (formTag fo))) (postT (formTag fo)) && digH (innerK (formTag fo) s.data.toList)) := by unfold innerV; rw [if_pos htb]
    rw [hv]
    dsimp only
    obtain ⟨K, hK⟩ : ∃ K : ByteArray, (⟨(innerK (formTag fo) s.data.toList).toArray⟩ : ByteArray) = K := ⟨_, rfl⟩
    have hKl : innerK (formTag fo) s.data.toList = K.data.toList := by rw [← hK]
    rw [hK] at hcs ⊢
    rw [hKl]
    generalize (⟨(Lib.trimPrefix s.data.toList (preT (formTag fo))).toArray⟩ : ByteArray) = R1 at hcp hcs
    generalize Lib.hasSuffix (Lib.trimPrefix s.data.toList (preT (formTag fo))) (postT (formTag fo)) = b2 at *
    generalize Lib.hasPrefix s.data.toList (preT (formTag fo)) = b1 at *
    generalize (⟨(preT (formTag fo)).toArray⟩ : ByteArray) = P1 at *
    generalize (⟨(postT (formTag fo)).toArray⟩ : ByteArray) = P2 at *
    generalize writtenF fo ⟨#[0]⟩ = WR at *
    have HCUT := Lib.hid hcut
    have HWR := Lib.hid hwr
    have HCP := Lib.hid hcp
    have HCS := Lib.hid hcs
    clear hcut hwr hcp hcs hv hcv htb hn ht hK hKl
    have hcases : (b1 = false) ∨ (b1 = true ∧ b2 = false) ∨ (b1 = true ∧ b2 = true ∧ K.size = 0) ∨ (∃ h : 0 < K.size, b1 = true ∧ b2 = true) := by
      cases b1
      · exact .inl rfl
      · cases b2
        · exact .inr (.inl ⟨rfl, rfl⟩)
        · by_cases h : K.size = 0
          · exact .inr (.inr (.inl ⟨rfl, rfl, h⟩))
          · exact .inr (.inr (.inr ⟨by omega, rfl, rfl⟩))
    go_enter Tryz.func49, Tryz.ntmps49
    go_wp2_with fail
    refine (Hnu.out _).mono ?_
    rintro e w1 ⟨rfl, hb1⟩
    have HB1 := Lib.hid (HB.out.trans (hb1.mono HB.out.size))
    have HK1 := Lib.hid (HBK.out.below hb1 HBK.out.lt)
    clear f0 f1 f2 f3 f4 hb1
    have f0 := HK1.out.cell 0
    have f1 := HK1.out.cell 1
    have f2 := HK1.out.cell 2
    have f3 := HK1.out.cell 3
    have f4 := HK1.out.cell 4
    simp only [List.getElem?_toArray, List.getElem?_cons_zero, List.getElem?_cons_succ] at f0 f1 f2 f3 f4
    go_wp2_with fail
    refine (HWR.out _).mono ?_
    rintro e w2 ⟨rfl, hb2⟩
    have HB2 := Lib.hid (HB1.out.trans (hb2.mono HB1.out.size))
    clear f0 f1 f2 f3 f4 hb2 HB1 HK1
    go_wp2_with fail
    refine (HCUT.out _).mono ?_
    rintro e w3 ⟨rfl, hb3⟩
    have HB3 := Lib.hid (HB2.out.trans (hb3.mono HB2.out.size))
    clear hb3 HB2
    go_wp2_with fail
    refine (HCP.out _).mono ?_
    rintro e w4 ⟨rfl, rfl⟩
    go_wp2_with fail
    refine (HCS.out _).mono ?_
    rintro e w5 ⟨rfl, rfl⟩
    go_upto_region 6 with fail
    rcases hcases with rfl | ⟨rfl, rfl⟩ | ⟨rfl, rfl, hk⟩ | ⟨hk, rfl, rfl⟩
    · go_quiet (fail)
      go_wp2
      go_ret2
      exact ⟨rfl, ⟨HB3.out.os, HB3.out.tape, HB3.out.output, HB3.out.size, HB3.out.block⟩⟩
    · go_quiet (fail)
      go_wp2
      go_ret2
      exact ⟨rfl, ⟨HB3.out.os, HB3.out.tape, HB3.out.output, HB3.out.size, HB3.out.block⟩⟩
    · have hl : K.data.toList = [] := size_nil hk
      have he : K.toList.isEmpty = true := by rw [ByteArray.toList_eq, hl]; rfl
      have hd : Hid (digH K.data.toList = false) := by show _ = _; rw [hl]; rfl
      clear hl hk
      go_quiet (fail)
      go_wp2
      go_ret2
      exact ⟨by rw [hd.out]; rfl, ⟨HB3.out.os, HB3.out.tape, HB3.out.output, HB3.out.size, HB3.out.block⟩⟩
    · have hl : K.data.toList ≠ [] := fun h => by have e : K.data.toList.length = K.size := Array.length_toList; rw [h] at e; simp at e; omega
      have he : K.toList.isEmpty = false := by rw [ByteArray.toList_eq]; simpa using hl
      have hk0 : (0 : Int) < (K.size : Int) := by omega
      have hd : Hid (digH K.data.toList = (decide (48 ≤ (K[0]'hk).toNat) && decide ((K[0]'hk).toNat ≤ 57))) := by
        show _ = _
        have hh := head_get K hk
        cases hx : K.data.toList with
        | nil => exact absurd hx hl
        | cons a r =>
          rw [hx] at hh
          have : a = K[0]'hk := Option.some.inj hh
          rw [← this]
          rfl
      clear hl
      have hc2 : (Hid ((K[0]'hk).toNat < 48) ∧ decide ((48 : Int) ≤ (((K[0]'hk).toNat : Nat) : Int)) = false) ∨ (Hid (48 ≤ (K[0]'hk).toNat ∧ 57 < (K[0]'hk).toNat) ∧ decide ((48 : Int) ≤ (((K[0]'hk).toNat : Nat) : Int)) = true ∧ decide ((((K[0]'hk).toNat : Nat) : Int) ≤ 57) = false) ∨ (Hid (48 ≤ (K[0]'hk).toNat ∧ (K[0]'hk).toNat ≤ 57) ∧ decide ((48 : Int) ≤ (((K[0]'hk).toNat : Nat) : Int)) = true ∧ decide ((((K[0]'hk).toNat : Nat) : Int) ≤ 57) = true) := by
        by_cases h1 : 48 ≤ (K[0]'hk).toNat
        · by_cases h2 : (K[0]'hk).toNat ≤ 57
          · exact .inr (.inr ⟨(show Hid _ from ⟨h1, h2⟩), decide_eq_true (by omega), decide_eq_true (by omega)⟩)
          · exact .inr (.inl ⟨(show Hid _ from ⟨h1, by omega⟩), decide_eq_true (by omega), decide_eq_false (by omega)⟩)
        · exact .inl ⟨(show Hid _ from by show _ < _; omega), decide_eq_false (by omega)⟩
      rcases hc2 with ⟨g1, g2⟩ | ⟨g1, g2, g3⟩ | ⟨g1, g2, g3⟩
      · have hd2 : Hid (digH K.data.toList = false) := by show _ = _; rw [hd.out]; have := g1.out; simp; omega
        clear hd
        go_quiet (fail)
        go_wp2
        go_ret2
        exact ⟨by rw [hd2.out]; rfl, ⟨HB3.out.os, HB3.out.tape, HB3.out.output, HB3.out.size, HB3.out.block⟩⟩
      · have hd2 : Hid (digH K.data.toList = false) := by show _ = _; rw [hd.out]; have := g1.out; simp; omega
        clear hd
        go_quiet (fail)
        go_wp2
        go_ret2
        exact ⟨by rw [hd2.out]; rfl, ⟨HB3.out.os, HB3.out.tape, HB3.out.output, HB3.out.size, HB3.out.block⟩⟩
      · have hd2 : Hid (digH K.data.toList = true) := by show _ = _; rw [hd.out]; have := g1.out; simp; omega
        clear hd
        go_quiet (fail)
        go_wp2
        go_ret2
        exact ⟨by rw [hd2.out]; rfl, ⟨HB3.out.os, HB3.out.tape, HB3.out.output, HB3.out.size, HB3.out.block⟩⟩
end Go.Proofs.YtokehnclakedeaaGreatDoor
