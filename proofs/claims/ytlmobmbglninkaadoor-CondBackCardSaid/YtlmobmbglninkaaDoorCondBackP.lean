/- A condition's text, cut at its blanks, is read as it: plain facts. -/
import Derived.Test.YtlmobmbglninkaaDoorCondDig
import Derived.Test.YtlmobmbglninkaaDoorCondRArg
import Derived.Test.YtlmobmbglninkaaDoorCondROp
import Derived.Test.YtlmobmbglninkaaDoorCondRead
import Derived.Lib.SmallJoins
import Derived.Shelf.Strings.OnBuilder
namespace Go.Proofs.YtlmobmbglninkaaDoor
open Go Go.Proofs Go.RowKit

/-- A byte more: the words that are cut off, and the bytes behind the last blank. -/
def cutStep (p : List (List UInt8) × List UInt8) (b : UInt8) : List (List UInt8) × List UInt8 := if b = 32 then (p.1 ++ [p.2], []) else (p.1, p.2 ++ [b])
def cutF (l : List UInt8) : List (List UInt8) × List UInt8 := l.foldl cutStep ([], [])
theorem cutF_snoc (l : List UInt8) (b : UInt8) : cutF (l ++ [b]) = cutStep (cutF l) b := by unfold cutF; rw [List.foldl_append]; rfl
theorem cutF_blank (l : List UInt8) : cutF (l ++ [32]) = ((cutF l).1 ++ [(cutF l).2], []) := by rw [cutF_snoc]; rfl
theorem cutF_other (l : List UInt8) {b : UInt8} (h : b ≠ 32) : cutF (l ++ [b]) = ((cutF l).1, (cutF l).2 ++ [b]) := by rw [cutF_snoc]; unfold cutStep; rw [if_neg h]
theorem cutF_suffix (l : List UInt8) : ∃ p, l = p ++ (cutF l).2 ∧ p.length = l.length - (cutF l).2.length := by
  suffices h : ∃ p, l = p ++ (cutF l).2 by
    obtain ⟨p, hp⟩ := h
    refine ⟨p, hp, ?_⟩
    have := congrArg List.length hp
    rw [List.length_append] at this
    omega
  induction hn : l.length generalizing l with
  | zero => obtain rfl := List.eq_nil_of_length_eq_zero hn; exact ⟨[], rfl⟩
  | succ n ih =>
    obtain ⟨l', b, rfl⟩ : ∃ l' b, l = l' ++ [b] := ⟨l.dropLast, l.getLast (by rintro rfl; simp at hn), (List.dropLast_concat_getLast (by rintro rfl; simp at hn)).symm⟩
    obtain ⟨p, hp⟩ := ih l' (by simp at hn; omega)
    by_cases hb : b = 32
    · subst hb
      exact ⟨l' ++ [32], by rw [cutF_blank]; simp⟩
    · refine ⟨p, ?_⟩
      rw [cutF_other l' hb]
      show l' ++ [b] = p ++ ((cutF l').2 ++ [b])
      rw [← List.append_assoc, ← hp]
theorem cut_word (x : List UInt8) : ∀ (d : List (List UInt8)) (c : List UInt8), (∀ b ∈ x, b ≠ 32) → x.foldl cutStep (d, c) = (d, c ++ x) := by
  induction x with
  | nil => intro d c _; simp
  | cons b x ih =>
    intro d c h
    rw [List.foldl_cons, show cutStep (d, c) b = (d, c ++ [b]) from if_neg (h b (by simp)), ih _ _ (fun y hy => h y (by simp [hy]))]
    simp
theorem cut_join : ∀ (xs : List (List UInt8)) (y : List UInt8) (d : List (List UInt8)), (∀ x ∈ xs ++ [y], ∀ b ∈ x, b ≠ 32) → (Lib.join (xs ++ [y]) [32]).foldl cutStep (d, []) = (d ++ xs, y)
  | [], y, d, h => by
    show (Lib.join [y] [32]).foldl cutStep (d, []) = _
    rw [show Lib.join [y] [32] = y by simp [Lib.join], cut_word y d [] (h y (by simp))]
    simp
  | x :: xs, y, d, h => by
    have e : Lib.join (x :: xs ++ [y]) [32] = x ++ 32 :: Lib.join (xs ++ [y]) [32] := by
      cases xs with
      | nil => simp [Lib.join]
      | cons z zs => simp [Lib.join]
    rw [e, List.foldl_append, cut_word x d [] (h x (by simp)), List.foldl_cons]
    rw [show cutStep (d, [] ++ x) 32 = (d ++ [x], []) by simp [cutStep]]
    rw [cut_join xs y _ (fun z hz => h z (by simp at hz ⊢; exact .inr hz))]
    simp
/-- The words of a right condition's text. -/
def condWords (a : Nat) (o : Int) (m v : Nat) : List ByteArray :=
  if o = 7 then [⟨#[97]⟩ ++ decS a, opText 7, decS m, ⟨#[61, 61]⟩, decS v] else [⟨#[97]⟩ ++ decS a, opText o, decS v]
def condText (a : Nat) (o : Int) (m v : Nat) : ByteArray := ⟨(Lib.join ((condWords a o m v).map (·.data.toList)) [32]).toArray⟩
theorem dec_no32 (n : Nat) : ∀ b ∈ Lib.decDigits n, b ≠ 32 := by
  induction n using Nat.strongRecOn with
  | _ n ih =>
    intro b hb e
    by_cases h : n < 10
    · rw [Lib.decDigits_one h] at hb
      simp only [List.mem_cons, List.not_mem_nil, or_false] at hb
      rw [hb] at e
      have := congrArg UInt8.toNat e
      simp at this
      omega
    · rw [Lib.decDigits, dif_neg h] at hb
      rcases List.mem_append.1 hb with hb | hb
      · exact ih _ (by omega) b hb e
      · simp only [List.mem_cons, List.not_mem_nil, or_false] at hb
        rw [hb] at e
        have := congrArg UInt8.toNat e
        simp at this
        omega
theorem op_no32 (o : Int) : ∀ b ∈ (opText o).data.toList, b ≠ 32 := by
  unfold opText
  repeat' split
  all_goals decide
theorem app_list (x y : ByteArray) : (x ++ y).data.toList = x.data.toList ++ y.data.toList := by simp
theorem words_no32 (a : Nat) (o : Int) (m v : Nat) : ∀ x ∈ (condWords a o m v).map (·.data.toList), ∀ b ∈ x, b ≠ 32 := by
  intro x hx b hb
  obtain ⟨s, hs, rfl⟩ := List.mem_map.1 hx
  have hd : ∀ n, ∀ b ∈ (decS n).data.toList, b ≠ 32 := fun n => dec_no32 n
  have hA : ∀ b ∈ ((⟨#[97]⟩ : ByteArray) ++ decS a).data.toList, b ≠ 32 := by
    intro b hb
    rw [app_list] at hb
    rcases List.mem_append.1 hb with hb | hb
    · have : b = 97 := by simpa using hb
      rw [this]
      decide
    · exact hd a b hb
  unfold condWords at hs
  split at hs
  · simp only [List.mem_cons, List.not_mem_nil, or_false] at hs
    rcases hs with rfl | rfl | rfl | rfl | rfl
    · exact hA b hb
    · exact op_no32 7 b hb
    · exact hd m b hb
    · have : b = 61 := by simpa using hb
      rw [this]
      decide
    · exact hd v b hb
  · simp only [List.mem_cons, List.not_mem_nil, or_false] at hs
    rcases hs with rfl | rfl | rfl
    · exact hA b hb
    · exact op_no32 o b hb
    · exact hd v b hb
theorem cut_text (a : Nat) (o : Int) (m v : Nat) : (cutF (condText a o m v).data.toList).1 ++ [(cutF (condText a o m v).data.toList).2] = (condWords a o m v).map (·.data.toList) := by
  have hn := words_no32 a o m v
  have hne : condWords a o m v ≠ [] := by unfold condWords; split <;> simp
  obtain ⟨xs, y, e⟩ : ∃ xs y, (condWords a o m v).map (·.data.toList) = xs ++ [y] := by
    have h2 : (condWords a o m v).map (·.data.toList) ≠ [] := by simpa using hne
    exact ⟨_, _, (List.dropLast_concat_getLast h2).symm⟩
  unfold condText cutF
  dsimp only
  rw [e] at hn ⊢
  rw [cut_join xs y [] hn]
  simp
theorem opB_self : ∀ k : Nat, k < 7 → firstO (opB (opText ((k : Int) + 1))) = k := by
  intro k hk
  have : k = 0 ∨ k = 1 ∨ k = 2 ∨ k = 3 ∨ k = 4 ∨ k = 5 ∨ k = 6 := by omega
  rcases this with rfl | rfl | rfl | rfl | rfl | rfl | rfl <;> simp [firstO, opB, opText, ByteArray.toList_eq]
theorem argOf_word (a : Nat) (h : a ≤ 5) : argOf ((⟨#[97]⟩ : ByteArray) ++ decS a).data.toList = (a, 0) := by
  have : a = 0 ∨ a = 1 ∨ a = 2 ∨ a = 3 ∨ a = 4 ∨ a = 5 := by omega
  rcases this with rfl | rfl | rfl | rfl | rfl | rfl <;> decide +kernel
theorem read_condWords (a k m v : Nat) (ha : a ≤ 5) (hk : k < 7) (hm : m < 18446744073709551616) (hv : v < 18446744073709551616) (h0 : k = 6 ∨ m = 0) (t : ByteArray) :
    readAns (condWords a ((k : Int) + 1) m v ++ [t]) = ⟨a, (k : Int) + 1, m, v, (condWords a ((k : Int) + 1) m v).length, 0⟩ := by
  have hvn : numOf (decS v).data.toList = some v := numOf_dec v hv
  have hmn : numOf (decS m).data.toList = some m := numOf_dec m hm
  have hf := opB_self k hk
  unfold condWords
  by_cases h7 : (k : Int) + 1 = 7
  · obtain rfl : k = 6 := by omega
    have hf : firstO (opB (opText 7)) = 6 := hf
    rw [if_pos h7]
    show readAns ((⟨#[97]⟩ ++ decS a) :: opText 7 :: decS m :: ⟨#[61, 61]⟩ :: decS v :: [t]) = _
    rw [readAns_ok _ (argOf_word a ha), readRest_mask a _ _ _ hf hmn, readMask_val a m _ _ _ (by decide +kernel) hvn]
    rfl
  · obtain rfl : m = 0 := by omega
    rw [if_neg h7]
    show readAns ((⟨#[97]⟩ ++ decS a) :: opText ((k : Int) + 1) :: decS v :: [t]) = _
    rw [readAns_ok _ (argOf_word a ha), readRest_val a _ _ _ (by rw [hf]; omega) (by rw [hf]; omega) hvn, hf]
    rfl
theorem op_size (o : Int) : (opText o).size ≤ 2 := by
  unfold opText
  repeat' split
  all_goals decide
theorem dec_one_size (a : Nat) (h : a ≤ 5) : (decS a).size = 1 := by
  have : a = 0 ∨ a = 1 ∨ a = 2 ∨ a = 3 ∨ a = 4 ∨ a = 5 := by omega
  rcases this with rfl | rfl | rfl | rfl | rfl | rfl <;> decide +kernel
theorem words_size (a : Nat) (o : Int) (m v : Nat) (ha : a ≤ 5) (hm : m < 18446744073709551616) (hv : v < 18446744073709551616) : ∀ x ∈ condWords a o m v, x.size ≤ 20 := by
  have h1 := decS_size m hm
  have h2 := decS_size v hv
  have h3 := dec_one_size a ha
  have h4 := op_size o
  have h5 := op_size 7
  have h6 : ((⟨#[97]⟩ : ByteArray) ++ decS a).size = 2 := by rw [ByteArray.size_append, h3]; rfl
  have h7 : (⟨#[61, 61]⟩ : ByteArray).size = 2 := rfl
  intro x hx
  unfold condWords at hx
  split at hx <;> simp only [List.mem_cons, List.not_mem_nil, or_false] at hx
  · rcases hx with rfl | rfl | rfl | rfl | rfl <;> omega
  · rcases hx with rfl | rfl | rfl <;> omega
theorem words_len (a : Nat) (o : Int) (m v : Nat) : 3 ≤ (condWords a o m v).length ∧ (condWords a o m v).length ≤ 5 := by
  unfold condWords
  split <;> simp
theorem jc (x y : List UInt8) (zs : List (List UInt8)) : Lib.join (x :: y :: zs) [32] = x ++ 32 :: Lib.join (y :: zs) [32] := by simp [Lib.join]
theorem j1 (x : List UInt8) : Lib.join [x] [32] = x := by simp [Lib.join]
theorem text_size (a : Nat) (o : Int) (m v : Nat) (ha : a ≤ 5) (hm : m < 18446744073709551616) (hv : v < 18446744073709551616) : (condText a o m v).size ≤ 60 := by
  have h1 := decS_size m hm
  have h2 := decS_size v hv
  have h3 := dec_one_size a ha
  have h4 := op_size o
  have h5 := op_size 7
  have e : ∀ x : ByteArray, x.data.toList.length = x.size := fun x => Array.length_toList
  have h6 : ((⟨#[97]⟩ : ByteArray) ++ decS a).size = 2 := by rw [ByteArray.size_append, h3]; rfl
  have h7 : (⟨#[61, 61]⟩ : ByteArray).size = 2 := rfl
  show (Lib.join ((condWords a o m v).map (·.data.toList)) [32]).toArray.size ≤ 60
  rw [List.size_toArray]
  unfold condWords
  split
  · simp only [List.map_cons, List.map_nil, jc, j1, List.length_append, e, h6, h7, List.length_cons, List.length_nil]
    omega
  · simp only [List.map_cons, List.map_nil, jc, j1, List.length_append, e, h6, List.length_cons, List.length_nil]
    omega
end Go.Proofs.YtlmobmbglninkaaDoor
