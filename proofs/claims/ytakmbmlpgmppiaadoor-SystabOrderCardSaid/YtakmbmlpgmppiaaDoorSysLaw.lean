/- The laws of a right table: names rise, so that a search finds; numbers are what the reference says. -/
import Derived.Test.YtakmbmlpgmppiaaDoorSysCat
namespace Go.Proofs.YtakmbmlpgmppiaaDoor
open Go Go.Proofs Go.RowKit

theorem u8_eq {a b : UInt8} (h1 : ¬ a < b) (h2 : ¬ b < a) : a = b := by
  rw [UInt8.lt_iff_toNat_lt] at h1 h2
  exact UInt8.toNat_inj.1 (by omega)
theorem u8_ne {a b : UInt8} (h : a < b) : (a == b) = false := by
  rw [UInt8.lt_iff_toNat_lt] at h
  simp only [beq_eq_false_iff_ne, ne_eq]
  intro e; subst e; omega
theorem u8_ne' {a b : UInt8} (h : b < a) : (a == b) = false := by
  rw [UInt8.lt_iff_toNat_lt] at h
  simp only [beq_eq_false_iff_ne, ne_eq]
  intro e; subst e; omega
theorem u8_asymm {a b : UInt8} (h : a < b) : ¬ b < a := by
  rw [UInt8.lt_iff_toNat_lt] at h ⊢
  omega

theorem cb_lt : ∀ a b : List UInt8, Lib.compareBytes a b < 0 ↔ Op.bytesLess a b = true
  | [], [] => by simp [Lib.compareBytes, Op.bytesLess]
  | [], _ :: _ => by simp [Lib.compareBytes, Op.bytesLess]
  | _ :: _, [] => by simp [Lib.compareBytes, Op.bytesLess]
  | a :: xs, b :: ys => by
    have ih := cb_lt xs ys
    simp only [Lib.compareBytes, Op.bytesLess]
    by_cases h1 : a < b
    · simp [h1]
    · by_cases h2 : b < a
      · simp [h1, h2, u8_ne' h2]
      · obtain rfl := u8_eq h1 h2
        simp [h1, ih]
theorem cb_gt : ∀ a b : List UInt8, 0 < Lib.compareBytes a b ↔ Op.bytesLess b a = true
  | [], [] => by simp [Lib.compareBytes, Op.bytesLess]
  | [], _ :: _ => by simp [Lib.compareBytes, Op.bytesLess]
  | _ :: _, [] => by simp [Lib.compareBytes, Op.bytesLess]
  | a :: xs, b :: ys => by
    have ih := cb_gt xs ys
    simp only [Lib.compareBytes, Op.bytesLess]
    by_cases h1 : a < b
    · simp [h1, u8_asymm h1, u8_ne' h1]
    · by_cases h2 : b < a
      · simp [h1, h2]
      · obtain rfl := u8_eq h1 h2
        simp [h1, ih]
theorem cb_eq : ∀ a b : List UInt8, Lib.compareBytes a b = 0 ↔ a = b
  | [], [] => by simp [Lib.compareBytes]
  | [], _ :: _ => by simp [Lib.compareBytes]
  | _ :: _, [] => by simp [Lib.compareBytes]
  | a :: xs, b :: ys => by
    have ih := cb_eq xs ys
    simp only [Lib.compareBytes]
    by_cases h1 : a < b
    · have := u8_ne h1
      simp only [beq_eq_false_iff_ne, ne_eq] at this
      simp [h1, this]
    · by_cases h2 : b < a
      · have := u8_ne' h2
        simp only [beq_eq_false_iff_ne, ne_eq] at this
        simp [h1, h2, this]
      · obtain rfl := u8_eq h1 h2
        simp [ih]
theorem bl_irrefl : ∀ a : List UInt8, Op.bytesLess a a = false
  | [] => rfl
  | a :: xs => by
    have ih := bl_irrefl xs
    have : ¬ a < a := fun h => u8_asymm h h
    simp [Op.bytesLess, ih, this]
theorem bl_trans : ∀ a b c : List UInt8, Op.bytesLess a b = true → Op.bytesLess b c = true → Op.bytesLess a c = true
  | _, _, [], _, h => by simp [Op.bytesLess] at h
  | [], _, _ :: _, _, _ => rfl
  | _ :: _, [], _ :: _, h, _ => by simp [Op.bytesLess] at h
  | a :: xs, b :: ys, c :: zs, h1, h2 => by
    simp only [Op.bytesLess, Bool.or_eq_true, decide_eq_true_eq, Bool.and_eq_true, beq_iff_eq] at h1 h2 ⊢
    rcases h1 with h1 | ⟨rfl, h1⟩
    · rcases h2 with h2 | ⟨rfl, h2⟩
      · left
        rw [UInt8.lt_iff_toNat_lt] at h1 h2 ⊢
        omega
      · exact .inl h1
    · rcases h2 with h2 | ⟨rfl, h2⟩
      · exact .inl h2
      · exact .inr ⟨rfl, bl_trans xs ys zs h1 h2⟩

/-- A table that may be. -/
def TableOk (l : List SRow) : Prop := ∀ j, j < l.length → RowSaid l j 0
theorem rs0 {l : List SRow} {j : Nat} (h : RowSaid l j 0) : refNameP (l[j]!).name ∧ ¬ nameGe l j ∧ rngOk l[j]! ∧ ¬ muxNo l[j]! ∧ ∀ k, k < j → ¬ clash l[k]! l[j]! := by
  rcases h with ⟨h, _⟩ | ⟨n, ⟨h, _⟩ | ⟨g, ⟨h, _⟩ | ⟨r, ⟨h, _⟩ | ⟨m, ⟨h, _⟩ | ⟨_, c⟩⟩⟩⟩⟩
  · omega
  · omega
  · omega
  · omega
  · omega
  · exact ⟨n, g, r, m, c⟩

theorem rise1 {l : List SRow} (h : TableOk l) (j : Nat) (hj : j + 1 < l.length) : Op.bytesLess (l[j]!).name.toList (l[j + 1]!).name.toList = true := by
  have := (rs0 (h (j + 1) hj)).2.1
  cases e : Op.bytesLess (l[j]!).name.toList (l[j + 1]!).name.toList with
  | true => rfl
  | false => exact absurd ⟨by omega, by simpa using e⟩ this
theorem riseD {l : List SRow} (h : TableOk l) (i : Nat) : ∀ d, i + d + 1 < l.length → Op.bytesLess (l[i]!).name.toList (l[i + d + 1]!).name.toList = true
  | 0, hj => rise1 h i hj
  | d + 1, hj => bl_trans _ _ _ (riseD h i d (by omega)) (rise1 h (i + d + 1) hj)
theorem rise {l : List SRow} (h : TableOk l) {i j : Nat} (hij : i < j) (hj : j < l.length) : Op.bytesLess (l[i]!).name.toList (l[j]!).name.toList = true := by
  have := riseD h i (j - i - 1) (by omega)
  rwa [show i + (j - i - 1) + 1 = j by omega] at this

theorem cmpR_lt (t : ByteArray) (r : SRow) : cmpR t r < 0 ↔ Op.bytesLess r.name.toList t.toList = true := by
  unfold cmpR; rw [cb_lt, ByteArray.toList_eq, ByteArray.toList_eq]
theorem cmpR_gt (t : ByteArray) (r : SRow) : 0 < cmpR t r ↔ Op.bytesLess t.toList r.name.toList = true := by
  unfold cmpR; rw [cb_gt, ByteArray.toList_eq, ByteArray.toList_eq]
theorem cmpR_eq (t : ByteArray) (r : SRow) : cmpR t r = 0 ↔ eqP t r = true := by
  unfold cmpR eqP; rw [cb_eq, ByteArray.toList_eq, ByteArray.toList_eq, beq_iff_eq]

theorem mono_ok {l : List SRow} (h : TableOk l) (t : ByteArray) : ∀ x y, x ≤ y → y < l.length → cmpR t l[y]! < 0 → cmpR t l[x]! < 0 := by
  intro x y hxy hy hlt
  by_cases e : x = y
  · subst e; exact hlt
  · rw [cmpR_lt] at hlt ⊢
    exact bl_trans _ _ _ (rise h (by omega) hy) hlt

theorem find_hit {l : List SRow} {t : ByteArray} {i : Nat} (hA : BsAns t l i) (hh : bsHit t l i = true) : firstIdx (eqP t) l = i := by
  unfold bsHit at hh
  simp only [Bool.and_eq_true, decide_eq_true_eq, beq_iff_eq] at hh
  refine firstIdx_hit _ l i hh.1 (fun j hj => ?_) ((cmpR_eq _ _).1 hh.2)
  have := hA.2.1 j hj
  cases e : eqP t l[j]! with
  | false => rfl
  | true => rw [(cmpR_eq _ _).2 e] at this; omega
theorem find_miss {l : List SRow} (h : TableOk l) {t : ByteArray} {i : Nat} (hA : BsAns t l i) (hh : bsHit t l i = false) : firstIdx (eqP t) l = -1 := by
  refine firstIdx_miss _ l (fun j hj => ?_)
  cases e : eqP t l[j]! with
  | false => rfl
  | true =>
    exfalso
    have e0 := (cmpR_eq _ _).2 e
    by_cases hji : j < i
    · have := hA.2.1 j hji
      omega
    · have hi : i < l.length := by omega
      have h0 := hA.2.2 i (Nat.le_refl _) hi
      have hne : cmpR t l[i]! ≠ 0 := fun e1 => by unfold bsHit at hh; rw [e1, decide_eq_true hi] at hh; simp at hh
      by_cases hji2 : j = i
      · subst hji2; exact hne e0
      · have h1 := (cmpR_gt t l[i]!).1 (by omega)
        have h2 := bl_trans _ _ _ h1 (rise h (i := i) (j := j) (by omega) hj)
        have := (cmpR_gt t l[j]!).2 h2
        omega

/-- What Find answers of a right table. -/
def findAns (t : ByteArray) (l : List SRow) : Value :=
  if firstIdx (eqP t) l < 0 then .tuple #[SRow.zero.val, .int .i64 0, .bool false] else .tuple #[(l[(firstIdx (eqP t) l).toNat]!).val, .int .i64 (firstIdx (eqP t) l), .bool true]
def numAns (t : ByteArray) (l : List SRow) (a : Nat) : Value :=
  if firstIdx (eqP t) l < 0 then .tuple #[.int .i64 0, .int .i64 14] else .tuple #[.int .i64 (rnum l a (firstIdx (eqP t) l).toNat), .int .i64 0]
def rsubAns (mux sub : Int) (l : List SRow) : Value :=
  if firstIdx (rsubP mux sub) l < 0 then .tuple #[.string ⟨#[]⟩, .bool false] else .tuple #[.string (l[(firstIdx (rsubP mux sub) l).toNat]!).name, .bool true]
def atI (l : List SRow) (a : Nat) (n : Int) : Int := firstN (fun i => rnum l a i == n) 0 l.length
def atAns (l : List SRow) (a : Nat) (n : Int) : Value :=
  if atI l a n < 0 then .tuple #[.string ⟨#[]⟩, .int .i64 14] else .tuple #[.string (l[(atI l a n).toNat]!).name, .int .i64 0]

theorem find_ok (t : ByteArray) (sv : Value) (l : List SRow) (w : World) (hbig : l.length ≤ 1000000) (hR : RowsV w sv l) (hT : TableOk l) :
    Calls Tryd.prog 16 #[sv, .string t] w fun e w' => e = .returned (findAns t l) ∧ Below w.heap.size w w' := by
  refine (find_any t sv l w hbig hR (mono_ok hT t)).mono ?_
  rintro e w' ⟨i, hA, hB, ⟨hh, rfl⟩ | ⟨hh, rfl⟩⟩
  · refine ⟨?_, hB⟩
    unfold findAns
    rw [find_hit hA hh, if_neg (by omega)]
    simp
  · refine ⟨?_, hB⟩
    unfold findAns
    rw [find_miss hT hA hh, if_pos (by omega)]

theorem num_in {l : List SRow} (hT : TableOk l) {i : Nat} (hi : i < l.length) {a : Nat} (ha : a < 5) : inR ((l[i]!).num a) := (rs0 (hT i hi)).2.2.1.1 a ha
theorem numOf_rnum {l : List SRow} (hT : TableOk l) {i : Nat} (hi : i < l.length) {a : Nat} (ha : a < 5) : numOf l a i = rnum l a i := by
  have := num_in hT hi ha
  unfold inR at this
  unfold numOf rnum
  by_cases h : (l[i]!).num a = -1
  · rw [if_pos h, if_neg (by omega)]
  · rw [if_neg h, if_pos (by omega)]
theorem number_ok (t : ByteArray) (sv : Value) (l : List SRow) (a : Nat) (ha : a < 5) (w : World) (hbig : l.length ≤ 1000000) (hR : RowsV w sv l) (hT : TableOk l) :
    Calls Tryd.prog 17 #[sv, .int .i64 a, .string t] w fun e w' => e = .returned (numAns t l a) ∧ Below w.heap.size w w' := by
  refine (number_any t sv l a ha w hbig hR (mono_ok hT t)).mono ?_
  rintro e w' ⟨i, hA, hB, ⟨hh, rfl⟩ | ⟨hh, rfl⟩⟩
  · refine ⟨?_, hB⟩
    unfold numAns
    rw [find_hit hA hh, if_neg (by omega), numOf_rnum hT (bsHit_lt hh) ha]
    simp
  · refine ⟨?_, hB⟩
    unfold numAns
    rw [find_miss hT hA hh, if_pos (by omega)]

theorem firstIdx_congr {p q : SRow → Bool} : ∀ (l : List SRow), (∀ j, j < l.length → p l[j]! = q l[j]!) → firstIdx p l = firstIdx q l
  | [], _ => rfl
  | x :: r, h => by
    have h0 : p x = q x := by simpa using h 0 (by simp)
    have ih := firstIdx_congr (p := p) (q := q) r (fun j hj => by simpa using h (j + 1) (by simpa using hj))
    simp only [firstIdx, h0, ih]
theorem sub_rsub {l : List SRow} (hT : TableOk l) (mux sub : Int) : subAns mux sub l = rsubAns mux sub l := by
  unfold subAns rsubAns
  rw [firstIdx_congr (p := subP mux sub) (q := rsubP mux sub) l ?_]
  intro j hj
  have h := (rs0 (hT j hj)).2.2.1.2
  unfold muxOk at h
  rw [Bool.eq_iff_iff]
  simp only [subP, rsubP, Bool.and_eq_true, beq_iff_eq, bne_iff_ne, ne_eq, decide_eq_true_eq]
  constructor
  · rintro ⟨⟨h1, h2⟩, h3⟩
    exact ⟨⟨⟨by omega, by omega⟩, h1⟩, h2⟩
  · rintro ⟨⟨⟨h1, h2⟩, h3⟩, h4⟩
    exact ⟨⟨h3, h4⟩, by omega⟩

theorem least (q : Nat → Bool) : ∀ n, (∀ j, j < n → q j = false) ∨ ∃ k, k < n ∧ q k = true ∧ ∀ j, j < k → q j = false
  | 0 => .inl (fun j hj => absurd hj (Nat.not_lt_zero j))
  | n + 1 => by
    rcases least q n with h | ⟨k, hk, h1, h2⟩
    · cases e : q n with
      | true => exact .inr ⟨n, by omega, e, h⟩
      | false =>
        refine .inl (fun j hj => ?_)
        by_cases ej : j = n
        · subst ej; exact e
        · exact h j (by omega)
    · exact .inr ⟨k, by omega, h1, h2⟩
theorem firstN_firstIdx {l : List SRow} {q : Nat → Bool} {p : SRow → Bool} (h : ∀ j, j < l.length → q j = p l[j]!) : firstN q 0 l.length = firstIdx p l := by
  rcases least q l.length with hm | ⟨k, hk, h1, h2⟩
  · rw [firstN_miss q l.length 0 (fun j _ hj => hm j (by omega)), firstIdx_miss p l (fun j hj => by rw [← h j hj]; exact hm j hj)]
  · rw [firstN_hit q l.length 0 k (Nat.zero_le _) (by omega) (fun j _ hj => h2 j hj) h1, firstIdx_hit p l k hk (fun j hj => by rw [← h j (by omega)]; exact h2 j hj) (by rw [← h k hk]; exact h1)]

theorem nameIdx_atI {l : List SRow} (hT : TableOk l) {a : Nat} (ha : a < 5) (n : Int) : nameIdx l a n = atI l a n := by
  unfold nameIdx atI
  by_cases hn : 0 ≤ n
  · rw [if_neg (by omega)]
    refine (firstN_firstIdx fun j hj => ?_).symm
    rw [Bool.eq_iff_iff]
    simp only [nameP, rnum, Bool.and_eq_true, beq_iff_eq, bne_iff_ne, ne_eq]
    by_cases h0 : 0 ≤ (l[j]!).num a
    · rw [if_pos h0]
      exact ⟨fun h => ⟨h, by omega⟩, fun h => h.1⟩
    · rw [if_neg h0]
      exact ⟨fun h => by omega, fun h => by omega⟩
  · by_cases hc : n < 0 ∧ -(l.length : Int) ≤ n ∧ (l[(-1 - n).toNat]!).num a = -1
    · rw [if_pos hc]
      obtain ⟨h1, h2, h3⟩ := hc
      have hk : (-1 - n).toNat < l.length := by omega
      have q1 : ∀ j, 0 ≤ j → j < (-1 - n).toNat → (fun i => rnum l a i == n) j = false := by
        intro j _ hj
        have hi := num_in hT (i := j) (by omega) ha
        unfold inR at hi
        simp only [rnum, beq_eq_false_iff_ne, ne_eq]
        intro e
        split at e
        · omega
        · omega
      have q2 : (fun i => rnum l a i == n) (-1 - n).toNat = true := by
        simp only [rnum, beq_iff_eq]
        rw [if_neg (by omega)]
        omega
      rw [firstN_hit (fun i => rnum l a i == n) l.length 0 (-1 - n).toNat (Nat.zero_le _) (by omega) q1 q2]
      omega
    · rw [if_neg hc, firstIdx_miss, firstN_miss]
      · intro j _ hj
        simp only [rnum, beq_eq_false_iff_ne, ne_eq]
        intro e
        have hi := num_in hT (i := j) (by omega) ha
        unfold inR at hi
        split at e
        · omega
        · refine hc ⟨by omega, by omega, ?_⟩
          rw [show (-1 - n).toNat = j by omega]
          omega
      · intro j hj
        have hi := num_in hT hj ha
        unfold inR at hi
        cases e : nameP a n l[j]! with
        | false => rfl
        | true =>
          simp only [nameP, Bool.and_eq_true, beq_iff_eq, bne_iff_ne, ne_eq] at e
          omega
theorem name_ok (sv : Value) (l : List SRow) (a : Nat) (ha : a < 5) (number : Int) (w : World) (hbig : l.length ≤ 1000000) (hR : RowsV w sv l) (hT : TableOk l) :
    Calls Tryd.prog 18 #[sv, .int .i64 a, .int .i64 number] w fun e w' => e = .returned (atAns l a number) ∧ Below w.heap.size w w' := by
  refine (name_any sv l a ha number w hbig hR).mono ?_
  rintro e w' ⟨rfl, hB⟩
  refine ⟨?_, hB⟩
  unfold nameAns atAns
  rw [nameIdx_atI hT ha]
theorem sub_ok (mux sub : Int) (sv : Value) (l : List SRow) (w : World) (hbig : l.length ≤ 1000000) (hR : RowsV w sv l) (hT : TableOk l) :
    Calls Tryd.prog 19 #[sv, .int .i64 mux, .int .i64 sub] w fun e w' => e = .returned (rsubAns mux sub l) ∧ Below w.heap.size w w' := by
  refine (sub_any mux sub sv l w hbig hR).mono ?_
  rintro e w' ⟨rfl, hB⟩
  exact ⟨by rw [sub_rsub hT], hB⟩
end Go.Proofs.YtakmbmlpgmppiaaDoor
