/- strainerref13.Words: the words of a line. -/
import Derived.Test.YtkgmbogmeppmcaaDoorLexR
import Derived.Maps.AppendAt
namespace Go.Proofs.YtkgmbogmeppmcaaDoor
open Go Go.Proofs Go.RowKit

theorem infoStr13 : (Tryd.prog.info? 9).map (fun i => (i.zero, i.size, i.bytes)) = some (some (.string ⟨#[]⟩), 1, 16) := by kernel_rfl
theorem size_list (s : ByteArray) : s.data.toList.length = s.size := Array.length_toList
theorem drop_byte (s : ByteArray) (k : Nat) (h : k < s.size) : s.data.toList.drop k = s[k]'h :: s.data.toList.drop (k + 1) := by
  rw [List.drop_eq_getElem_cons (by rw [size_list]; exact h)]
  rfl
theorem drop_end (s : ByteArray) (k : Nat) (h : ¬ k < s.size) : s.data.toList.drop k = [] := List.drop_eq_nil_of_le (by rw [size_list]; omega)
theorem extract_one (s : ByteArray) (k : Nat) (h : k < s.size) : s.extract k (k + 1) = ⟨#[s[k]'h]⟩ := by
  rw [extract_word, List.take_succ_eq_append_getElem (by rw [size_list]; exact h), List.drop_append_of_le_length (by rw [List.length_take, size_list]; omega), List.drop_eq_nil_of_le (by rw [List.length_take, size_list]; omega)]
  rfl
theorem list_append (a b : ByteArray) : (a ++ b).data.toList = a.data.toList ++ b.data.toList := by rw [ByteArray.data_append, Array.toList_append]
/-- What Words answers. -/
def wordsPost (o : Option (List ByteArray)) (w : World) (e : Ending) (w' : World) : Prop :=
  (match o with
    | none => e = .returned (.tuple #[.slice none 0 0, .bool false])
    | some ws => ∃ v, e = .returned (.tuple #[v, .bool true]) ∧ w'.ownsRow w.heap.size 9 1 v ws.length (ws.map Value.string)) ∧ Below w.heap.size w w'
theorem words_post_some {s : ByteArray} {ws : List ByteArray} {v : Value} {w w' : World} (h : lineOf s.data.toList = some ws) (hr : w'.ownsRow w.heap.size 9 1 v ws.length (ws.map Value.string)) (hb : Below w.heap.size w w') :
    wordsPost (lineOf s.data.toList) w (.returned (.tuple #[v, .bool true])) w' := by
  rw [h]
  exact ⟨⟨v, rfl, hr⟩, hb⟩
theorem words_post_none {s : ByteArray} {w w' : World} (h : lineOf s.data.toList = none) (hb : Below w.heap.size w w') :
    wordsPost (lineOf s.data.toList) w (.returned (.tuple #[.slice none 0 0, .bool false])) w' := by
  rw [h]
  exact ⟨rfl, hb⟩
theorem lineGo_note (r w : List UInt8) (out : List ByteArray) : lineGo (35 :: r) w out = some (flush w out) := by unfold lineGo; rw [if_pos rfl]
theorem lineGo_blank {c : UInt8} (h : blkB c = true) (r w : List UInt8) (out : List ByteArray) : lineGo (c :: r) w out = lineGo r [] (flush w out) := by
  have h35 : c ≠ 35 := by rintro rfl; revert h; decide
  conv => lhs; unfold lineGo
  rw [if_neg h35, if_pos h]
theorem lineGo_byte {c : UInt8} (h35 : c ≠ 35) (hb : blkB c = false) (h : okB c = true) (r w : List UInt8) (out : List ByteArray) : lineGo (c :: r) w out = lineGo r (w ++ [c]) out := by
  conv => lhs; unfold lineGo
  rw [if_neg h35, if_neg (by rw [hb]; decide), if_pos h]
theorem lineGo_wrong {c : UInt8} (h35 : c ≠ 35) (hb : blkB c = false) (h : okB c = false) (r w : List UInt8) (out : List ByteArray) : lineGo (c :: r) w out = none := by
  unfold lineGo
  rw [if_neg h35, if_neg (by rw [hb]; decide), if_neg (by rw [h]; decide)]
theorem byte_eq {c : UInt8} {n : Nat} (hn : n < 256) : (((c.toNat : Nat) : Int) == (n : Int)) = (c == UInt8.ofNat n) := by
  rw [Bool.eq_iff_iff]
  simp only [beq_iff_eq]
  constructor
  · intro h
    apply UInt8.toNat_inj.1
    have : c.toNat = n := by omega
    rw [this, UInt8.toNat_ofNat']
    omega
  · rintro rfl
    rw [UInt8.toNat_ofNat']
    omega
theorem okB_iff {c : UInt8} (hb : blkB c = false) : okB c = decide (33 ≤ c.toNat ∧ c.toNat ≤ 126) := by
  unfold okB
  rw [hb, Bool.false_or, Bool.eq_iff_iff]
  have h32 : c ≠ 32 := by rintro rfl; revert hb; decide
  have h32n : c.toNat ≠ 32 := fun e => h32 (UInt8.toNat_inj.1 e)
  simp only [Bool.and_eq_true, decide_eq_true_eq, UInt8.le_iff_toNat_le, UInt8.reduceToNat]
  omega

set_option maxRecDepth 100000 in
set_option maxHeartbeats 2000000 in
theorem refWords_any (s : ByteArray) (hs : s.size ≤ 1000000) (w : World) :
    Calls Tryd.prog 43 #[.string s] w fun e w' => wordsPost (lineOf s.data.toList) w e w' := by
  obtain ⟨i0, hi, hz0, hz1, hz2⟩ := info_parts infoStr13
  go_enter Tryd.func43, Tryd.ntmps43
  go_wp2
  go_loopw [4, 5, 6] (fun v wv i wr => ∃ (k n : Nat) (wd : ByteArray) (out : List ByteArray), k ≤ s.size ∧ i = .int .i64 k ∧ wv = .string wd ∧ wd.size ≤ k ∧ n ≤ k ∧ Hid (out.length = n) ∧ Hid (wr.ownsRow w.heap.size 9 1 v n (out.map Value.string)) ∧ Hid (Below w.heap.size w wr) ∧ Hid (lineGo (s.data.toList.drop k) wd.data.toList out = lineOf s.data.toList)) (fun _ _ i _ => s.size - (intOf i).toNat)
  case atStart => exact ⟨0, 0, ⟨#[]⟩, [], Nat.zero_le _, rfl, rfl, Nat.le_refl _, Nat.le_refl _, rfl, World.ownsRow_nil _ _ _ _, Below.refl _ _, rfl⟩
  case round =>
    obtain ⟨k, n, wd, out, hk, rfl, rfl, hwk, hon, HN, HR, HB, HG⟩ := hrel
    by_cases hlt : k < s.size
    · have hltz : (k : Int) < (s.size : Int) := by omega
      have k0 : (0 : Int) ≤ (k : Int) := by omega
      have hdr := drop_byte s k hlt
      have hx1 := extract_one s k hlt
      obtain ⟨c, hc⟩ : ∃ c, s[k]'hlt = c := ⟨_, rfl⟩
      rw [hc] at hdr hx1
      by_cases h35 : c = 35
      · subst h35
        have q35 : ((((s[k]'hlt).toNat : Nat) : Int) == 35) = true := by rw [hc]; rfl
        have q35n : ((((s[k]'hlt).toNat : Nat) : Int) != 35) = false := by rw [hc]; rfl
        clear hc hx1
        have HF : Hid (lineOf s.data.toList = some (flush wd.data.toList out)) := by
          show _ = _
          rw [← HG.out, hdr]
          exact lineGo_note _ _ _
        clear hdr
        by_cases he : wd.data.toList = []
        · have hfo : flush wd.data.toList out = out := by unfold flush; rw [if_pos he]
          rw [hfo] at HF
          have hem : wd = ⟨#[]⟩ := by apply ByteArray.ext; apply Array.toList_inj.1; rw [he]
          subst hem
          clear he hfo
          go_wp2
          go_ret2
          show wordsPost _ w (.returned (.tuple #[u4, .bool true])) _
          exact words_post_some HF.out (by rw [HN.out]; exact HR.out) HB.out
        · have hfo : flush wd.data.toList out = out ++ [wd] := by unfold flush; rw [if_neg he]
          rw [hfo] at HF
          have he3 : (!wd.data.toList.isEmpty) = true := by cases h : wd.data.toList with | nil => exact absurd h he | cons a b => rfl
          have he5 : (!wd.toList.isEmpty) = true := by rw [ByteArray.toList_eq]; exact he3
          have he6 : ¬ wd.toList = [] := by rw [ByteArray.toList_eq]; exact he
          have he4 : wd.data.toList.isEmpty = false := by cases h : wd.data.toList with | nil => exact absurd h he | cons a b => rfl
          clear he hfo
          have HR1 := Lib.hid (HR.out.alloc (.cells #[.string wd] 9))
          have HB1 := Lib.hid (HB.out.alloc HB.out.size (.cells #[.string wd] 9))
          have HON := Lib.hid hon
          go_wp2_with (at_builtin; refine wpList_append_own _ rfl _ _ 52 rfl w.heap.size 9 i0 (.string ⟨#[]⟩) 1 16 Tryd.underlying52 hi hz0 hz1 hz2 rfl (by decide) _ n _ rfl HR1.out ⟨wr.heap.size, 0, none⟩ 1 1 [.string wd] rfl ?xc1 ?xc2 ?xc3 ?xc4 ?xc5 ?xc6 ?_; (case xc1 => rfl); (case xc2 => exact cell_one_new _ _ _); (case xc3 => simp [Value.oneCell']); (case xc4 => unfold maxLen; omega); (case xc5 => omega); (case xc6 => exact HB1.out.size); intro v' w6 hown' hgrow _; obtain ⟨g', cap', rfl⟩ := ownsRow_succ hown')
          go_ret2
          refine words_post_some HF.out ?_ (HB1.out.grown hgrow HB1.out.size (fun k e => (HR1.out.lt k e).1))
          rw [List.length_append, HN.out, List.map_append]
          exact hown'
      · have q35 : ((((s[k]'hlt).toNat : Nat) : Int) == 35) = false := by rw [hc, show (35 : Int) = ((35 : Nat) : Int) from rfl, byte_eq (by decide)]; simpa using h35
        have q35n : ((((s[k]'hlt).toNat : Nat) : Int) != 35) = true := by show (!_) = true; rw [q35]; rfl
        have q32 (hc32 : c ≠ 32) : ((((s[k]'hlt).toNat : Nat) : Int) == 32) = false := by rw [hc, show (32 : Int) = ((32 : Nat) : Int) from rfl, byte_eq (by decide)]; simpa using hc32
        have q9 (hc9 : c ≠ 9) : ((((s[k]'hlt).toNat : Nat) : Int) == 9) = false := by rw [hc, show (9 : Int) = ((9 : Nat) : Int) from rfl, byte_eq (by decide)]; simpa using hc9
        have q13 (hc13 : c ≠ 13) : ((((s[k]'hlt).toNat : Nat) : Int) == 13) = false := by rw [hc, show (13 : Int) = ((13 : Nat) : Int) from rfl, byte_eq (by decide)]; simpa using hc13
        cases hb : blkB c with
        | true =>
          by_cases hc32 : c = 32
          · have r32 : ((((s[k]'hlt).toNat : Nat) : Int) == 32) = true := by rw [hc, hc32]; rfl
            clear q32 q9 q13 hc hc32
            by_cases he : wd.data.toList = []
            · have hfo : flush wd.data.toList out = out := by unfold flush; rw [if_pos he]
              have hem : wd = ⟨#[]⟩ := by apply ByteArray.ext; apply Array.toList_inj.1; rw [he]
              have HG2 : Hid (lineGo (s.data.toList.drop (k + 1)) (⟨#[]⟩ : ByteArray).data.toList out = lineOf s.data.toList) := by
                show _ = _
                rw [← HG.out, hdr, lineGo_blank hb, hfo]
              subst hem
              clear he hfo hb hdr hx1 h35
              go_wp2
              go_roundw
              case rel => exact ⟨k + 1, n, ⟨#[]⟩, out, by omega, by go_num, rfl, Nat.zero_le _, by omega, HN, HR, HB, HG2⟩
              case measure => simp [intOf]; omega
            · have hfo : flush wd.data.toList out = out ++ [wd] := by unfold flush; rw [if_neg he]
              have HG2 : Hid (lineGo (s.data.toList.drop (k + 1)) (⟨#[]⟩ : ByteArray).data.toList (out ++ [wd]) = lineOf s.data.toList) := by
                show _ = _
                rw [← HG.out, hdr, lineGo_blank hb, hfo]
              have he3 : (!wd.data.toList.isEmpty) = true := by cases h : wd.data.toList with | nil => exact absurd h he | cons a b => rfl
              have he5 : (!wd.toList.isEmpty) = true := by rw [ByteArray.toList_eq]; exact he3
              have he6 : ¬ wd.toList = [] := by rw [ByteArray.toList_eq]; exact he
              clear he hfo hb hdr hx1 h35
              have HR1 := Lib.hid (HR.out.alloc (.cells #[.string wd] 9))
              have HB1 := Lib.hid (HB.out.alloc HB.out.size (.cells #[.string wd] 9))
              go_wp2_with (at_builtin; refine wpList_append_own _ rfl _ _ 52 rfl w.heap.size 9 i0 (.string ⟨#[]⟩) 1 16 Tryd.underlying52 hi hz0 hz1 hz2 rfl (by decide) _ n _ rfl HR1.out ⟨wr.heap.size, 0, none⟩ 1 1 [.string wd] rfl ?pc1 ?pc2 ?pc3 ?pc4 ?pc5 ?pc6 ?_; (case pc1 => rfl); (case pc2 => exact cell_one_new _ _ _); (case pc3 => simp [Value.oneCell']); (case pc4 => unfold maxLen; omega); (case pc5 => omega); (case pc6 => exact HB1.out.size); intro v' w6 hown' hgrow _; obtain ⟨g', cap', rfl⟩ := ownsRow_succ hown')
              go_roundw
              case rel =>
                refine ⟨k + 1, n + 1, ⟨#[]⟩, out ++ [wd], by omega, by go_num, rfl, Nat.zero_le _, by omega, (by show _ = _; rw [List.length_append, HN.out]; rfl), ?_, HB1.out.grown hgrow HB1.out.size (fun k e => (HR1.out.lt k e).1), HG2⟩
                rw [List.map_append]
                exact hown'
              case measure => simp [intOf]; omega
          have r32 := q32 hc32
          by_cases hc9 : c = 9
          · have r9 : ((((s[k]'hlt).toNat : Nat) : Int) == 9) = true := by rw [hc, hc9]; rfl
            clear q32 q9 q13 hc hc32 hc9
            by_cases he : wd.data.toList = []
            · have hfo : flush wd.data.toList out = out := by unfold flush; rw [if_pos he]
              have hem : wd = ⟨#[]⟩ := by apply ByteArray.ext; apply Array.toList_inj.1; rw [he]
              have HG2 : Hid (lineGo (s.data.toList.drop (k + 1)) (⟨#[]⟩ : ByteArray).data.toList out = lineOf s.data.toList) := by
                show _ = _
                rw [← HG.out, hdr, lineGo_blank hb, hfo]
              subst hem
              clear he hfo hb hdr hx1 h35
              go_wp2
              go_roundw
              case rel => exact ⟨k + 1, n, ⟨#[]⟩, out, by omega, by go_num, rfl, Nat.zero_le _, by omega, HN, HR, HB, HG2⟩
              case measure => simp [intOf]; omega
            · have hfo : flush wd.data.toList out = out ++ [wd] := by unfold flush; rw [if_neg he]
              have HG2 : Hid (lineGo (s.data.toList.drop (k + 1)) (⟨#[]⟩ : ByteArray).data.toList (out ++ [wd]) = lineOf s.data.toList) := by
                show _ = _
                rw [← HG.out, hdr, lineGo_blank hb, hfo]
              have he3 : (!wd.data.toList.isEmpty) = true := by cases h : wd.data.toList with | nil => exact absurd h he | cons a b => rfl
              have he5 : (!wd.toList.isEmpty) = true := by rw [ByteArray.toList_eq]; exact he3
              have he6 : ¬ wd.toList = [] := by rw [ByteArray.toList_eq]; exact he
              clear he hfo hb hdr hx1 h35
              have HR1 := Lib.hid (HR.out.alloc (.cells #[.string wd] 9))
              have HB1 := Lib.hid (HB.out.alloc HB.out.size (.cells #[.string wd] 9))
              go_wp2_with (at_builtin; refine wpList_append_own _ rfl _ _ 52 rfl w.heap.size 9 i0 (.string ⟨#[]⟩) 1 16 Tryd.underlying52 hi hz0 hz1 hz2 rfl (by decide) _ n _ rfl HR1.out ⟨wr.heap.size, 0, none⟩ 1 1 [.string wd] rfl ?qc1 ?qc2 ?qc3 ?qc4 ?qc5 ?qc6 ?_; (case qc1 => rfl); (case qc2 => exact cell_one_new _ _ _); (case qc3 => simp [Value.oneCell']); (case qc4 => unfold maxLen; omega); (case qc5 => omega); (case qc6 => exact HB1.out.size); intro v' w6 hown' hgrow _; obtain ⟨g', cap', rfl⟩ := ownsRow_succ hown')
              go_roundw
              case rel =>
                refine ⟨k + 1, n + 1, ⟨#[]⟩, out ++ [wd], by omega, by go_num, rfl, Nat.zero_le _, by omega, (by show _ = _; rw [List.length_append, HN.out]; rfl), ?_, HB1.out.grown hgrow HB1.out.size (fun k e => (HR1.out.lt k e).1), HG2⟩
                rw [List.map_append]
                exact hown'
              case measure => simp [intOf]; omega
          have r9 := q9 hc9
          have hc13 : c = 13 := by
            unfold blkB at hb
            simp only [Bool.or_eq_true, beq_iff_eq] at hb
            rcases hb with (h | h) | h
            · exact absurd h hc32
            · exact absurd h hc9
            · exact h
          have r13 : ((((s[k]'hlt).toNat : Nat) : Int) == 13) = true := by rw [hc, hc13]; rfl
          clear q32 q9 q13 hc hc32 hc9 hc13
          by_cases he : wd.data.toList = []
          · have hfo : flush wd.data.toList out = out := by unfold flush; rw [if_pos he]
            have hem : wd = ⟨#[]⟩ := by apply ByteArray.ext; apply Array.toList_inj.1; rw [he]
            have HG2 : Hid (lineGo (s.data.toList.drop (k + 1)) (⟨#[]⟩ : ByteArray).data.toList out = lineOf s.data.toList) := by
              show _ = _
              rw [← HG.out, hdr, lineGo_blank hb, hfo]
            subst hem
            clear he hfo hb hdr hx1 h35
            go_wp2
            go_roundw
            case rel => exact ⟨k + 1, n, ⟨#[]⟩, out, by omega, by go_num, rfl, Nat.zero_le _, by omega, HN, HR, HB, HG2⟩
            case measure => simp [intOf]; omega
          · have hfo : flush wd.data.toList out = out ++ [wd] := by unfold flush; rw [if_neg he]
            have HG2 : Hid (lineGo (s.data.toList.drop (k + 1)) (⟨#[]⟩ : ByteArray).data.toList (out ++ [wd]) = lineOf s.data.toList) := by
              show _ = _
              rw [← HG.out, hdr, lineGo_blank hb, hfo]
            have he3 : (!wd.data.toList.isEmpty) = true := by cases h : wd.data.toList with | nil => exact absurd h he | cons a b => rfl
            have he5 : (!wd.toList.isEmpty) = true := by rw [ByteArray.toList_eq]; exact he3
            have he6 : ¬ wd.toList = [] := by rw [ByteArray.toList_eq]; exact he
            clear he hfo hb hdr hx1 h35
            have HR1 := Lib.hid (HR.out.alloc (.cells #[.string wd] 9))
            have HB1 := Lib.hid (HB.out.alloc HB.out.size (.cells #[.string wd] 9))
            go_wp2_with (at_builtin; refine wpList_append_own _ rfl _ _ 52 rfl w.heap.size 9 i0 (.string ⟨#[]⟩) 1 16 Tryd.underlying52 hi hz0 hz1 hz2 rfl (by decide) _ n _ rfl HR1.out ⟨wr.heap.size, 0, none⟩ 1 1 [.string wd] rfl ?rc1 ?rc2 ?rc3 ?rc4 ?rc5 ?rc6 ?_; (case rc1 => rfl); (case rc2 => exact cell_one_new _ _ _); (case rc3 => simp [Value.oneCell']); (case rc4 => unfold maxLen; omega); (case rc5 => omega); (case rc6 => exact HB1.out.size); intro v' w6 hown' hgrow _; obtain ⟨g', cap', rfl⟩ := ownsRow_succ hown')
            go_roundw
            case rel =>
              refine ⟨k + 1, n + 1, ⟨#[]⟩, out ++ [wd], by omega, by go_num, rfl, Nat.zero_le _, by omega, (by show _ = _; rw [List.length_append, HN.out]; rfl), ?_, HB1.out.grown hgrow HB1.out.size (fun k e => (HR1.out.lt k e).1), HG2⟩
              rw [List.map_append]
              exact hown'
            case measure => simp [intOf]; omega
        | false =>
          have hnb : c ≠ 32 ∧ c ≠ 9 ∧ c ≠ 13 := by
            refine ⟨?_, ?_, ?_⟩ <;> (rintro rfl; revert hb; decide)
          have r32 := q32 hnb.1
          have r9 := q9 hnb.2.1
          have r13 := q13 hnb.2.2
          have hok := okB_iff hb
          clear q32 q9 q13 hnb
          by_cases hlo : c.toNat < 33
          · have hloz : ((((s[k]'hlt).toNat : Nat) : Int) < 33) := by rw [hc]; omega
            have HF : Hid (lineOf s.data.toList = none) := by
              show _ = _
              rw [← HG.out, hdr]
              exact lineGo_wrong h35 hb (by rw [hok]; simp; omega) _ _ _
            clear hb hok hdr hx1 hc hlo h35
            go_wp2
            go_ret2
            exact words_post_none HF.out HB.out
          · have hloz : ¬ ((((s[k]'hlt).toNat : Nat) : Int) < 33) := by rw [hc]; omega
            by_cases hhi : 126 < c.toNat
            · have hhiz : (126 : Int) < (((s[k]'hlt).toNat : Nat) : Int) := by rw [hc]; omega
              have HF : Hid (lineOf s.data.toList = none) := by
                show _ = _
                rw [← HG.out, hdr]
                exact lineGo_wrong h35 hb (by rw [hok]; simp; omega) _ _ _
              clear hb hok hdr hx1 hc hlo hhi h35
              go_wp2
              go_ret2
              exact words_post_none HF.out HB.out
            · have hhiz : ¬ (126 : Int) < (((s[k]'hlt).toNat : Nat) : Int) := by rw [hc]; omega
              have HG2 : Hid (lineGo (s.data.toList.drop (k + 1)) (wd ++ ⟨#[c]⟩ : ByteArray).data.toList out = lineOf s.data.toList) := by
                show _ = _
                rw [← HG.out, hdr, lineGo_byte h35 hb (by rw [hok]; simp; omega), list_append]
              clear hb hok hdr hc hlo hhi h35
              have k1 : (k : Int) + 1 ≤ (s.size : Int) := by omega
              have k3 : wd.size + (⟨#[c]⟩ : ByteArray).size ≤ 1000001 := by rw [show (⟨#[c]⟩ : ByteArray).size = 1 from rfl]; omega
              have k2 : (k : Int) ≤ (s.size : Int) := by omega
              go_wp2
              go_roundw
              case rel => exact ⟨k + 1, n, wd ++ ⟨#[c]⟩, out, by omega, by go_num, rfl, by rw [ByteArray.size_append, show (⟨#[c]⟩ : ByteArray).size = 1 from rfl]; omega, by omega, HN, HR, HB, HG2⟩
              case measure => simp [intOf]; omega
    · have hltz : ¬ (k : Int) < (s.size : Int) := by omega
      have hdr := drop_end s k hlt
      have HF : Hid (lineOf s.data.toList = some (flush wd.data.toList out)) := by
        show _ = _
        rw [← HG.out, hdr]
        rfl
      clear hdr
      by_cases he : wd.data.toList = []
      · have hfo : flush wd.data.toList out = out := by unfold flush; rw [if_pos he]
        rw [hfo] at HF
        have hem : wd = ⟨#[]⟩ := by apply ByteArray.ext; apply Array.toList_inj.1; rw [he]
        subst hem
        clear he hfo
        go_wp2
        go_ret2
        show wordsPost _ w (.returned (.tuple #[u4, .bool true])) _
        exact words_post_some HF.out (by rw [HN.out]; exact HR.out) HB.out
      · have hfo : flush wd.data.toList out = out ++ [wd] := by unfold flush; rw [if_neg he]
        rw [hfo] at HF
        have he3 : (!wd.data.toList.isEmpty) = true := by cases h : wd.data.toList with | nil => exact absurd h he | cons a b => rfl
        have he5 : (!wd.toList.isEmpty) = true := by rw [ByteArray.toList_eq]; exact he3
        have he6 : ¬ wd.toList = [] := by rw [ByteArray.toList_eq]; exact he
        have he4 : wd.data.toList.isEmpty = false := by cases h : wd.data.toList with | nil => exact absurd h he | cons a b => rfl
        clear he hfo
        have HR1 := Lib.hid (HR.out.alloc (.cells #[.string wd] 9))
        have HB1 := Lib.hid (HB.out.alloc HB.out.size (.cells #[.string wd] 9))
        have HON := Lib.hid hon
        go_wp2_with (at_builtin; refine wpList_append_own _ rfl _ _ 52 rfl w.heap.size 9 i0 (.string ⟨#[]⟩) 1 16 Tryd.underlying52 hi hz0 hz1 hz2 rfl (by decide) _ n _ rfl HR1.out ⟨wr.heap.size, 0, none⟩ 1 1 [.string wd] rfl ?yc1 ?yc2 ?yc3 ?yc4 ?yc5 ?yc6 ?_; (case yc1 => rfl); (case yc2 => exact cell_one_new _ _ _); (case yc3 => simp [Value.oneCell']); (case yc4 => unfold maxLen; omega); (case yc5 => omega); (case yc6 => exact HB1.out.size); intro v' w6 hown' hgrow _; obtain ⟨g', cap', rfl⟩ := ownsRow_succ hown')
        go_ret2
        refine words_post_some HF.out ?_ (HB1.out.grown hgrow HB1.out.size (fun k e => (HR1.out.lt k e).1))
        rw [List.length_append, HN.out, List.map_append]
        exact hown'
end Go.Proofs.YtkgmbogmeppmcaaDoor
