/- strings.Cut at one byte. -/
import Derived.Test.YtokehnclakedeaaGreatDoorLexP
import Derived.Test.YtokehnclakedeaaGreatDoorBlk
import Derived.Test.YtokehnclakedeaaGreatDoorShelf
import Derived.Shelf.Abstract
import Derived.Shelf.Strings.Search3
import Derived.Deep.QuietTactic
import Derived.BigQuiet
import Derived.Lib.Hide
namespace Go.Proofs.YtokehnclakedeaaGreatDoor
open Go Go.Proofs Go.RowKit Go.Shelf

theorem index_sep (t : ByteArray) (b : UInt8) : (∃ a r, t.data.toList = a ++ b :: r ∧ b ∉ a ∧ Lib.indexByte t.data.toList b = (a.length : Int)) ∨ (b ∉ t.data.toList ∧ Lib.indexByte t.data.toList b = -1) := by
  by_cases h : b ∈ t.data.toList
  · obtain ⟨a, r, h1, h2⟩ := split_at _ _ h
    exact .inl ⟨a, r, h1, h2, by rw [h1]; exact indexByte_at a r b h2⟩
  · exact .inr ⟨h, indexByte_none _ _ h⟩
theorem extract_head {t : ByteArray} {b : UInt8} {a r : List UInt8} (h : t.data.toList = a ++ b :: r) : t.extract 0 a.length = ⟨a.toArray⟩ := by
  apply ByteArray.ext
  apply Array.toList_inj.1
  rw [ByteArray.data_extract, Array.toList_extract, h]
  simp [List.extract]
theorem extract_tail {t : ByteArray} {b : UInt8} {a r : List UInt8} (h : t.data.toList = a ++ b :: r) : t.extract (a.length + 1) t.size = ⟨r.toArray⟩ := by
  have hs : t.size = a.length + 1 + r.length := by
    have := congrArg List.length h
    rw [Array.length_toList] at this
    have e : t.data.size = t.size := rfl
    rw [e] at this
    rw [this]
    simp
    omega
  apply ByteArray.ext
  apply Array.toList_inj.1
  rw [ByteArray.data_extract, Array.toList_extract, h, hs]
  simp [List.extract]

/-- What Cut answers: ahead, behind, whether the byte is there. -/
def cutV (b : UInt8) : List UInt8 → List UInt8 × List UInt8 × Bool
  | [] => ([], [], false)
  | c :: r => if c = b then ([], r, true) else (c :: (cutV b r).1, (cutV b r).2.1, (cutV b r).2.2)
theorem cutV_at (b : UInt8) : ∀ (a r : List UInt8), b ∉ a → cutV b (a ++ b :: r) = (a, r, true)
  | [], r, _ => by show (if b = b then _ else _) = _; rw [if_pos rfl]
  | c :: a, r, h => by
    have hc : ¬ c = b := fun e => h (by simp [e])
    rw [List.cons_append]
    unfold cutV
    rw [if_neg hc, cutV_at b a r (fun hm => h (by simp [hm]))]
theorem cutV_none (b : UInt8) : ∀ (l : List UInt8), b ∉ l → cutV b l = (l, [], false)
  | [], _ => rfl
  | c :: l, h => by
    have hc : ¬ c = b := fun e => h (by simp [e])
    unfold cutV
    rw [if_neg hc, cutV_none b l (fun hm => h (by simp [hm]))]
set_option maxRecDepth 100000 in
set_option maxHeartbeats 1000000 in
theorem cut1L_any (t : ByteArray) (b : UInt8) (ht : t.size ≤ 1000000) (w : World) :
    Calls Tryz.prog 46 #[.string t, .string ⟨#[b]⟩] w fun e w' => e = .returned (.tuple #[.string ⟨(cutV b t.data.toList).1.toArray⟩, .string ⟨(cutV b t.data.toList).2.1.toArray⟩, .bool (cutV b t.data.toList).2.2]) ∧ ∃ n, w' = w.drewN n := by
  rcases index_sep t b with ⟨a, r, hr1, hr2, hix⟩ | ⟨hno, hix⟩
  · have hc : cutV b t.data.toList = (a, r, true) := by rw [hr1]; exact cutV_at b a r hr2
    have e1 := extract_head hr1
    have e2 := extract_tail hr1
    have hsz : t.size = a.length + 1 + r.length := by
      have := congrArg List.length hr1
      rw [Array.length_toList] at this
      have e : t.data.size = t.size := rfl
      rw [e] at this
      rw [this]
      simp
      omega
    rw [hc]
    dsimp only
    obtain ⟨fr, hfr⟩ : ∃ fr : ByteArray, fr = ⟨a.toArray⟩ := ⟨_, rfl⟩
    obtain ⟨rest, hrest⟩ : ∃ rest : ByteArray, rest = ⟨r.toArray⟩ := ⟨_, rfl⟩
    rw [← hfr] at e1 ⊢
    rw [← hrest] at e2 ⊢
    obtain ⟨k, hk⟩ : ∃ k, a.length = k := ⟨_, rfl⟩
    rw [hk] at hix hsz e1 e2
    have Hix := Lib.hid hix
    have k0 : (0 : Int) ≤ (k : Int) := by omega
    have k1 : (k : Int) ≤ (t.size : Int) := by omega
    have k2 : (k : Int) + 1 ≤ (t.size : Int) := by omega
    clear hix hc hr1 hr2 hfr hrest hk hsz
    go_enter Tryz.func46, Tryz.ntmps46
    go_wp2_with fail
    refine (Any.stringslite_Index_one Tryz.lays219 t b _).mono ?_
    rintro e w1 ⟨rfl, rfl⟩
    rw [Hix.out]
    go_wp2
    go_quiet (fail)
    go_wp2
    go_ret3
    exact ⟨rfl, _, rfl⟩
  · have hc : cutV b t.data.toList = (t.data.toList, [], false) := cutV_none b _ hno
    have e1 : (⟨t.data.toList.toArray⟩ : ByteArray) = t := by simp
    rw [hc]
    dsimp only
    rw [e1]
    have Hix := Lib.hid hix
    clear hix hc e1
    go_enter Tryz.func46, Tryz.ntmps46
    go_wp2_with fail
    refine (Any.stringslite_Index_one Tryz.lays219 t b _).mono ?_
    rintro e w1 ⟨rfl, rfl⟩
    rw [Hix.out]
    go_wp2
    go_ret3
    exact ⟨rfl, 0, rfl⟩
set_option maxRecDepth 100000 in
set_option maxHeartbeats 1000000 in
theorem cut1_any (t : ByteArray) (b : UInt8) (ht : t.size ≤ 1000000) (w : World) :
    Calls Tryz.prog 30 #[.string t, .string ⟨#[b]⟩] w fun e w' => e = .returned (.tuple #[.string ⟨(cutV b t.data.toList).1.toArray⟩, .string ⟨(cutV b t.data.toList).2.1.toArray⟩, .bool (cutV b t.data.toList).2.2]) ∧ Below w.heap.size w w' := by
  have hc := cut1L_any t b ht w
  generalize (⟨(cutV b t.data.toList).1.toArray⟩ : ByteArray) = c1 at hc ⊢
  generalize (⟨(cutV b t.data.toList).2.1.toArray⟩ : ByteArray) = c2 at hc ⊢
  generalize (cutV b t.data.toList).2.2 = c3 at hc ⊢
  have HC := Lib.hid hc
  clear hc
  go_enter Tryz.func30, Tryz.ntmps30
  go_wp2_with fail
  refine HC.out.mono ?_
  rintro e w1 ⟨rfl, n, rfl⟩
  go_wp2
  go_ret3
  exact ⟨rfl, ⟨rfl, rfl, rfl, Nat.le_refl _, fun _ _ => rfl⟩⟩
end Go.Proofs.YtokehnclakedeaaGreatDoor
