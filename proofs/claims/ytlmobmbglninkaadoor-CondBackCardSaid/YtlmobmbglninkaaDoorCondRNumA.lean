/- The document's Number at every text: numOf. -/
import Derived.Test.YtlmobmbglninkaaDoorCondRNum
namespace Go.Proofs.YtlmobmbglninkaaDoor
open Go Go.Proofs Go.RowKit

theorem len_size (s : ByteArray) : s.data.toList.length = s.size := Array.length_toList
theorem take2 (s : ByteArray) : (s.extract 0 2).toList = s.data.toList.take 2 := by
  rw [ByteArray.toList_eq, ByteArray.data_extract, Array.toList_extract]
  simp [List.extract]
theorem drop2 (s : ByteArray) : (s.extract 2 s.size).data.toList = s.data.toList.drop 2 := by
  rw [ByteArray.data_extract, Array.toList_extract]
  simp only [List.extract]
  rw [List.take_of_length_le]
  rw [List.length_drop, len_size]
  omega
theorem prefix2 (l : List UInt8) : Lib.hasPrefix l [48, 120] = (l.take 2 == [48, 120]) := by
  rw [Bool.eq_iff_iff]
  unfold Lib.hasPrefix
  rw [List.isPrefixOf_iff_prefix, List.prefix_iff_eq_take, beq_iff_eq]
  exact ⟨fun h => h.symm, fun h => h.symm⟩

theorem refNumber_any (s : ByteArray) (hs : s.size ≤ 1000000) (w : World) :
    Calls Tryd.prog 12 #[.string s] w fun e w' => e = .returned (.tuple #[.int .u64 (((numOf s.data.toList).getD 0 : Nat) : Int), .bool (numOf s.data.toList).isSome]) ∧ Below w.heap.size w w' := by
  have hl := len_size s
  cases hp : Lib.hasPrefix s.data.toList [48, 120] with
  | false =>
    have hn : numOf s.data.toList = numRest 10 s.data.toList := by unfold numOf; rw [hp]; rfl
    rw [hn]
    exact refNum10 s hs (fun _ => by rw [take2, ← prefix2, hp]) w
  | true =>
    have hn : numOf s.data.toList = numRest 16 (s.extract 2 s.size).data.toList := by
      unfold numOf Lib.trimPrefix
      rw [hp, drop2]
      rfl
    rw [hn]
    by_cases h2 : 2 < s.size
    · have hd := drop2 s
      have hsz : (s.extract 2 s.size).size = s.size - 2 := by
        rw [← len_size, hd, List.length_drop, hl]
      exact refNum16 s _ (by omega) hs h2 (by rw [take2, ← prefix2, hp]) rfl (by omega) w
    · have ht : s.data.toList.take 2 = s.data.toList := List.take_of_length_le (by omega)
      have he : s.data.toList = [48, 120] := by
        rw [prefix2, ht] at hp
        simpa using hp
      have hz : (s.extract 2 s.size).data.toList = [] := by rw [drop2, he]; rfl
      have h := refNum10 s hs (fun h => absurd h h2) w
      have e1 : numRest 10 s.data.toList = none := by rw [he]; rfl
      have e2 : numRest 16 (s.extract 2 s.size).data.toList = none := by rw [hz]; rfl
      rw [e1] at h
      rw [e2]
      exact h
end Go.Proofs.YtlmobmbglninkaaDoor
