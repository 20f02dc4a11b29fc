/- A map from strings to functions, of two entries: what the stores and a look-up do. -/
import Derived.Maps.Keyed
import Derived.Maps.Own
import Derived.Test.YtmjipkdejggbfaaGreatDoorQPolRule
namespace Go.Proofs.YtmjipkdejggbfaaGreatDoor
open Go Go.Proofs Go.RowKit Go.Maps Go.WideMaps Go.ChangeMaps

theorem keyedS : Keyed Tryz.prog 9 := string_keyed Tryz.underlying9
theorem keyS_of (s : ByteArray) (hs : s.size ≤ 1000000) : ∃ l, keyOf Tryz.prog 9 (.string s) = some l := by
  have h : s.size ≤ maxLen := by unfold maxLen; omega
  refine ⟨.string s.data.toList, ?_⟩
  unfold keyOf mapKey
  simp [Tryz.underlying9, h]
theorem fm_ins {W : World} {B : Nat} {es : Array MapEntry} {clock : Nat} (s : ByteArray) (hs : s.size ≤ 1000000) (v : Value) (hb : W.heap[B]? = some (.map es clock)) (hk : ∀ e ∈ es.toList, ∃ q : ByteArray, e.key = .string q ∧ q ≠ s ∧ q.size ≤ 1000000) :
    (Instr.mapUpdate 101 (.map (some B)) (.string s) v).run Tryz.prog W = .ok () (setBlock W B (.map (es.push ⟨.string s, v, clock⟩) (clock + 1))) := by
  obtain ⟨kl, hkey⟩ := keyS_of s hs
  rcases keyedS.find W hkey es.toList (fun e he => by obtain ⟨q, e1, _, hq⟩ := hk e he; rw [e1]; exact keyS_of q hq) with ⟨h4, h5⟩ | ⟨j, e0, h4, h5, h6⟩
  · simp [Instr.mapUpdate, run_underlying Tryz.underlying101, MapKept.run_getObj_map hb, keyedS.check W false hkey, h4, MapKept.run_setObj_map _ hb, Result.andThen, setBlock]
  · obtain ⟨q, e1, hne, _⟩ := hk e0 (List.mem_of_getElem? h5)
    rw [e1] at h6
    exact absurd (Value.string.inj h6) hne
theorem fm_look {W : World} {B : Nat} {a b : ByteArray} {f g : Value} (s : ByteArray) (hs : s.size ≤ 1000000) (ha : a.size ≤ 1000000) (hb' : b.size ≤ 1000000) (hab : a ≠ b) (hb : W.heap[B]? = some (.map #[⟨.string a, f, 0⟩, ⟨.string b, g, 1⟩] 2)) :
    (Instr.lookup 101 (.map (some B)) (.string s) false).run Tryz.prog W = .ok (if s = a then f else if s = b then g else .nilFunc) W := by
  obtain ⟨kl, hkey⟩ := keyS_of s hs
  have hz : ∀ W, (zeroValue 1).run Tryz.prog W = .ok .nilFunc W := fun _ => by kernel_rfl
  rcases keyedS.find W hkey [⟨.string a, f, 0⟩, ⟨.string b, g, 1⟩] (fun e he => by
    simp at he
    rcases he with rfl | rfl
    · exact keyS_of a ha
    · exact keyS_of b hb') with ⟨h4, h5⟩ | ⟨j, e0, h4, h5, h6⟩
  · have hn1 : ¬ s = a := fun e => h5 ⟨.string a, f, 0⟩ (by simp) (by rw [e])
    have hn2 : ¬ s = b := fun e => h5 ⟨.string b, g, 1⟩ (by simp) (by rw [e])
    rw [if_neg hn1, if_neg hn2]
    simp [Instr.lookup, run_underlying Tryz.underlying101, MapKept.run_getObj_map hb, keyedS.check W _ hkey, h4, hz, Result.andThen]
  · have hr : (Instr.lookup 101 (.map (some B)) (.string s) false).run Tryz.prog W = .ok e0.val W := by
      simp [Instr.lookup, run_underlying Tryz.underlying101, MapKept.run_getObj_map hb, keyedS.check W _ hkey, h4, Result.andThen]
    rw [hr]
    match j, h5 with
    | 0, h5 =>
      simp at h5
      subst h5
      rw [if_pos (Value.string.inj h6).symm]
    | 1, h5 =>
      simp at h5
      subst h5
      have e := (Value.string.inj h6).symm
      rw [if_neg (fun e2 => hab (e2.symm.trans e)), if_pos e]
    | j + 2, h5 => simp at h5
end Go.Proofs.YtmjipkdejggbfaaGreatDoor
