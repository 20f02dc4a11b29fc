/- The built-in table may be: a check by the kernel. -/
import Derived.Test.YtakmbmlpgmppiaaDoorSysLess
namespace Go.Proofs.YtakmbmlpgmppiaaDoor
open Go Go.Proofs Go.RowKit

def nameChk (s : ByteArray) : Bool :=
  decide (s.size ≤ 30) && (match s.data.toList with | [] => false | c :: _ => decide (97 ≤ c.toNat ∧ c.toNat ≤ 122)) && !(s.toList == [100, 101, 102, 97, 117, 108, 116]) && !(s.toList == [120, 51, 50]) && s.data.toList.all (fun c => decide ((97 ≤ c.toNat ∧ c.toNat ≤ 122) ∨ (48 ≤ c.toNat ∧ c.toNat ≤ 57) ∨ c.toNat = 95))
theorem nameChk_ok {s : ByteArray} (h : nameChk s = true) : refNameP s := by
  unfold nameChk at h
  simp only [Bool.and_eq_true, decide_eq_true_eq, Bool.not_eq_true', beq_eq_false_iff_ne, ne_eq, List.all_eq_true] at h
  obtain ⟨⟨⟨⟨h1, h2⟩, h3⟩, h4⟩, h5⟩ := h
  refine ⟨h1, ?_, h3, h4, ?_⟩
  · cases hd : s.data.toList with
    | nil => rw [hd] at h2; cases h2
    | cons c r =>
      rw [hd] at h2
      have h0 : 0 < s.size := by
        have : s.data.toList.length = s.data.size := Array.length_toList
        show 0 < s.data.size
        rw [← this, hd]
        exact Nat.succ_pos _
      refine ⟨h0, ?_⟩
      have e : s[0]'h0 = c := by
        show s.data[0]'h0 = c
        rw [← Array.getElem_toList]
        exact (List.getElem_of_eq hd _).trans rfl
      rw [e]
      exact of_decide_eq_true h2
  · intro j hj
    have e : s[j]'hj ∈ s.data.toList := by
      show s.data[j]'hj ∈ s.data.toList
      rw [← Array.getElem_toList]
      exact List.getElem_mem _
    exact h5 _ e
instance (r : SRow) (a : Nat) : Decidable (inR (r.num a)) := by unfold inR; infer_instance
instance (r : SRow) : Decidable (muxOk r) := by unfold muxOk; infer_instance
instance (r : SRow) : Decidable (rngOk r) := by unfold rngOk; infer_instance
instance (r : SRow) : Decidable (muxNo r) := by unfold muxNo; infer_instance
instance (x r : SRow) : Decidable (clash x r) := by unfold clash; infer_instance
theorem built_names : ∀ j, j < 83 → nameChk (builtinL[j]!).name = true := by decide +kernel
theorem built_rise : ∀ j, j < 83 → ¬ (0 < j ∧ Op.bytesLess (builtinL[j - 1]!).name.toList (builtinL[j]!).name.toList = false) := by decide +kernel
theorem built_rng : ∀ j, j < 83 → rngOk builtinL[j]! := by decide +kernel
theorem built_mux : ∀ j, j < 83 → ¬ muxNo builtinL[j]! := by decide +kernel
theorem built_apart : ∀ j, j < 83 → ∀ k, k < j → ¬ clash builtinL[k]! builtinL[j]! := by decide +kernel
theorem builtin_ok : TableOk builtinL := by
  intro j hj
  have hj' : j < 83 := hj
  exact rs_mk (nameChk_ok (built_names j hj')) (built_rise j hj') (built_rng j hj') (built_mux j hj') (built_apart j hj')
end Go.Proofs.YtakmbmlpgmppiaaDoor
