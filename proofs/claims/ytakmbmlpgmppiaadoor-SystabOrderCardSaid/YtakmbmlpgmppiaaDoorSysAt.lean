/- strainerref11.At, strainerlaw11.light. -/
import Derived.Test.YtakmbmlpgmppiaaDoorSysRef
namespace Go.Proofs.YtakmbmlpgmppiaaDoor
open Go Go.Proofs Go.RowKit


/-- Are rows few, and their names short? -/
def lightB (l : List SRow) : Bool := decide (l.length ≤ 40) && l.all (fun r => decide (r.name.size ≤ 60))
theorem lightB_false {l : List SRow} {k : Nat} (hk : k < l.length) (h : ¬ (l[k]!).name.size ≤ 60) : lightB l = false := by
  have : l.all (fun r => decide (r.name.size ≤ 60)) = false := by
    rw [List.all_eq_false]
    refine ⟨l[k], List.getElem_mem hk, ?_⟩
    rw [show l[k] = l[k]! by simp [hk]]
    simpa using h
  unfold lightB
  rw [this, Bool.and_false]
theorem lightB_true {l : List SRow} (hl : l.length ≤ 40) (h : ∀ k, k < l.length → (l[k]!).name.size ≤ 60) : lightB l = true := by
  unfold lightB
  rw [Bool.and_eq_true]
  refine ⟨by simpa using hl, List.all_eq_true.2 (fun r hr => ?_)⟩
  obtain ⟨k, hk, rfl⟩ := List.mem_iff_getElem.1 hr
  have := h k hk
  rw [show l[k]! = l[k] by simp [hk]] at this
  simpa using this

set_option maxRecDepth 100000 in
set_option maxHeartbeats 1000000 in
theorem light_any (sv : Value) (l : List SRow) (w : World) (hR : RowsV w sv l) :
    Calls Tryd.prog 9 #[sv] w fun e w' => e = .returned (.bool (lightB l)) ∧ ∃ m, w' = w.drewN m := by
  obtain ⟨x, c, rfl, h⟩ := hR
  by_cases h40 : l.length ≤ 40
  · rcases h with rfl | ⟨b, off, rfl, hlt, hr⟩
    · go_enter Tryd.func9, Tryd.ntmps9
      go_wp2
      go_loop [3] (fun s8 => s8 = .int .i64 0) (fun _ => 0)
      case atStart => rfl
      case round =>
        obtain rfl := hrel
        go_wp2
        go_ret
        exact ⟨rfl, 0, rfl⟩
    · have Hr := Lib.hid hr
      clear hr
      obtain ⟨n, hn⟩ : ∃ n, l.length = n := ⟨_, rfl⟩
      rw [hn] at h40 ⊢
      have Hn := Lib.hid hn
      clear hn
      have hn40 : ¬ (n : Int) > 40 := by omega
      have hn40' : ¬ (40 : Int) < (n : Int) := by omega
      go_enter Tryd.func9, Tryd.ntmps9
      go_wp2
      go_loopg [3] n (fun gg s7 wr => ∃ kk : Nat, kk ≤ n ∧ n - kk ≤ gg ∧ s7 = .int .i64 kk ∧ Hid (∃ m, wr = w.drewN m) ∧ Hid (∀ j, j < kk → (l[j]!).name.size ≤ 60))
      case atStart => exact ⟨0, Nat.zero_le _, by omega, rfl, ⟨0, rfl⟩, fun j hj => absurd hj (Nat.not_lt_zero _)⟩
      case round =>
        obtain ⟨kk, hkk, hg, rfl, BW, A⟩ := hrel
        obtain ⟨m, rfl⟩ := BW.out
        clear BW
        by_cases hlt : kk < n
        · have hltz : (kk : Int) < (n : Int) := by omega
          have c0 : (w.drewN m).cell? ⟨b, off + kk * 8, none⟩ = some (.string (l[kk]!).name) := Hr.out.nameCell (by rw [Hn.out]; exact hlt)
          generalize hnm : (l[kk]!).name = nm at c0
          by_cases hs : nm.size ≤ 60
          · have HS := Lib.hid (show (l[kk]!).name.size ≤ 60 by rw [hnm]; exact hs)
            clear hnm
            have hs' : ¬ (60 : Int) < (nm.size : Int) := by omega
            go_wp2
            go_roundg (n - (kk + 1))
            case measure => omega
            case rel =>
              refine ⟨kk + 1, by omega, by omega, by go_num, ⟨m, rfl⟩, (show Hid _ from fun j hj => ?_)⟩
              by_cases e : j = kk
              · subst e; exact HS.out
              · exact A.out j (by omega)
          · have HS := Lib.hid (show ¬ (l[kk]!).name.size ≤ 60 by rw [hnm]; exact hs)
            clear hnm
            have hs' : (60 : Int) < (nm.size : Int) := by omega
            go_wp2
            go_ret
            exact ⟨retB (lightB_false (by rw [Hn.out]; exact hlt) HS.out).symm, m, rfl⟩
        · have hltz : ¬ (kk : Int) < (n : Int) := by omega
          obtain rfl : kk = n := by omega
          go_wp2
          go_ret
          exact ⟨retB (lightB_true (by rw [Hn.out]; exact h40) (fun j hj => A.out j (by rw [Hn.out] at hj; exact hj))).symm, m, rfl⟩
  · have hB : lightB l = false := by unfold lightB; simp [h40]
    rw [hB]
    have h40' : (40 : Int) < (l.length : Int) := by omega
    clear h hB
    generalize l.length = n at *
    go_enter Tryd.func9, Tryd.ntmps9
    go_wp2
    go_ret
    exact ⟨rfl, 0, rfl⟩
end Go.Proofs.YtakmbmlpgmppiaaDoor
