/- strainerref11.At, strainerlaw11.light. -/
import Derived.Test.YtakmbmlpgmppiaaSysRef
namespace Go.Proofs.Ytakmbmlpgmppiaa
open Go Go.Proofs Go.RowKit

set_option maxRecDepth 100000 in
set_option maxHeartbeats 1000000 in
theorem refAt_at (a : Nat) (ha : a < 5) (v : Int) (b off c : Nat) (zs : List SRow) (w : World) (hbig : zs.length ≤ 1000000) (_hb : b < w.heap.size) (hc : RowsAt w b off zs) :
    Calls Try.prog 19 #[.slice (some ⟨b, off, none⟩) zs.length c, .int .i64 a, .int .i64 v] w fun e w' => e = .returned (.int .i64 (firstN (fun i => rnum zs a i == v) 0 zs.length)) ∧ ∃ m, w' = w.drewN m := by
  have hnb : ∀ (m i : Nat), i < zs.length → Calls Try.prog 18 #[.slice (some ⟨b, off, none⟩) zs.length c, .int .i64 a, .int .i64 i] (w.drewN m) fun e w' => e = .returned (.int .i64 (rnum zs a i)) ∧ ∃ k, w' = (w.drewN m).drewN k :=
    fun m i hi => refNumber_at b off c i a ha zs (w.drewN m) hbig hi hc
  generalize hf : (fun i => rnum zs a i == v) = q
  have hq : ∀ i, q i = (rnum zs a i == v) := fun i => by rw [← hf]
  clear hf hc
  have Hq := Lib.hid hq
  clear hq
  generalize zs.length = n at *
  have Hnb := Lib.hid hnb
  clear hnb
  go_enter Try.func19, Try.ntmps19
  go_wp2
  go_loopg [7] n (fun gg s7 wr => ∃ kk : Nat, kk ≤ n ∧ n - kk ≤ gg ∧ s7 = .int .i64 kk ∧ Hid (∃ m, wr = w.drewN m) ∧ Hid (∀ j, j < kk → q j = false))
  case atStart => exact ⟨0, Nat.zero_le _, by omega, rfl, ⟨0, rfl⟩, fun j hj => absurd hj (Nat.not_lt_zero _)⟩
  case round =>
    obtain ⟨kk, hkk, hg, rfl, BW, A⟩ := hrel
    obtain ⟨m, rfl⟩ := BW.out
    clear BW
    by_cases hlt : kk < n
    · have hltz : (kk : Int) < (n : Int) := by omega
      have hcall := Hnb.out m kk hlt
      have hqk := Hq.out kk
      generalize rnum zs a kk = u at hcall hqk
      have Hcall := Lib.hid hcall
      clear hcall
      by_cases hu : u = v
      · subst hu
        rw [beq_self_eq_true] at hqk
        have HQ := Lib.hid hqk
        clear hqk
        go_wp2_with fail
        refine Hcall.out.mono ?_
        rintro e w' ⟨rfl, m', rfl⟩
        go_wp2
        go_ret
        exact ⟨retI (firstN_hit q n 0 kk (Nat.zero_le _) (by omega) (fun j _ hj => A.out j hj) HQ.out).symm, m + m', rfl⟩
      · have hu' : (u == v) = false := by simpa using hu
        rw [hu'] at hqk
        have HQ := Lib.hid hqk
        clear hqk
        go_wp2_with fail
        refine Hcall.out.mono ?_
        rintro e w' ⟨rfl, m', rfl⟩
        go_wp2
        go_roundg (n - (kk + 1))
        case measure => omega
        case rel =>
          refine ⟨kk + 1, by omega, by omega, by go_num, ⟨m + m', rfl⟩, (show Hid _ from fun j hj => ?_)⟩
          by_cases e : j = kk
          · subst e; exact HQ.out
          · exact A.out j (by omega)
    · have hltz : ¬ (kk : Int) < (n : Int) := by omega
      obtain rfl : kk = n := by omega
      go_wp2
      go_ret
      exact ⟨retI (firstN_miss q kk 0 (fun j _ hj => A.out j (by omega))).symm, m, rfl⟩

theorem refAt_any (a : Nat) (ha : a < 5) (v : Int) (sv : Value) (l : List SRow) (w : World) (hbig : l.length ≤ 1000000) (hR : RowsV w sv l) :
    Calls Try.prog 19 #[sv, .int .i64 a, .int .i64 v] w fun e w' => e = .returned (.int .i64 (firstN (fun i => rnum l a i == v) 0 l.length)) ∧ ∃ m, w' = w.drewN m := by
  obtain ⟨x, c, rfl, h⟩ := hR
  rcases h with rfl | ⟨b, off, rfl, hlt, hr⟩
  · go_enter Try.func19, Try.ntmps19
    go_wp2
    go_loop [7] (fun s8 => s8 = .int .i64 0) (fun _ => 0)
    case atStart => rfl
    case round =>
      obtain rfl := hrel
      go_wp2
      go_ret
      exact ⟨rfl, 0, rfl⟩
  · exact refAt_at a ha v b off c l w hbig hlt hr

/-- Are rows few, and their names short? -/
def lightB (l : List SRow) : Bool := decide (l.length ≤ 40) && l.all (fun r => decide (r.name.size ≤ 60))
theorem lightB_false {l : List SRow} {k : Nat} (hk : k < l.length) (h : ¬ (l[k]!).name.size ≤ 60) : lightB l = false := by
  have : l.all (fun r => decide (r.name.size ≤ 60)) = false := by
    rw [List.all_eq_false]
    refine ⟨l[k], List.getElem_mem hk, ?_⟩
    rw [show l[k] = l[k]! by simp [hk]]
    simpa using h
  unfold lightB
  rw [this, Bool.and_false]
theorem lightB_true {l : List SRow} (hl : l.length ≤ 40) (h : ∀ k, k < l.length → (l[k]!).name.size ≤ 60) : lightB l = true := by
  unfold lightB
  rw [Bool.and_eq_true]
  refine ⟨by simpa using hl, List.all_eq_true.2 (fun r hr => ?_)⟩
  obtain ⟨k, hk, rfl⟩ := List.mem_iff_getElem.1 hr
  have := h k hk
  rw [show l[k]! = l[k] by simp [hk]] at this
  simpa using this

set_option maxRecDepth 100000 in
set_option maxHeartbeats 1000000 in
theorem light_any (sv : Value) (l : List SRow) (w : World) (hR : RowsV w sv l) :
    Calls Try.prog 8 #[sv] w fun e w' => e = .returned (.bool (lightB l)) ∧ ∃ m, w' = w.drewN m := by
  obtain ⟨x, c, rfl, h⟩ := hR
  by_cases h40 : l.length ≤ 40
  · rcases h with rfl | ⟨b, off, rfl, hlt, hr⟩
    · go_enter Try.func8, Try.ntmps8
      go_wp2
      go_loop [3] (fun s8 => s8 = .int .i64 0) (fun _ => 0)
      case atStart => rfl
      case round =>
        obtain rfl := hrel
        go_wp2
        go_ret
        exact ⟨rfl, 0, rfl⟩
    · have Hr := Lib.hid hr
      clear hr
      obtain ⟨n, hn⟩ : ∃ n, l.length = n := ⟨_, rfl⟩
      rw [hn] at h40 ⊢
      have Hn := Lib.hid hn
      clear hn
      have hn40 : ¬ (n : Int) > 40 := by omega
      have hn40' : ¬ (40 : Int) < (n : Int) := by omega
      go_enter Try.func8, Try.ntmps8
      go_wp2
      go_loopg [3] n (fun gg s7 wr => ∃ kk : Nat, kk ≤ n ∧ n - kk ≤ gg ∧ s7 = .int .i64 kk ∧ Hid (∃ m, wr = w.drewN m) ∧ Hid (∀ j, j < kk → (l[j]!).name.size ≤ 60))
      case atStart => exact ⟨0, Nat.zero_le _, by omega, rfl, ⟨0, rfl⟩, fun j hj => absurd hj (Nat.not_lt_zero _)⟩
      case round =>
        obtain ⟨kk, hkk, hg, rfl, BW, A⟩ := hrel
        obtain ⟨m, rfl⟩ := BW.out
        clear BW
        by_cases hlt : kk < n
        · have hltz : (kk : Int) < (n : Int) := by omega
          have c0 : (w.drewN m).cell? ⟨b, off + kk * 8, none⟩ = some (.string (l[kk]!).name) := Hr.out.nameCell (by rw [Hn.out]; exact hlt)
          generalize hnm : (l[kk]!).name = nm at c0
          by_cases hs : nm.size ≤ 60
          · have HS := Lib.hid (show (l[kk]!).name.size ≤ 60 by rw [hnm]; exact hs)
            clear hnm
            have hs' : ¬ (60 : Int) < (nm.size : Int) := by omega
            go_wp2
            go_roundg (n - (kk + 1))
            case measure => omega
            case rel =>
              refine ⟨kk + 1, by omega, by omega, by go_num, ⟨m, rfl⟩, (show Hid _ from fun j hj => ?_)⟩
              by_cases e : j = kk
              · subst e; exact HS.out
              · exact A.out j (by omega)
          · have HS := Lib.hid (show ¬ (l[kk]!).name.size ≤ 60 by rw [hnm]; exact hs)
            clear hnm
            have hs' : (60 : Int) < (nm.size : Int) := by omega
            go_wp2
            go_ret
            exact ⟨retB (lightB_false (by rw [Hn.out]; exact hlt) HS.out).symm, m, rfl⟩
        · have hltz : ¬ (kk : Int) < (n : Int) := by omega
          obtain rfl : kk = n := by omega
          go_wp2
          go_ret
          exact ⟨retB (lightB_true (by rw [Hn.out]; exact h40) (fun j hj => A.out j (by rw [Hn.out] at hj; exact hj))).symm, m, rfl⟩
  · have hB : lightB l = false := by unfold lightB; simp [h40]
    rw [hB]
    have h40' : (40 : Int) < (l.length : Int) := by omega
    clear h hB
    generalize l.length = n at *
    go_enter Try.func8, Try.ntmps8
    go_wp2
    go_ret
    exact ⟨rfl, 0, rfl⟩
end Go.Proofs.Ytakmbmlpgmppiaa
