/- strainerref11.Name: may a name be? -/
import Derived.Test.YtakmbmlpgmppiaaDoorSysOf
namespace Go.Proofs.YtakmbmlpgmppiaaDoor
open Go Go.Proofs Go.RowKit

def okN (n : Nat) : Prop := (97 ≤ n ∧ n ≤ 122) ∨ (48 ≤ n ∧ n ≤ 57) ∨ n = 95
def refNameP (s : ByteArray) : Prop :=
  s.size ≤ 30 ∧ (∃ h : 0 < s.size, 97 ≤ (s[0]'h).toNat ∧ (s[0]'h).toNat ≤ 122) ∧ ¬ s.toList = [100, 101, 102, 97, 117, 108, 116] ∧ ¬ s.toList = [120, 51, 50] ∧ ∀ j (h : j < s.size), okN (s[j]'h).toNat

def RNPost (s : ByteArray) (w : World) (e : Ending) (w' : World) : Prop := ∃ v : Bool, e = .returned (.bool v) ∧ (v = true ↔ refNameP s) ∧ ∃ m, w' = w.drewN m

theorem rn_false {s : ByteArray} {w : World} (h : ¬ refNameP s) : RNPost s w (.returned (.bool false)) w := ⟨false, rfl, ⟨fun e => by simp at e, fun e => absurd e h⟩, 0, rfl⟩

set_option maxRecDepth 100000 in
set_option maxHeartbeats 400000 in
theorem refName_any (s : ByteArray) (w : World) : Calls Tryd.prog 37 #[.string s] w (RNPost s w) := by
  by_cases hs0 : s.size = 0
  · have h0 : ((s.size : Int) == 0) = true := by simp [hs0]
    go_enter Tryd.func37, Tryd.ntmps37
    go_wp2
    go_ret
    exact rn_false (fun h => by obtain ⟨h, _⟩ := h.2.1; omega)
  by_cases hs30 : s.size ≤ 30
  · have hs0' : ¬ (s.size : Int) = 0 := by omega
    have h0 : ((s.size : Int) == 0) = false := by simpa using hs0'
    have h00 : 0 < s.size := by omega
    have h01 : (0 : Int) < (s.size : Int) := by omega
    have h30 : ¬ (30 : Int) < (s.size : Int) := by omega
    by_cases a1 : 97 ≤ (s[0]'h00).toNat
    · have b1 : ¬ (((s[0]'h00).toNat : Nat) : Int) < 97 := by omega
      by_cases a2 : (s[0]'h00).toNat ≤ 122
      · have b2 : ¬ (122 : Int) < (((s[0]'h00).toNat : Nat) : Int) := by omega
        by_cases a3 : s.toList = [100, 101, 102, 97, 117, 108, 116]
        · have b3 : (s.toList == [100, 101, 102, 97, 117, 108, 116]) = true := by simpa using a3
          go_enter Tryd.func37, Tryd.ntmps37
          go_wp2
          go_ret
          exact rn_false (fun h => h.2.2.1 a3)
        · have b3 : (s.toList == [100, 101, 102, 97, 117, 108, 116]) = false := by simpa using a3
          by_cases a4 : s.toList = [120, 51, 50]
          · have b4 : (s.toList == [120, 51, 50]) = true := by simpa using a4
            go_enter Tryd.func37, Tryd.ntmps37
            go_wp2
            go_ret
            exact rn_false (fun h => h.2.2.2.1 a4)
          · have b4 : (s.toList == [120, 51, 50]) = false := by simpa using a4
            have HP : Hid (s.size ≤ 30 ∧ (∃ h : 0 < s.size, 97 ≤ (s[0]'h).toNat ∧ (s[0]'h).toNat ≤ 122) ∧ ¬ s.toList = [100, 101, 102, 97, 117, 108, 116] ∧ ¬ s.toList = [120, 51, 50]) := ⟨hs30, ⟨h00, a1, a2⟩, a3, a4⟩
            go_enter Tryd.func37, Tryd.ntmps37
            go_wp2
            clear a1 a2 a3 a4 b1 b2 b3 b4
            go_loopg [3] s.size (fun gg s3 wr => ∃ kk : Nat, kk ≤ s.size ∧ s.size - kk ≤ gg ∧ s3 = .int .i64 kk ∧ Hid (∃ m, wr = w.drewN m) ∧ Hid (∀ j (h : j < s.size), j < kk → okN (s[j]'h).toNat))
            case atStart => exact ⟨0, Nat.zero_le _, by omega, rfl, ⟨0, rfl⟩, fun j h hj => absurd hj (Nat.not_lt_zero _)⟩
            case round =>
              obtain ⟨kk, hkk, hg, rfl, BW, A⟩ := hrel
              obtain ⟨m, rfl⟩ := BW.out
              clear BW
              by_cases hlt : kk < s.size
              · have hltz : (kk : Int) < (s.size : Int) := by omega
                by_cases d1 : 97 ≤ (s[kk]'hlt).toNat
                · have x1 : (97 : Int) ≤ (((s[kk]'hlt).toNat : Nat) : Int) := by omega
                  have y1 : decide ((97 : Int) ≤ (((s[kk]'hlt).toNat : Nat) : Int)) = true := by simpa using x1
                  have x3 : (48 : Int) ≤ (((s[kk]'hlt).toNat : Nat) : Int) := by omega
                  have y3 : decide ((48 : Int) ≤ (((s[kk]'hlt).toNat : Nat) : Int)) = true := by simpa using x3
                  have x4 : ¬ (((s[kk]'hlt).toNat : Nat) : Int) ≤ (57 : Int) := by omega
                  have x5 : ¬ (((s[kk]'hlt).toNat : Nat) : Int) = (95 : Int) ∨ (((s[kk]'hlt).toNat : Nat) : Int) = 95 := by omega
                  by_cases d2 : (s[kk]'hlt).toNat ≤ 122
                  · have x2 : (((s[kk]'hlt).toNat : Nat) : Int) ≤ (122 : Int) := by omega
                    have y2 : decide ((((s[kk]'hlt).toNat : Nat) : Int) ≤ (122 : Int)) = true := by simpa using x2
                    clear x5
                    go_wp2
                    go_roundg (s.size - (kk + 1))
                    case measure => omega
                    case rel =>
                      refine ⟨kk + 1, by omega, by omega, by go_num, ⟨m, rfl⟩, (show Hid _ from fun j h hj => ?_)⟩
                      by_cases e : j = kk
                      · subst e; unfold okN; omega
                      · exact A.out j h (by omega)
                  · have x2 : ¬ (((s[kk]'hlt).toNat : Nat) : Int) ≤ (122 : Int) := by omega
                    have y2 : decide ((((s[kk]'hlt).toNat : Nat) : Int) ≤ (122 : Int)) = false := decide_eq_false x2
                    have y4 : decide ((((s[kk]'hlt).toNat : Nat) : Int) ≤ (57 : Int)) = false := decide_eq_false x4
                    have y5 : ((((s[kk]'hlt).toNat : Nat) : Int) == (95 : Int)) = false := beq_false_of_ne (by omega)
                    clear x5
                    go_wp2
                    go_ret
                    exact ⟨false, rfl, ⟨fun e => by simp at e, fun e => absurd (e.2.2.2.2 kk hlt) (by unfold okN; omega)⟩, m, rfl⟩
                · have x1 : ¬ (97 : Int) ≤ (((s[kk]'hlt).toNat : Nat) : Int) := by omega
                  have y1 : decide ((97 : Int) ≤ (((s[kk]'hlt).toNat : Nat) : Int)) = false := decide_eq_false x1
                  by_cases d3 : 48 ≤ (s[kk]'hlt).toNat
                  · have x3 : (48 : Int) ≤ (((s[kk]'hlt).toNat : Nat) : Int) := by omega
                    have y3 : decide ((48 : Int) ≤ (((s[kk]'hlt).toNat : Nat) : Int)) = true := decide_eq_true x3
                    by_cases d4 : (s[kk]'hlt).toNat ≤ 57
                    · have x4 : (((s[kk]'hlt).toNat : Nat) : Int) ≤ (57 : Int) := by omega
                      have y4 : decide ((((s[kk]'hlt).toNat : Nat) : Int) ≤ (57 : Int)) = true := decide_eq_true x4
                      go_wp2
                      go_roundg (s.size - (kk + 1))
                      case measure => omega
                      case rel =>
                        refine ⟨kk + 1, by omega, by omega, by go_num, ⟨m, rfl⟩, (show Hid _ from fun j h hj => ?_)⟩
                        by_cases e : j = kk
                        · subst e; unfold okN; omega
                        · exact A.out j h (by omega)
                    · have x4 : ¬ (((s[kk]'hlt).toNat : Nat) : Int) ≤ (57 : Int) := by omega
                      have y4 : decide ((((s[kk]'hlt).toNat : Nat) : Int) ≤ (57 : Int)) = false := decide_eq_false x4
                      by_cases d5 : (s[kk]'hlt).toNat = 95
                      · have y5 : ((((s[kk]'hlt).toNat : Nat) : Int) == (95 : Int)) = true := by rw [d5]; rfl
                        go_wp2
                        go_roundg (s.size - (kk + 1))
                        case measure => omega
                        case rel =>
                          refine ⟨kk + 1, by omega, by omega, by go_num, ⟨m, rfl⟩, (show Hid _ from fun j h hj => ?_)⟩
                          by_cases e : j = kk
                          · subst e; unfold okN; omega
                          · exact A.out j h (by omega)
                      · have y5 : ((((s[kk]'hlt).toNat : Nat) : Int) == (95 : Int)) = false := beq_false_of_ne (by omega)
                        go_wp2
                        go_ret
                        exact ⟨false, rfl, ⟨fun e => by simp at e, fun e => absurd (e.2.2.2.2 kk hlt) (by unfold okN; omega)⟩, m, rfl⟩
                  · have x3 : ¬ (48 : Int) ≤ (((s[kk]'hlt).toNat : Nat) : Int) := by omega
                    have y3 : decide ((48 : Int) ≤ (((s[kk]'hlt).toNat : Nat) : Int)) = false := decide_eq_false x3
                    have y5 : ((((s[kk]'hlt).toNat : Nat) : Int) == (95 : Int)) = false := beq_false_of_ne (by omega)
                    go_wp2
                    go_ret
                    exact ⟨false, rfl, ⟨fun e => by simp at e, fun e => absurd (e.2.2.2.2 kk hlt) (by unfold okN; omega)⟩, m, rfl⟩
              · have hltz : ¬ (kk : Int) < (s.size : Int) := by omega
                go_wp2
                go_ret
                exact ⟨true, rfl, ⟨fun _ => ⟨HP.out.1, HP.out.2.1, HP.out.2.2.1, HP.out.2.2.2, fun j h => A.out j h (by omega)⟩, fun _ => rfl⟩, m, rfl⟩
      · have b2 : (122 : Int) < (((s[0]'h00).toNat : Nat) : Int) := by omega
        go_enter Tryd.func37, Tryd.ntmps37
        go_wp2
        go_ret
        exact rn_false (fun h => a2 (by obtain ⟨_, ⟨_, _, h4⟩, _⟩ := h; exact h4))
    · have b1 : (((s[0]'h00).toNat : Nat) : Int) < 97 := by omega
      go_enter Tryd.func37, Tryd.ntmps37
      go_wp2
      go_ret
      exact rn_false (fun h => a1 (by obtain ⟨_, ⟨_, h3, _⟩, _⟩ := h; exact h3))
  · have h0 : ((s.size : Int) == 0) = false := beq_false_of_ne (by omega)
    have h30 : (30 : Int) < (s.size : Int) := by omega
    go_enter Tryd.func37, Tryd.ntmps37
    go_wp2
    go_ret
    exact rn_false (fun h => hs30 h.1)
end Go.Proofs.YtakmbmlpgmppiaaDoor
