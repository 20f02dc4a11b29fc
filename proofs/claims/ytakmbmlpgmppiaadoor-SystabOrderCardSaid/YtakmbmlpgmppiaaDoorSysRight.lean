/- strainerref11.Right: the place, and an error's number. -/
import Derived.Test.YtakmbmlpgmppiaaDoorSysRow
namespace Go.Proofs.YtakmbmlpgmppiaaDoor
open Go Go.Proofs Go.RowKit

/-- What the reference's Right answers of n rows: a place, an error's number. -/
def RightSaidN (n : Nat) (l : List SRow) (a e : Int) : Prop :=
  (400 < n ∧ a = 0 ∧ e = 3) ∨
  (n ≤ 400 ∧
    ((∃ i : Nat, i < n ∧ a = i ∧ e ≠ 0 ∧ RowSaid l i e ∧ ∀ j, j < i → RowSaid l j 0) ∨
     (a = 0 ∧ e = 0 ∧ ∀ j, j < n → RowSaid l j 0)))
def RightPostN (n : Nat) (l : List SRow) (w : World) (e : Ending) (w' : World) : Prop :=
  ∃ a v : Int, e = .returned (.tuple #[.int .i64 a, .int .i64 v]) ∧ RightSaidN n l a v ∧ Below w.heap.size w w'
def RightSaid (l : List SRow) (a e : Int) : Prop := RightSaidN l.length l a e
def RightPost (l : List SRow) (w : World) (e : Ending) (w' : World) : Prop := RightPostN l.length l w e w'

set_option maxRecDepth 100000 in
set_option maxHeartbeats 1000000 in
theorem refRight_at (b off c : Nat) (l : List SRow) (w : World) (hbig : l.length ≤ 1000000) (hb : b < w.heap.size) (hr : RowsAt w b off l) :
    Calls Tryd.prog 12 #[.slice (some ⟨b, off, none⟩) l.length c] w (RightPost l w) := by
  have hrow : ∀ (i : Nat) (W : World), i < l.length → Below w.heap.size w W → Calls Tryd.prog 23 #[.slice (some ⟨b, off, none⟩) l.length c, .int .i64 i] W fun e w' => ∃ v, e = .returned (.int .i64 v) ∧ RowSaid l i v ∧ Below W.heap.size W w' :=
    fun i W hi hB => row_at b off c i l W hbig hi (Nat.lt_of_lt_of_le hb hB.size) (hr.below hB hb)
  have Hrow := Lib.hid hrow
  clear hrow hr
  show Calls _ _ _ _ (RightPostN l.length l w)
  generalize l.length = n at *
  by_cases h4 : 400 < n
  · have h4z : (400 : Int) < (n : Int) := by omega
    go_enter Tryd.func12, Tryd.ntmps12
    go_wp2
    go_ret2
    exact ⟨_, _, rfl, .inl ⟨h4, rfl, rfl⟩, (Below.refl _ w)⟩
  · have h4z : ¬ (400 : Int) < (n : Int) := by omega
    go_enter Tryd.func12, Tryd.ntmps12
    go_wp2
    go_loopg [4] n (fun gg s4 wr => ∃ kk : Nat, kk ≤ n ∧ n - kk ≤ gg ∧ s4 = .int .i64 kk ∧ Hid (Below w.heap.size w wr) ∧ Hid (∀ j, j < kk → RowSaid l j 0))
    case atStart => exact ⟨0, Nat.zero_le _, by omega, rfl, Below.refl _ w, fun j hj => absurd hj (Nat.not_lt_zero _)⟩
    case round =>
      obtain ⟨kk, hkk, hg, rfl, BW, A⟩ := hrel
      by_cases hlt : kk < n
      · have hltz : (kk : Int) < (n : Int) := by omega
        go_wp2_with fail
        refine (Hrow.out kk _ hlt BW.out).mono ?_
        rintro e w' ⟨v, rfl, hv, hb'⟩
        have HV := Lib.hid hv
        clear hv
        by_cases hv0 : v = 0
        · subst hv0
          go_wp2
          go_roundg (n - (kk + 1))
          case measure => omega
          case rel =>
            refine ⟨kk + 1, by omega, by omega, by go_num, BW.out.trans (hb'.mono BW.out.size), (show Hid _ from fun j hj => ?_)⟩
            by_cases e : j = kk
            · subst e; exact HV.out
            · exact A.out j (by omega)
        · have hv0' : (v != 0) = true := by simpa using hv0
          have Hne := Lib.hid hv0
          clear hv0
          go_wp2
          go_ret2
          exact ⟨_, _, rfl, .inr ⟨by omega, .inl ⟨kk, hlt, rfl, Hne.out, HV.out, A.out⟩⟩, (BW.out.trans (hb'.mono BW.out.size))⟩
      · have hltz : ¬ (kk : Int) < (n : Int) := by omega
        obtain rfl : kk = n := by omega
        go_wp2
        go_ret2
        exact ⟨_, _, rfl, .inr ⟨by omega, .inr ⟨rfl, rfl, A.out⟩⟩, BW.out⟩

theorem refRight_any (sv : Value) (l : List SRow) (w : World) (hbig : l.length ≤ 1000000) (hR : RowsV w sv l) :
    Calls Tryd.prog 12 #[sv] w (RightPost l w) := by
  obtain ⟨x, c, rfl, h⟩ := hR
  rcases h with rfl | ⟨b, off, rfl, hlt, hr⟩
  · go_enter Tryd.func12, Tryd.ntmps12
    go_wp2
    go_loop [4] (fun s4 => s4 = .int .i64 0) (fun _ => 0)
    case atStart => rfl
    case round =>
      obtain rfl := hrel
      go_wp2
      go_ret2
      exact ⟨0, 0, rfl, .inr ⟨Nat.zero_le _, .inr ⟨rfl, rfl, fun j hj => absurd hj (Nat.not_lt_zero _)⟩⟩, Below.refl _ w⟩
  · exact refRight_at b off c l w hbig hlt hr
end Go.Proofs.YtakmbmlpgmppiaaDoor
