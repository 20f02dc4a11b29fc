/- strainerlaw11.SystabRights: it answers true. -/
import Derived.Test.YtakmbmlpgmppiaaDoorSysRightP
import Derived.Test.YtakmbmlpgmppiaaDoorSysAwake
namespace Go.Proofs.YtakmbmlpgmppiaaDoor
open Go Go.Proofs Go.RowKit

theorem right_any (sv : Value) (l : List SRow) (w : World) (hbig : l.length ≤ 1000000) (hR : RowsV w sv l) (hsz : ∀ r ∈ l, r.name.size ≤ 9223372036854775807) :
    Calls Tryd.prog 10 #[sv] w (RightPost l w) := by
  obtain ⟨x, c, rfl, h⟩ := hR
  rcases h with rfl | ⟨b, off, rfl, hlt, hr⟩
  · have hmm := @run_makeMap Tryd.prog
    go_enter Tryd.func10, Tryd.ntmps10
    go_wp2
    go_loop [16] (fun s4 => s4 = .int .i64 0) (fun _ => 0)
    case atStart => rfl
    case round =>
      obtain rfl := hrel
      go_wp2
      go_ret2
      exact ⟨0, 0, rfl, .inr ⟨Nat.zero_le _, .inr ⟨rfl, rfl, fun j hj => absurd hj (Nat.not_lt_zero _)⟩⟩, (Below.refl _ w).alloc (Nat.le_refl _) _⟩
  · exact right_at b off c l w hbig hlt hr hsz

theorem RowSaid.one {l : List SRow} {i : Nat} {v v' : Int} (h : RowSaid l i v) (h' : RowSaid l i v') : v = v' := by
  rcases h with ⟨rfl, a⟩ | ⟨a, ⟨rfl, b⟩ | ⟨b, ⟨rfl, c⟩ | ⟨c, ⟨rfl, d⟩ | ⟨d, ⟨rfl, e⟩ | ⟨rfl, e⟩⟩⟩⟩⟩ <;>
  rcases h' with ⟨rfl, a'⟩ | ⟨a', ⟨rfl, b'⟩ | ⟨b', ⟨rfl, c'⟩ | ⟨c', ⟨rfl, d'⟩ | ⟨d', ⟨rfl, e'⟩ | ⟨rfl, e'⟩⟩⟩⟩⟩ <;>
  first
    | rfl
    | exact absurd ‹refNameP _› ‹¬ refNameP _›
    | exact absurd ‹nameGe _ _› ‹¬ nameGe _ _›
    | exact absurd ‹rngOk _› ‹¬ rngOk _›
    | exact absurd ‹muxNo _› ‹¬ muxNo _›
    | (exfalso; obtain ⟨k, hk, hc⟩ := e; exact e' k hk hc)
    | (exfalso; obtain ⟨k, hk, hc⟩ := e'; exact e k hk hc)
theorem RightSaid.one {l : List SRow} {a e a' e' : Int} (h : RightSaid l a e) (h' : RightSaid l a' e') : a = a' ∧ e = e' := by
  rcases h with ⟨h1, rfl, rfl⟩ | ⟨h1, ⟨i, hi, rfl, hne, hs, hall⟩ | ⟨rfl, rfl, hall⟩⟩
  · rcases h' with ⟨h1', rfl, rfl⟩ | ⟨h1', _⟩
    · exact ⟨rfl, rfl⟩
    · omega
  · rcases h' with ⟨h1', rfl, rfl⟩ | ⟨h1', ⟨i', hi', rfl, hne', hs', hall'⟩ | ⟨rfl, rfl, hall'⟩⟩
    · omega
    · rcases Nat.lt_trichotomy i i' with h | rfl | h
      · exact absurd (hs.one (hall' i h)) hne
      · exact ⟨rfl, hs.one hs'⟩
      · exact absurd (hs'.one (hall i' h)) hne'
    · exact absurd (hs.one (hall' i hi)) hne
  · rcases h' with ⟨h1', rfl, rfl⟩ | ⟨h1', ⟨i', hi', rfl, hne', hs', hall'⟩ | ⟨rfl, rfl, hall'⟩⟩
    · omega
    · exact absurd (hs'.one (hall i' hi')) hne'
    · exact ⟨rfl, rfl⟩

theorem light_facts {l : List SRow} (h : lightB l = true) : l.length ≤ 40 ∧ ∀ r ∈ l, r.name.size ≤ 60 := by
  unfold lightB at h
  simp only [Bool.and_eq_true, decide_eq_true_eq, List.all_eq_true] at h
  exact ⟨h.1, fun r hr => by simpa using h.2 r hr⟩

set_option maxRecDepth 100000 in
set_option maxHeartbeats 1000000 in
theorem rights_any (sv : Value) (l : List SRow) (w : World) (hR : RowsV w sv l) :
    Calls Tryd.prog 3 #[sv] w fun e w' => e = .returned (.bool true) ∧ Below w.heap.size w w' := by
  have hlight := light_any sv l w hR
  have HR := Lib.hid hR
  have HLt := Lib.hid hlight
  clear hR hlight
  go_enter Tryd.func3, Tryd.ntmps3
  go_wp2_with fail
  refine HLt.out.mono ?_
  rintro e w1 ⟨rfl, m1, rfl⟩
  clear HLt
  cases hl : lightB l with
  | false =>
    clear hl
    go_wp2
    go_ret
    exact ⟨rfl, bdnR (Below.refl _ w) _⟩
  | true =>
    have HL := Lib.hid (light_facts hl)
    clear hl
    have HB1 := Lib.hid (bdnR (Below.refl w.heap.size w) m1)
    generalize w.drewN m1 = W1 at *
    have hof := of_any sv l W1 (by have := HL.out.1; omega) (HR.out.below HB1.out)
    go_wp2_with fail
    refine hof.mono ?_
    rintro e w3 ⟨xv, rfl, hown, hb3⟩
    clear hof
    have HX := Lib.hid (rowsV_owned hown).1
    have HB3 := Lib.hid (HB1.out.trans (hb3.mono HB1.out.size))
    clear hown hb3 HB1
    have hright := right_any xv l w3 (by have := HL.out.1; omega) HX.out (fun r hr => by have := HL.out.2 r hr; omega)
    have Hright := Lib.hid hright
    clear hright
    go_wp2_with fail
    refine Hright.out.mono ?_
    rintro e w4 ⟨a, v, rfl, hs, hb4⟩
    clear Hright
    have HS := Lib.hid hs
    have HB4 := Lib.hid (HB3.out.trans (hb4.mono HB3.out.size))
    clear hs hb4 HB3 HX
    have hrr := refRight_any sv l w4 (by have := HL.out.1; omega) (HR.out.below HB4.out)
    have Hrr := Lib.hid hrr
    clear hrr
    go_wp2_with fail
    refine Hrr.out.mono ?_
    rintro e w5 ⟨a', v', rfl, hs', hb5⟩
    clear Hrr
    have HB5 := Lib.hid (HB4.out.trans (hb5.mono HB4.out.size))
    obtain ⟨e1, e2⟩ := RightSaid.one HS.out hs'
    subst e1
    subst e2
    clear hs' hb5 HB4
    go_wp2_with (go_at_call 13; refine (awake_any _).mono ?_; rintro e wa ⟨rfl, hba⟩)
    go_ret
    exact ⟨rfl, HB5.out.trans (hba.mono HB5.out.size)⟩
end Go.Proofs.YtakmbmlpgmppiaaDoor
