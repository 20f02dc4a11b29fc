/- policy: the reader's line x32. -/
import Derived.Test.YtmjipkdejggbfaaGreatDoorQPolF
namespace Go.Proofs.YtmjipkdejggbfaaGreatDoor
open Go Go.Proofs Go.RowKit

theorem FrR.ofSet {R : Nat} {w w' : World} {j : Nat} {v : Value} (h : w' = w.setCell ⟨R, j, none⟩ v) : FrR R w w' := by subst h; exact FrR.set j v
set_option maxRecDepth 100000 in
set_option maxHeartbeats 4000000 in
theorem x32_bad {R : Nat} {k n : Int} {x : Bool} {vr vw : Value} {cnt : Int} {ws : List ByteArray} (h : cnt ≠ 1 ∨ ws.length ≠ 1 ∨ ∃ w1, ws = [w1] ∧ (w1.toList == onB) = false ∧ (w1.toList == offB) = false) (hbig : ws.length ≤ 1000000) (w : World) (hR : RdB w R k n x vr vw cnt) (hW : PWords R w vw ws) :
    Calls Tryz.prog 43 #[.pointer (some ⟨R, 0, none⟩)] w fun e w' => e = .panicked (wrongP 13) ∧ FrR R w w' := by
  obtain ⟨z0, z1, z2, z3, z4, z5⟩ := hR.parts
  by_cases hc : cnt = 1
  · subst hc
    by_cases hl : ws.length = 1
    · obtain ⟨w1, rfl⟩ := List.length_eq_one_iff.1 hl
      obtain ⟨b, off, cp, rfl, hcl, hbR⟩ := hW.head
      have h2 : (w1.toList == onB) = false ∧ (w1.toList == offB) = false := by
        rcases h with h | h | ⟨w2, h1, h2, h3⟩
        · exact absurd rfl h
        · exact absurd hl h
        · obtain rfl := (List.cons.inj h1).1
          exact ⟨h2, h3⟩
      have p1 : (w1.toList == [111, 110]) = false := h2.1
      have p2 : (w1.toList == [111, 102, 102]) = false := h2.2
      have p3 : ¬ w1.toList = [111, 110] := by simpa using p1
      have p4 : ¬ w1.toList = [111, 102, 102] := by simpa using p2
      clear hR hW h h2 hl
      simp only [List.length_nil, Nat.zero_add] at z4
      go_enter Tryz.func43, Tryz.ntmps43
      go_wp2_with (go_at_call 65; refine (pneed_false _ _).mono ?_; rintro e w' ⟨rfl, rfl⟩)
      exact ⟨rfl, rfl, FrR.refl _ _⟩
    · obtain ⟨a, c, rfl, hle, _⟩ := id hW
      obtain ⟨L, hL⟩ : ∃ L, ws.length = L := ⟨_, rfl⟩
      rw [hL] at z4 hl
      have hz : ¬ (L : Int) = 1 := by omega
      have hzb : ((L : Int) == 1) = false := by simpa using hz
      clear hR hW h hl hL hle
      go_enter Tryz.func43, Tryz.ntmps43
      go_wp2_with (go_at_call 65; refine (pneed_false _ _).mono ?_; rintro e w' ⟨rfl, rfl⟩)
      exact ⟨rfl, rfl, FrR.refl _ _⟩
  · have hzb : (cnt == 1) = false := by simpa using hc
    clear hR hW h
    go_enter Tryz.func43, Tryz.ntmps43
    go_wp2_with (go_at_call 65; refine (pneed_false _ _).mono ?_; rintro e w' ⟨rfl, rfl⟩)
    exact ⟨rfl, rfl, FrR.refl _ _⟩
set_option maxRecDepth 100000 in
set_option maxHeartbeats 4000000 in
theorem x32_ok {R : Nat} {k n : Int} {x : Bool} {vr vw : Value} {w1 : ByteArray} (h : (w1.toList == onB) = true ∨ (w1.toList == offB) = true) (w : World) (hR : RdB w R k n x vr vw 1) (hW : PWords R w vw [w1]) :
    Calls Tryz.prog 43 #[.pointer (some ⟨R, 0, none⟩)] w fun e w' => e = .returned (.tuple #[]) ∧ FrR R w w' ∧ ∃ vw', RdB w' R k n (w1.toList == onB) vr vw' 1 := by
  have HN := Lib.hid (next_any (by simp) w hR hW)
  obtain ⟨z0, z1, z2, z3, z4, z5⟩ := hR.parts
  obtain ⟨b, off, cp, rfl, hcl, hbR⟩ := hW.head
  simp only [List.length_nil, Nat.zero_add] at z4 HN
  by_cases hon : (w1.toList == onB) = true
  · have p1 : (w1.toList == [111, 110]) = true := hon
    have p3 : w1.toList = [111, 110] := by simpa using p1
    have HON := Lib.hid hon
    clear hR hW h hon
    go_enter Tryz.func43, Tryz.ntmps43
    go_wp2_with fail
    refine (pneed_true _ _).mono ?_
    rintro e _ ⟨rfl, rfl⟩
    go_wp2_with fail
    refine HN.out.mono ?_
    rintro e w2 ⟨rfl, vw', hw2, hr2, hs2⟩
    have HF := Lib.hid ((FrR.ofSet hs2).trans (FrR.set 2 (.bool true)))
    have HR := Lib.hid (Blk.set 2 (.bool true) hr2)
    have y2 := hr2.parts.2.2.1
    have f2 := Blk.frozen hr2 2
    clear hw2 hr2 hs2 HN z0 z1 z2 z3 z4 z5 hcl
    go_wp2
    rw [HON.out]
    first
      | (go_end0; exact ⟨rfl, HF.out, _, HR.out⟩)
      | (refine bodyPost_ret (results_none rfl _ _ _) rfl ?_; exact ⟨rfl, HF.out, _, HR.out⟩)
  · have hof : (w1.toList == offB) = true := h.resolve_left hon
    have hon2 : (w1.toList == onB) = false := by simpa using hon
    have p1 : (w1.toList == [111, 110]) = false := hon2
    have p3 : ¬ w1.toList = [111, 110] := by simpa using p1
    have p2 : (w1.toList == [111, 102, 102]) = true := hof
    have p4 : w1.toList = [111, 102, 102] := by simpa using p2
    have HON := Lib.hid hon2
    clear hR hW h hon hon2 hof
    go_enter Tryz.func43, Tryz.ntmps43
    go_wp2_with fail
    refine (pneed_true _ _).mono ?_
    rintro e _ ⟨rfl, rfl⟩
    go_wp2_with fail
    refine HN.out.mono ?_
    rintro e w2 ⟨rfl, vw', hw2, hr2, hs2⟩
    have HF := Lib.hid ((FrR.ofSet hs2).trans (FrR.set 2 (.bool false)))
    have HR := Lib.hid (Blk.set 2 (.bool false) hr2)
    have y2 := hr2.parts.2.2.1
    have f2 := Blk.frozen hr2 2
    clear hw2 hr2 hs2 HN z0 z1 z2 z3 z4 z5 hcl
    go_wp2
    rw [HON.out]
    first
      | (go_end0; exact ⟨rfl, HF.out, _, HR.out⟩)
      | (refine bodyPost_ret (results_none rfl _ _ _) rfl ?_; exact ⟨rfl, HF.out, _, HR.out⟩)
end Go.Proofs.YtmjipkdejggbfaaGreatDoor
