/- policy: the reader's first line, x32. -/
import Derived.Test.YtmjipkdejggbfaaGreatDoorQPolA
namespace Go.Proofs.YtmjipkdejggbfaaGreatDoor
open Go Go.Proofs Go.RowKit

theorem cnd_cnt {ws : List ByteArray} {A O M V n : Int} (h : CondP.readAns ws = ⟨A, O, M, V, n, 0⟩) : ∃ m : Nat, n = (m : Int) ∧ m ≤ ws.length ∧ 1 ≤ m := by
  cases ws with
  | nil => cases h
  | cons s r =>
    have e : CondP.readAns (s :: r) = if (CondP.argOf s.data.toList).2 = 0 then CondP.readRest (CondP.argOf s.data.toList).1 r else ⟨0, 0, 0, 0, 0, (CondP.argOf s.data.toList).2⟩ := rfl
    rw [e] at h
    by_cases h0 : (CondP.argOf s.data.toList).2 = 0
    · rw [if_pos h0] at h
      match r, h with
      | [], h => cases h
      | [s1], h => cases h
      | s1 :: s2 :: r, h =>
        by_cases hx : CondP.firstO (CondP.opB s1) = -1 ∨ CondP.numOf s2.data.toList = none
        · rw [CondP.readRest_no _ s1 s2 r hx] at h; cases h
        · obtain ⟨u, hu⟩ : ∃ u, CondP.numOf s2.data.toList = some u := by
            cases hq : CondP.numOf s2.data.toList with
            | none => exact absurd (.inr hq) hx
            | some u => exact ⟨u, rfl⟩
          have hx1 : ¬ CondP.firstO (CondP.opB s1) = -1 := fun e => hx (.inl e)
          by_cases h6 : CondP.firstO (CondP.opB s1) = 6
          · rw [CondP.readRest_mask _ s1 s2 r h6 hu] at h
            match r, h with
            | [], h => cases h
            | [s3], h => cases h
            | s3 :: s4 :: r, h =>
              by_cases hy : (s3.toList == [61, 61]) = false ∨ CondP.numOf s4.data.toList = none
              · rw [CondP.readMask_no _ _ s3 s4 r hy] at h; cases h
              · obtain ⟨v, hv⟩ : ∃ v, CondP.numOf s4.data.toList = some v := by
                  cases hq : CondP.numOf s4.data.toList with
                  | none => exact absurd (.inr hq) hy
                  | some u => exact ⟨u, rfl⟩
                have h3 : (s3.toList == [61, 61]) = true := by
                  cases hq : (s3.toList == [61, 61]) with
                  | false => exact absurd (.inl hq) hy
                  | true => rfl
                rw [CondP.readMask_val _ _ s3 s4 r h3 hv] at h
                cases h
                exact ⟨5, rfl, by simp, by decide⟩
          · rw [CondP.readRest_val _ s1 s2 r hx1 h6 hu] at h
            cases h
            exact ⟨3, rfl, by simp, by decide⟩
    · rw [if_neg h0] at h
      have := congrArg CondP.RAns.e h
      dsimp only at this
      omega
theorem RdB.parts {W : World} {R : Nat} {k n : Int} {x : Bool} {vr vw : Value} {cnt : Int} (h : RdB W R k n x vr vw cnt) : W.cell? ⟨R, 0, none⟩ = some (.int .i64 k) ∧ W.cell? ⟨R, 1, none⟩ = some (.int .i64 n) ∧ W.cell? ⟨R, 2, none⟩ = some (.bool x) ∧ W.cell? ⟨R, 3, none⟩ = some vr ∧ W.cell? ⟨R, 4, none⟩ = some vw ∧ W.cell? ⟨R, 5, none⟩ = some (.int .i64 cnt) :=
  ⟨Blk.cell h 0, Blk.cell h 1, Blk.cell h 2, Blk.cell h 3, Blk.cell h 4, Blk.cell h 5⟩
set_option maxRecDepth 100000 in
set_option maxHeartbeats 2000000 in
theorem first_late {R : Nat} {k n : Int} {x : Bool} {vr vw : Value} {cnt : Int} (hc : cnt ≠ 0) (w : World) (hR : RdB w R k n x vr vw cnt) :
    Calls Tryz.prog 42 #[.pointer (some ⟨R, 0, none⟩)] w fun e w' => e = .panicked (wrongP 13) ∧ FrR R w w' := by
  have z5 := hR.parts.2.2.2.2.2
  have hcb : (cnt == 0) = false := by simpa using hc
  clear hR
  go_enter Tryz.func42, Tryz.ntmps42
  go_wp2_with (go_at_call 65; refine (pneed_false _ _).mono ?_; rintro e w' ⟨rfl, rfl⟩)
  exact ⟨rfl, rfl, FrR.refl _ _⟩
set_option maxRecDepth 100000 in
set_option maxHeartbeats 2000000 in
theorem first_bad {R : Nat} {k n : Int} {x : Bool} {vr vw : Value} {ws : List ByteArray} {K N M0 E : Int} (hbig : ws.length ≤ 1000000) (hsz : ∀ s ∈ ws, s.size ≤ 1000000) (hans : ActP.readAns ws = (K, N, M0, E)) (hne : E ≠ 0) (w : World) (hR : RdB w R k n x vr vw 0) (hW : PWords R w vw ws) :
    Calls Tryz.prog 42 #[.pointer (some ⟨R, 0, none⟩)] w fun e w' => e = .panicked (wrongP (formE E)) ∧ FrR R w w' := by
  have HA := Lib.hid (act_bad hbig hsz hans hne w hR hW)
  have z5 := hR.parts.2.2.2.2.2
  clear hR hW hans hsz hne
  go_enter Tryz.func42, Tryz.ntmps42
  go_wp2_with fail
  refine (pneed_true _ _).mono ?_
  rintro e _ ⟨rfl, rfl⟩
  go_wp2_with fail
  refine HA.out.mono ?_
  rintro e w1 ⟨rfl, hf⟩
  go_wp2
  exact ⟨rfl, rfl, hf⟩
set_option maxRecDepth 100000 in
set_option maxHeartbeats 4000000 in
theorem first_ok {R : Nat} {k n : Int} {x : Bool} {vr vw : Value} {ws : List ByteArray} {K N : Int} {m : Nat} (hbig : ws.length ≤ 1000000) (hsz : ∀ s ∈ ws, s.size ≤ 1000000) (hans : ActP.readAns ws = (K, N, (m : Int), 0)) (hml : m ≤ ws.length) (w : World) (hR : RdB w R k n x vr vw 0) (hW : PWords R w vw ws) :
    Calls Tryz.prog 42 #[.pointer (some ⟨R, 0, none⟩)] w fun e w' => FrR R w w' ∧ ((m = ws.length ∧ e = .returned (.tuple #[]) ∧ ∃ vw', RdB w' R K N x vr vw' 0) ∨ (m ≠ ws.length ∧ e = .panicked (wrongP 13))) := by
  have HA := Lib.hid (act_ok hbig hsz hans hml w hR hW)
  have z5 := hR.parts.2.2.2.2.2
  clear hR hW hans hsz
  go_enter Tryz.func42, Tryz.ntmps42
  go_wp2_with fail
  refine (pneed_true _ _).mono ?_
  rintro e _ ⟨rfl, rfl⟩
  go_wp2_with fail
  refine HA.out.mono ?_
  rintro e w1 ⟨rfl, vw', hw1, hr1, hf⟩
  obtain ⟨a', c', rfl, hle', _⟩ := id hw1
  have z0 := hr1.parts.1
  have z1 := hr1.parts.2.1
  have z4 := hr1.parts.2.2.2.2.1
  have f0 := Blk.frozen hr1 0
  have f1 := Blk.frozen hr1 1
  have HF := Lib.hid ((hf.trans (FrR.set 0 (.int .i64 K))).trans (FrR.set 1 (.int .i64 N)))
  have HR := Lib.hid (Blk.set 1 (.int .i64 N) (Blk.set 0 (.int .i64 K) hr1))
  obtain ⟨LD, hLD⟩ : ∃ LD, (ws.drop m).length = LD := ⟨_, rfl⟩
  have hLD2 : LD = ws.length - m := by rw [← hLD, List.length_drop]
  rw [hLD] at z4 HR
  clear HA hw1 hr1 hf z5 hle' hLD
  by_cases hmz : LD = 0
  · have hml2 : m = ws.length := by omega
    clear hLD2
    subst hmz
    go_wp2_with (go_at_call 65; refine (pneed_true _ _).mono ?_; rintro e w' ⟨rfl, rfl⟩)
    first
      | (go_end0; exact ⟨HF.out, .inl ⟨hml2, rfl, _, HR.out⟩⟩)
      | (refine bodyPost_ret (results_none rfl _ _ _) rfl ?_; exact ⟨HF.out, .inl ⟨hml2, rfl, _, HR.out⟩⟩)
  · have hml2 : m ≠ ws.length := by omega
    have hz : ¬ (LD : Int) = 0 := by omega
    have hzb : ((LD : Int) == 0) = false := by simpa using hz
    clear hLD2 hmz
    go_wp2_with (go_at_call 65; refine (pneed_false _ _).mono ?_; rintro e w' ⟨rfl, rfl⟩)
    exact ⟨rfl, HF.out, .inr ⟨hml2, rfl⟩⟩
end Go.Proofs.YtmjipkdejggbfaaGreatDoor
