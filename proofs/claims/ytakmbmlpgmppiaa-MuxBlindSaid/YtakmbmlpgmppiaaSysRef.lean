/- strainerref11: Find, Sub, Number, At; strainerlaw11.light. -/
import Derived.Test.YtakmbmlpgmppiaaSysName
namespace Go.Proofs.Ytakmbmlpgmppiaa
open Go Go.Proofs Go.RowKit

theorem drewN_trans {w w1 w2 : World} (h1 : ∃ m, w1 = w.drewN m) (h2 : ∃ m, w2 = w1.drewN m) : ∃ m, w2 = w.drewN m := by
  obtain ⟨m, rfl⟩ := h1
  obtain ⟨k, rfl⟩ := h2
  exact ⟨m + k, by rw [World.drewN_drewN]⟩

/-- Is a row's name this one? -/
def eqP (t : ByteArray) (r : SRow) : Bool := r.name.toList == t.toList
/-- The reference's Sub. -/
def rsubP (mux sub : Int) (r : SRow) : Bool := decide (1 ≤ mux) && decide (mux ≤ 2) && r.mux == mux && r.sub == sub

set_option maxRecDepth 100000 in
set_option maxHeartbeats 1000000 in
theorem refFind_at (t : ByteArray) (b off c : Nat) (zs : List SRow) (w : World) (hbig : zs.length ≤ 1000000) (_hb : b < w.heap.size) (hc : RowsAt w b off zs) :
    Calls Try.prog 13 #[.slice (some ⟨b, off, none⟩) zs.length c, .string t] w fun e w' => e = .returned (.int .i64 (firstIdx (eqP t) zs)) ∧ ∃ m, w' = w.drewN m := by
  have Hc := Lib.hid hc
  clear hc
  obtain ⟨n, hn⟩ : ∃ n, zs.length = n := ⟨_, rfl⟩
  rw [hn] at hbig ⊢
  have Hn := Lib.hid hn
  clear hn
  go_enter Try.func13, Try.ntmps13
  go_wp2
  go_loopg [5] n (fun gg s3 wr => ∃ kk : Nat, kk ≤ n ∧ n - kk ≤ gg ∧ s3 = .int .i64 kk ∧ Hid (∃ m, wr = w.drewN m) ∧ Hid (∀ j, j < kk → (eqP t) zs[j]! = false))
  case atStart => exact ⟨0, Nat.zero_le _, by omega, rfl, ⟨0, rfl⟩, fun j hj => absurd hj (Nat.not_lt_zero _)⟩
  case round =>
    obtain ⟨kk, hkk, hg, rfl, BW, A⟩ := hrel
    obtain ⟨m, rfl⟩ := BW.out
    clear BW
    by_cases hlt : kk < n
    · have hltz : (kk : Int) < (n : Int) := by omega
      have c0 : (w.drewN m).cell? ⟨b, off + kk * 8, none⟩ = some (.string (zs[kk]!).name) := Hc.out.nameCell (by rw [Hn.out]; exact hlt)
      have hq0 : eqP t zs[kk]! = ((zs[kk]!).name.toList == t.toList) := rfl
      generalize (zs[kk]!).name = nm at c0 hq0
      generalize hq : (nm.toList == t.toList) = qq at hq0
      cases qq with
      | true =>
        have HA := Lib.hid hq0
        clear hq0
        go_wp2
        go_ret
        refine ⟨retI ?_, drewN_trans ⟨m, rfl⟩ ⟨0, rfl⟩⟩
        rw [firstIdx_hit _ zs kk (by rw [Hn.out]; exact hlt) A.out HA.out]
      | false =>
        have HA := Lib.hid hq0
        clear hq0
        go_wp2
        go_roundg (n - (kk + 1))
        case measure => omega
        case rel =>
          refine ⟨kk + 1, by omega, by omega, by go_num, drewN_trans ⟨m, rfl⟩ ⟨0, rfl⟩, (show Hid _ from fun j hj => ?_)⟩
          by_cases e : j = kk
          · subst e; exact HA.out
          · exact A.out j (by omega)
    · have hltz : ¬ (kk : Int) < (n : Int) := by omega
      obtain rfl : kk = n := by omega
      go_wp2
      go_ret
      refine ⟨retI ?_, m, rfl⟩
      rw [firstIdx_miss (eqP t) zs (fun j hj => A.out j (by rw [Hn.out] at hj; exact hj))]

theorem refFind_any (t : ByteArray) (sv : Value) (l : List SRow) (w : World) (hbig : l.length ≤ 1000000) (hR : RowsV w sv l) :
    Calls Try.prog 13 #[sv, .string t] w fun e w' => e = .returned (.int .i64 (firstIdx (eqP t) l)) ∧ ∃ m, w' = w.drewN m := by
  obtain ⟨a, c, rfl, h⟩ := hR
  rcases h with rfl | ⟨b, off, rfl, hlt, hr⟩
  · go_enter Try.func13, Try.ntmps13
    go_wp2
    go_loop [5] (fun s8 => s8 = .int .i64 0) (fun _ => 0)
    case atStart => rfl
    case round =>
      obtain rfl := hrel
      go_wp2
      go_ret
      exact ⟨rfl, 0, rfl⟩
  · exact refFind_at t b off c l w hbig hlt hr

set_option maxRecDepth 100000 in
set_option maxHeartbeats 1000000 in
theorem refSub_at (mux sub : Int) (b off c : Nat) (zs : List SRow) (w : World) (hbig : zs.length ≤ 1000000) (_hb : b < w.heap.size) (hc : RowsAt w b off zs) :
    Calls Try.prog 15 #[.slice (some ⟨b, off, none⟩) zs.length c, .int .i64 mux, .int .i64 sub] w fun e w' => e = .returned (.int .i64 (firstIdx (rsubP mux sub) zs)) ∧ ∃ m, w' = w.drewN m := by
  have Hc := Lib.hid hc
  clear hc
  obtain ⟨n, hn⟩ : ∃ n, zs.length = n := ⟨_, rfl⟩
  rw [hn] at hbig ⊢
  have Hn := Lib.hid hn
  clear hn
  go_enter Try.func15, Try.ntmps15
  go_wp2
  go_loopg [7] n (fun gg s3 wr => ∃ kk : Nat, kk ≤ n ∧ n - kk ≤ gg ∧ s3 = .int .i64 kk ∧ Hid (∃ m, wr = w.drewN m) ∧ Hid (∀ j, j < kk → (rsubP mux sub) zs[j]! = false))
  case atStart => exact ⟨0, Nat.zero_le _, by omega, rfl, ⟨0, rfl⟩, fun j hj => absurd hj (Nat.not_lt_zero _)⟩
  case round =>
    obtain ⟨kk, hkk, hg, rfl, BW, A⟩ := hrel
    obtain ⟨m, rfl⟩ := BW.out
    clear BW
    by_cases hlt : kk < n
    · have hltz : (kk : Int) < (n : Int) := by omega
      have c6 : (w.drewN m).cell? ⟨b, off + kk * 8 + 6, none⟩ = some (.int .i64 (zs[kk]!).mux) := Hc.out kk (by rw [Hn.out]; exact hlt) 6 _ rfl
      have c7 : (w.drewN m).cell? ⟨b, off + kk * 8 + 7, none⟩ = some (.int .i64 (zs[kk]!).sub) := Hc.out kk (by rw [Hn.out]; exact hlt) 7 _ rfl
      have hq0 : rsubP mux sub zs[kk]! = (decide (1 ≤ mux) && decide (mux ≤ 2) && (zs[kk]!).mux == mux && (zs[kk]!).sub == sub) := rfl
      generalize (zs[kk]!).mux = mx at c6 hq0
      generalize (zs[kk]!).sub = sb at c7 hq0
      by_cases h1 : 1 ≤ mux
      · have h1' : decide (1 ≤ mux) = true := by simpa using h1
        by_cases h2 : mux ≤ 2
        · have h2' : decide (mux ≤ 2) = true := by simpa using h2
          rw [h1', h2'] at hq0
          by_cases h3 : mx = mux
          · subst h3
            by_cases h4 : sb = sub
            · subst h4
              simp only [Bool.and_true, beq_self_eq_true] at hq0
              have HA := Lib.hid hq0
              clear hq0
              go_wp2
              go_ret
              refine ⟨retI ?_, drewN_trans ⟨m, rfl⟩ ⟨0, rfl⟩⟩
              rw [firstIdx_hit _ zs kk (by rw [Hn.out]; exact hlt) A.out HA.out]
            · have h4' : (sb == sub) = false := by simpa using h4
              rw [h4', Bool.and_false] at hq0
              have HA := Lib.hid hq0
              clear hq0
              go_wp2
              go_roundg (n - (kk + 1))
              case measure => omega
              case rel =>
                refine ⟨kk + 1, by omega, by omega, by go_num, drewN_trans ⟨m, rfl⟩ ⟨0, rfl⟩, (show Hid _ from fun j hj => ?_)⟩
                by_cases e : j = kk
                · subst e; exact HA.out
                · exact A.out j (by omega)
          · have h3' : (mx == mux) = false := by simpa using h3
            rw [h3', Bool.and_false, Bool.false_and] at hq0
            have HA := Lib.hid hq0
            clear hq0
            go_wp2
            go_roundg (n - (kk + 1))
            case measure => omega
            case rel =>
              refine ⟨kk + 1, by omega, by omega, by go_num, drewN_trans ⟨m, rfl⟩ ⟨0, rfl⟩, (show Hid _ from fun j hj => ?_)⟩
              by_cases e : j = kk
              · subst e; exact HA.out
              · exact A.out j (by omega)
        · have h2' : decide (mux ≤ 2) = false := by simpa using h2
          rw [h2', Bool.and_false, Bool.false_and, Bool.false_and] at hq0
          have HA := Lib.hid hq0
          clear hq0
          go_wp2
          go_roundg (n - (kk + 1))
          case measure => omega
          case rel =>
            refine ⟨kk + 1, by omega, by omega, by go_num, drewN_trans ⟨m, rfl⟩ ⟨0, rfl⟩, (show Hid _ from fun j hj => ?_)⟩
            by_cases e : j = kk
            · subst e; exact HA.out
            · exact A.out j (by omega)
      · have h1' : decide (1 ≤ mux) = false := by simpa using h1
        rw [h1', Bool.false_and, Bool.false_and, Bool.false_and] at hq0
        have HA := Lib.hid hq0
        clear hq0
        go_wp2
        go_roundg (n - (kk + 1))
        case measure => omega
        case rel =>
          refine ⟨kk + 1, by omega, by omega, by go_num, drewN_trans ⟨m, rfl⟩ ⟨0, rfl⟩, (show Hid _ from fun j hj => ?_)⟩
          by_cases e : j = kk
          · subst e; exact HA.out
          · exact A.out j (by omega)
    · have hltz : ¬ (kk : Int) < (n : Int) := by omega
      obtain rfl : kk = n := by omega
      go_wp2
      go_ret
      refine ⟨retI ?_, m, rfl⟩
      rw [firstIdx_miss (rsubP mux sub) zs (fun j hj => A.out j (by rw [Hn.out] at hj; exact hj))]

theorem refSub_any (mux sub : Int) (sv : Value) (l : List SRow) (w : World) (hbig : l.length ≤ 1000000) (hR : RowsV w sv l) :
    Calls Try.prog 15 #[sv, .int .i64 mux, .int .i64 sub] w fun e w' => e = .returned (.int .i64 (firstIdx (rsubP mux sub) l)) ∧ ∃ m, w' = w.drewN m := by
  obtain ⟨a, c, rfl, h⟩ := hR
  rcases h with rfl | ⟨b, off, rfl, hlt, hr⟩
  · go_enter Try.func15, Try.ntmps15
    go_wp2
    go_loop [7] (fun s8 => s8 = .int .i64 0) (fun _ => 0)
    case atStart => rfl
    case round =>
      obtain rfl := hrel
      go_wp2
      go_ret
      exact ⟨rfl, 0, rfl⟩
  · exact refSub_at mux sub b off c l w hbig hlt hr

/-- The reference's number of a row. -/
def rnum (l : List SRow) (a i : Nat) : Int := if 0 ≤ (l[i]!).num a then (l[i]!).num a else -1 - (i : Int)
/-- The first place from i on, of f places, at which q holds. -/
def firstN (q : Nat → Bool) : Nat → Nat → Int
  | _, 0 => -1
  | i, f + 1 => if q i = true then (i : Int) else firstN q (i + 1) f
theorem firstN_hit (q : Nat → Bool) : ∀ (f i k : Nat), i ≤ k → k < i + f → (∀ j, i ≤ j → j < k → q j = false) → q k = true → firstN q i f = k
  | 0, i, k, h1, h2, _, _ => absurd h2 (by omega)
  | f + 1, i, k, h1, h2, hm, hq => by
    by_cases e : i = k
    · subst e; simp [firstN, hq]
    · have h0 : q i = false := hm i (Nat.le_refl _) (by omega)
      have ih := firstN_hit q f (i + 1) k (by omega) (by omega) (fun j hj hk => hm j (by omega) hk) hq
      simp [firstN, h0, ih]
theorem firstN_miss (q : Nat → Bool) : ∀ (f i : Nat), (∀ j, i ≤ j → j < i + f → q j = false) → firstN q i f = -1
  | 0, _, _ => rfl
  | f + 1, i, hm => by
    have h0 : q i = false := hm i (Nat.le_refl _) (by omega)
    have ih := firstN_miss q f (i + 1) (fun j hj hk => hm j (by omega) (by omega))
    simp [firstN, h0, ih]

set_option maxRecDepth 100000 in
set_option maxHeartbeats 1000000 in
theorem refNumber_0 (b off c i : Nat) (l : List SRow) (w : World) (hbig : l.length ≤ 1000000) (hi : i < l.length) (hr : RowsAt w b off l) :
    Calls Try.prog 18 #[.slice (some ⟨b, off, none⟩) l.length c, .int .i64 0, .int .i64 i] w fun e w' => e = .returned (.int .i64 (rnum l 0 i)) ∧ ∃ m, w' = w.drewN m := by
  have hval : w.cell? ⟨b, off + i * 8 + 1, none⟩ = some (.int .i64 (l[i]!).n0) := hr i hi 1 _ rfl
  have hnum : rnum l 0 i = if 0 ≤ (l[i]!).n0 then (l[i]!).n0 else -1 - (i : Int) := rfl
  generalize (l[i]!).n0 = v at hval hnum
  have q0 : (0 : Int) ≤ (i : Int) := by omega
  have q1 : (i : Int) < (l.length : Int) := by omega
  by_cases h0 : 0 ≤ v
  · rw [if_pos h0] at hnum
    rw [hnum]
    clear hnum hr
    generalize l.length = n at *
    go_enter Try.func18, Try.ntmps18
    go_wp2
    go_ret
    exact ⟨rfl, 0, rfl⟩
  · rw [if_neg h0] at hnum
    rw [hnum]
    clear hnum hr
    generalize l.length = n at *
    go_enter Try.func18, Try.ntmps18
    go_wp2
    go_ret
    exact ⟨rfl, 0, rfl⟩

set_option maxRecDepth 100000 in
set_option maxHeartbeats 1000000 in
theorem refNumber_1 (b off c i : Nat) (l : List SRow) (w : World) (hbig : l.length ≤ 1000000) (hi : i < l.length) (hr : RowsAt w b off l) :
    Calls Try.prog 18 #[.slice (some ⟨b, off, none⟩) l.length c, .int .i64 1, .int .i64 i] w fun e w' => e = .returned (.int .i64 (rnum l 1 i)) ∧ ∃ m, w' = w.drewN m := by
  have hval : w.cell? ⟨b, off + i * 8 + 2, none⟩ = some (.int .i64 (l[i]!).n1) := hr i hi 2 _ rfl
  have hnum : rnum l 1 i = if 0 ≤ (l[i]!).n1 then (l[i]!).n1 else -1 - (i : Int) := rfl
  generalize (l[i]!).n1 = v at hval hnum
  have q0 : (0 : Int) ≤ (i : Int) := by omega
  have q1 : (i : Int) < (l.length : Int) := by omega
  by_cases h0 : 0 ≤ v
  · rw [if_pos h0] at hnum
    rw [hnum]
    clear hnum hr
    generalize l.length = n at *
    go_enter Try.func18, Try.ntmps18
    go_wp2
    go_ret
    exact ⟨rfl, 0, rfl⟩
  · rw [if_neg h0] at hnum
    rw [hnum]
    clear hnum hr
    generalize l.length = n at *
    go_enter Try.func18, Try.ntmps18
    go_wp2
    go_ret
    exact ⟨rfl, 0, rfl⟩

set_option maxRecDepth 100000 in
set_option maxHeartbeats 1000000 in
theorem refNumber_2 (b off c i : Nat) (l : List SRow) (w : World) (hbig : l.length ≤ 1000000) (hi : i < l.length) (hr : RowsAt w b off l) :
    Calls Try.prog 18 #[.slice (some ⟨b, off, none⟩) l.length c, .int .i64 2, .int .i64 i] w fun e w' => e = .returned (.int .i64 (rnum l 2 i)) ∧ ∃ m, w' = w.drewN m := by
  have hval : w.cell? ⟨b, off + i * 8 + 3, none⟩ = some (.int .i64 (l[i]!).n2) := hr i hi 3 _ rfl
  have hnum : rnum l 2 i = if 0 ≤ (l[i]!).n2 then (l[i]!).n2 else -1 - (i : Int) := rfl
  generalize (l[i]!).n2 = v at hval hnum
  have q0 : (0 : Int) ≤ (i : Int) := by omega
  have q1 : (i : Int) < (l.length : Int) := by omega
  by_cases h0 : 0 ≤ v
  · rw [if_pos h0] at hnum
    rw [hnum]
    clear hnum hr
    generalize l.length = n at *
    go_enter Try.func18, Try.ntmps18
    go_wp2
    go_ret
    exact ⟨rfl, 0, rfl⟩
  · rw [if_neg h0] at hnum
    rw [hnum]
    clear hnum hr
    generalize l.length = n at *
    go_enter Try.func18, Try.ntmps18
    go_wp2
    go_ret
    exact ⟨rfl, 0, rfl⟩

set_option maxRecDepth 100000 in
set_option maxHeartbeats 1000000 in
theorem refNumber_3 (b off c i : Nat) (l : List SRow) (w : World) (hbig : l.length ≤ 1000000) (hi : i < l.length) (hr : RowsAt w b off l) :
    Calls Try.prog 18 #[.slice (some ⟨b, off, none⟩) l.length c, .int .i64 3, .int .i64 i] w fun e w' => e = .returned (.int .i64 (rnum l 3 i)) ∧ ∃ m, w' = w.drewN m := by
  have hval : w.cell? ⟨b, off + i * 8 + 4, none⟩ = some (.int .i64 (l[i]!).n3) := hr i hi 4 _ rfl
  have hnum : rnum l 3 i = if 0 ≤ (l[i]!).n3 then (l[i]!).n3 else -1 - (i : Int) := rfl
  generalize (l[i]!).n3 = v at hval hnum
  have q0 : (0 : Int) ≤ (i : Int) := by omega
  have q1 : (i : Int) < (l.length : Int) := by omega
  by_cases h0 : 0 ≤ v
  · rw [if_pos h0] at hnum
    rw [hnum]
    clear hnum hr
    generalize l.length = n at *
    go_enter Try.func18, Try.ntmps18
    go_wp2
    go_ret
    exact ⟨rfl, 0, rfl⟩
  · rw [if_neg h0] at hnum
    rw [hnum]
    clear hnum hr
    generalize l.length = n at *
    go_enter Try.func18, Try.ntmps18
    go_wp2
    go_ret
    exact ⟨rfl, 0, rfl⟩

set_option maxRecDepth 100000 in
set_option maxHeartbeats 1000000 in
theorem refNumber_4 (b off c i : Nat) (l : List SRow) (w : World) (hbig : l.length ≤ 1000000) (hi : i < l.length) (hr : RowsAt w b off l) :
    Calls Try.prog 18 #[.slice (some ⟨b, off, none⟩) l.length c, .int .i64 4, .int .i64 i] w fun e w' => e = .returned (.int .i64 (rnum l 4 i)) ∧ ∃ m, w' = w.drewN m := by
  have hval : w.cell? ⟨b, off + i * 8 + 5, none⟩ = some (.int .i64 (l[i]!).n4) := hr i hi 5 _ rfl
  have hnum : rnum l 4 i = if 0 ≤ (l[i]!).n4 then (l[i]!).n4 else -1 - (i : Int) := rfl
  generalize (l[i]!).n4 = v at hval hnum
  have q0 : (0 : Int) ≤ (i : Int) := by omega
  have q1 : (i : Int) < (l.length : Int) := by omega
  by_cases h0 : 0 ≤ v
  · rw [if_pos h0] at hnum
    rw [hnum]
    clear hnum hr
    generalize l.length = n at *
    go_enter Try.func18, Try.ntmps18
    go_wp2
    go_ret
    exact ⟨rfl, 0, rfl⟩
  · rw [if_neg h0] at hnum
    rw [hnum]
    clear hnum hr
    generalize l.length = n at *
    go_enter Try.func18, Try.ntmps18
    go_wp2
    go_ret
    exact ⟨rfl, 0, rfl⟩

theorem refNumber_at (b off c i a : Nat) (ha : a < 5) (l : List SRow) (w : World) (hbig : l.length ≤ 1000000) (hi : i < l.length) (hr : RowsAt w b off l) :
    Calls Try.prog 18 #[.slice (some ⟨b, off, none⟩) l.length c, .int .i64 a, .int .i64 i] w fun e w' => e = .returned (.int .i64 (rnum l a i)) ∧ ∃ m, w' = w.drewN m := by
  rcases a with _ | _ | _ | _ | _ | a
  · exact refNumber_0 b off c i l w hbig hi hr
  · exact refNumber_1 b off c i l w hbig hi hr
  · exact refNumber_2 b off c i l w hbig hi hr
  · exact refNumber_3 b off c i l w hbig hi hr
  · exact refNumber_4 b off c i l w hbig hi hr
  · omega

end Go.Proofs.Ytakmbmlpgmppiaa
