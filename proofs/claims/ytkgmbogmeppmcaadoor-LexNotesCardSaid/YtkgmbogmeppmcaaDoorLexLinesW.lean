/- strainerlaw13.LexLines: the walk. -/
import Derived.Test.YtkgmbogmeppmcaaDoorLexAwake
namespace Go.Proofs.YtkgmbogmeppmcaaDoor
open Go Go.Proofs Go.RowKit

theorem lexAns_small {t : ByteArray} {k : Nat} (ht : t.size ≤ k) : (lexAns t).1.length ≤ k + 1 ∧ ∀ x ∈ (lexAns t).1, x.2.length ≤ k := by
  have hw : ∀ (l w : List UInt8) (out : List ByteArray), (wordsGo l w out).length ≤ out.length + l.length + (if w = [] then 0 else 1) := by
    intro l
    induction l with
    | nil =>
      intro w out
      show (flush w out).length ≤ _
      unfold flush
      split <;> simp
    | cons c r ih =>
      intro w out
      show (if blkB c then wordsGo r [] (flush w out) else wordsGo r (w ++ [c]) out).length ≤ _
      split
      · have := ih [] (flush w out)
        rw [if_pos rfl] at this
        unfold flush at this ⊢
        split at this
        · rename_i e; rw [if_pos e] at *; simp at this ⊢; omega
        · rename_i e; rw [if_neg e] at *; simp at this ⊢; omega
      · have := ih (w ++ [c]) out
        rw [if_neg (by simp)] at this
        simp at this ⊢
        split <;> omega
  have hg : ∀ (ps : List (List UInt8)) (n : Nat) (acc : List Ln), (∀ p ∈ ps, p.length ≤ k) → (∀ x ∈ acc, x.2.length ≤ k) → (lexGo ps n acc).1.length ≤ acc.length + ps.length ∧ ∀ x ∈ (lexGo ps n acc).1, x.2.length ≤ k := by
    intro ps
    induction ps with
    | nil => intro n acc _ h; exact ⟨by show acc.length ≤ _; simp, h⟩
    | cons p r ih =>
      intro n acc hp h
      have hpk := hp p (by simp)
      show (match lineOf p with | none => ([], n, 13) | some ws => lexGo r (n + 1) (addLn n ws acc)).1.length ≤ _ ∧ ∀ x ∈ (match lineOf p with | none => ([], n, 13) | some ws => lexGo r (n + 1) (addLn n ws acc)).1, _
      cases hl : lineOf p with
      | none => exact ⟨by simp, fun x hx => by simp at hx⟩
      | some ws =>
        have hws : ws.length ≤ k := by
          unfold lineOf at hl
          rw [lineGo_eq] at hl
          split at hl
          · simp only [Option.some.injEq] at hl
            subst hl
            have := hw (unNoted p) [] []
            rw [if_pos rfl] at this
            have h2 := unNoted_len p
            simp at this
            omega
          · cases hl
        have ih' := ih (n + 1) (addLn n ws acc) (fun q hq => hp q (by simp [hq])) (by
          intro x hx
          unfold addLn at hx
          split at hx
          · exact h x hx
          · rcases List.mem_append.1 hx with hx | hx
            · exact h x hx
            · simp at hx; subst hx; exact hws)
        refine ⟨Nat.le_trans ih'.1 ?_, ih'.2⟩
        have : (addLn n ws acc).length ≤ acc.length + 1 := by unfold addLn; split <;> simp
        simp
        omega
  unfold lexAns
  split
  · exact ⟨by simp, fun x hx => by simp at hx⟩
  · have h1 := hg (pieces t.data.toList) 1 [] (fun p hp => by have := pieces_mem _ p hp; rw [size_list] at this; omega) (fun x hx => by simp at hx)
    have h2 := pieces_count t.data.toList
    rw [size_list] at h2
    exact ⟨by have := h1.1; simp at this; omega, h1.2⟩

set_option maxRecDepth 100000 in
set_option maxHeartbeats 1000000 in
theorem lexlines_law (t : ByteArray) (w : World) : Calls Tryd.prog 5 #[.string t] w fun e w' => e = .returned (.bool true) ∧ Below w.heap.size w w' := by
  by_cases hlong : 2000 < t.size
  · have hz : (2000 : Int) < (t.size : Int) := by omega
    have hz2 : decide ((2000 : Nat) < t.size) = true := by simpa using hlong
    go_enter Tryd.func5, Tryd.ntmps5
    go_wp2
    go_ret
    exact ⟨rfl, Below.refl _ _⟩
  have hz : ¬ (2000 : Int) < (t.size : Int) := by omega
  have hs := lexAns_small (t := t) (k := 2000) (by omega)
  have HL := Lib.hid (fun W => lexLines_any t W)
  have HR := Lib.hid (fun W => refLines_any t (by omega) W)
  unfold linesPost at HR
  obtain ⟨ls, n, er, he⟩ : ∃ ls n er, lexAns t = (ls, n, er) := ⟨_, _, _, rfl⟩
  rw [he] at hs HL HR
  dsimp only at hs HL HR
  have HS := Lib.hid hs
  clear he hs
  go_enter Tryd.func5, Tryd.ntmps5
  go_wp2_with fail
  refine (HL.out _).mono ?_
  rintro e w1 ⟨v1, rfl, hl1, hb1⟩
  have H1 := Lib.hid hl1
  have HB1 := Lib.hid hb1
  clear hl1 hb1 HL
  go_wp2_with fail
  refine (HR.out _).mono ?_
  rintro e w2 ⟨v2, rfl, hl2, hb2⟩
  have H1' := Lib.hid (H1.out.below hb2)
  have H2 := Lib.hid hl2
  have HB2 := Lib.hid (HB1.out.trans (hb2.mono HB1.out.size))
  clear hl2 hb2 HR
  go_wp2_with fail
  refine (told_same v1 v2 ls _ _ (by have := HS.out.1; omega) (fun x hx => by have := HS.out.2 x hx; omega) _ H1'.out H2.out).mono ?_
  rintro e w3 ⟨rfl, hb3⟩
  have HB3 := Lib.hid (HB2.out.trans (hb3.mono HB2.out.size))
  clear hb3 H1 H2 H1'
  go_wp2_with fail
  refine (awake13_any _).mono ?_
  rintro e w4 ⟨rfl, hb4⟩
  have HB4 := Lib.hid (HB3.out.trans (hb4.mono HB3.out.size))
  clear hb4
  go_wp2
  go_ret
  exact ⟨rfl, HB4.out⟩
end Go.Proofs.YtkgmbogmeppmcaaDoor
