/- strainerref11: Find, Sub, Number, At; strainerlaw11.light. -/
import Derived.Test.YtakmbmlpgmppiaaDoorSysName
namespace Go.Proofs.YtakmbmlpgmppiaaDoor
open Go Go.Proofs Go.RowKit

theorem drewN_trans {w w1 w2 : World} (h1 : ∃ m, w1 = w.drewN m) (h2 : ∃ m, w2 = w1.drewN m) : ∃ m, w2 = w.drewN m := by
  obtain ⟨m, rfl⟩ := h1
  obtain ⟨k, rfl⟩ := h2
  exact ⟨m + k, by rw [World.drewN_drewN]⟩

/-- Is a row's name this one? -/
def eqP (t : ByteArray) (r : SRow) : Bool := r.name.toList == t.toList
/-- The reference's Sub. -/
def rsubP (mux sub : Int) (r : SRow) : Bool := decide (1 ≤ mux) && decide (mux ≤ 2) && r.mux == mux && r.sub == sub



/-- The reference's number of a row. -/
def rnum (l : List SRow) (a i : Nat) : Int := if 0 ≤ (l[i]!).num a then (l[i]!).num a else -1 - (i : Int)
/-- The first place from i on, of f places, at which q holds. -/
def firstN (q : Nat → Bool) : Nat → Nat → Int
  | _, 0 => -1
  | i, f + 1 => if q i = true then (i : Int) else firstN q (i + 1) f
theorem firstN_hit (q : Nat → Bool) : ∀ (f i k : Nat), i ≤ k → k < i + f → (∀ j, i ≤ j → j < k → q j = false) → q k = true → firstN q i f = k
  | 0, i, k, h1, h2, _, _ => absurd h2 (by omega)
  | f + 1, i, k, h1, h2, hm, hq => by
    by_cases e : i = k
    · subst e; simp [firstN, hq]
    · have h0 : q i = false := hm i (Nat.le_refl _) (by omega)
      have ih := firstN_hit q f (i + 1) k (by omega) (by omega) (fun j hj hk => hm j (by omega) hk) hq
      simp [firstN, h0, ih]
theorem firstN_miss (q : Nat → Bool) : ∀ (f i : Nat), (∀ j, i ≤ j → j < i + f → q j = false) → firstN q i f = -1
  | 0, _, _ => rfl
  | f + 1, i, hm => by
    have h0 : q i = false := hm i (Nat.le_refl _) (by omega)
    have ih := firstN_miss q f (i + 1) (fun j hj hk => hm j (by omega) (by omega))
    simp [firstN, h0, ih]


end Go.Proofs.YtakmbmlpgmppiaaDoor
