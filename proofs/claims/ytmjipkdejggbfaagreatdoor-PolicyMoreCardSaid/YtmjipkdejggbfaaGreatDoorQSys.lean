/- systab: rows in memory; slices.IndexFunc over them, for every predicate. -/
import Derived.Test.YtmjipkdejggbfaaGreatDoorProg
import Derived.WalkLawsBesides
import Derived.WalkSpells
import Derived.Lib.Hide
import Derived.BigQuiet
import Derived.Deep.QuietTactic
import Derived.Deep.RegionHeld3
import Derived.Deep.LoopGhost
import Derived.Shelf.SlicesQ.IndexFunc
import Derived.Lib.Bytealg
import Derived.WalkSmall
import Derived.Deep.RegionHeldLaw
import Derived.Deep.AppendLies
import Derived.OwnWalk
import Derived.Lib.SlTrimSet
import Derived.WideKeyPair
import Derived.Maps.Keyed
import Derived.Maps.Own
import Derived.Test.YtmjipkdejggbfaaGreatDoorQBase
namespace Go.Proofs.YtmjipkdejggbfaaGreatDoor.SysP
open Go Go.Proofs Go.RowKit

structure SRow where
  name : ByteArray
  n0 : Int
  n1 : Int
  n2 : Int
  n3 : Int
  n4 : Int
  mux : Int
  sub : Int

def SRow.zero : SRow := ⟨⟨#[]⟩, 0, 0, 0, 0, 0, 0, 0⟩
instance : Inhabited SRow := ⟨SRow.zero⟩
/-- A row's cells. -/
def SRow.cells (r : SRow) : List Value := [.string r.name, .int .i64 r.n0, .int .i64 r.n1, .int .i64 r.n2, .int .i64 r.n3, .int .i64 r.n4, .int .i64 r.mux, .int .i64 r.sub]

/-- Rows lie in block b from off on. -/
def RowsAt (W : World) (b off : Nat) (l : List SRow) : Prop := ∀ j, j < l.length → ∀ i v, (l[j]!).cells[i]? = some v → W.cell? ⟨b, off + j * 8 + i, none⟩ = some v
/-- A slice of rows. -/
def RowsV (W : World) (sv : Value) (l : List SRow) : Prop :=
  ∃ a c, sv = .slice a l.length c ∧ (l = [] ∨ ∃ b off, a = some ⟨b, off, none⟩ ∧ b < W.heap.size ∧ RowsAt W b off l)
theorem RowsAt.below {W W' : World} {b off : Nat} {l : List SRow} (h : RowsAt W b off l) (hb : Below W.heap.size W W') (hlt : b < W.heap.size) : RowsAt W' b off l :=
  fun j hj i v hv => (hb.cell (p := ⟨b, off + j * 8 + i, none⟩) hlt).trans (h j hj i v hv)
theorem RowsV.below {W W' : World} {sv : Value} {l : List SRow} (h : RowsV W sv l) (hb : Below W.heap.size W W') : RowsV W' sv l := by
  obtain ⟨a, c, rfl, h⟩ := h
  refine ⟨a, c, rfl, ?_⟩
  rcases h with h | ⟨b, off, rfl, hlt, hr⟩
  · exact .inl h
  · exact .inr ⟨b, off, rfl, Nat.lt_of_lt_of_le hlt hb.size, hr.below hb hlt⟩

/-- The first place at which p holds; -1: none. -/
def firstIdx (p : SRow → Bool) : List SRow → Int
  | [] => -1
  | x :: r => if p x = true then 0 else if firstIdx p r < 0 then -1 else firstIdx p r + 1

theorem firstIdx_hit (p : SRow → Bool) : ∀ (l : List SRow) (k : Nat), k < l.length → (∀ j, j < k → p l[j]! = false) → p l[k]! = true → firstIdx p l = k
  | [], k, h, _, _ => by simp at h
  | x :: r, 0, _, _, h => by simp at h; simp [firstIdx, h]
  | x :: r, k + 1, hk, hm, h => by
    have h0 : p x = false := by simpa using hm 0 (by omega)
    have ih := firstIdx_hit p r k (by simpa using hk) (fun j hj => by simpa using hm (j + 1) (by omega)) (by simpa using h)
    simp [firstIdx, h0, ih]
    omega
theorem firstIdx_miss (p : SRow → Bool) : ∀ (l : List SRow), (∀ j, j < l.length → p l[j]! = false) → firstIdx p l = -1
  | [], _ => rfl
  | x :: r, hm => by
    have h0 : p x = false := by simpa using hm 0 (by simp)
    have ih := firstIdx_miss p r (fun j hj => by simpa using hm (j + 1) (by simpa using hj))
    simp [firstIdx, h0, ih]

end Go.Proofs.YtmjipkdejggbfaaGreatDoor.SysP
namespace Go.Proofs.YtmjipkdejggbfaaGreatDoor.SysP
open Go Go.Proofs Go.RowKit

def subP (mux sub : Int) (r : SRow) : Bool := r.mux == mux && r.sub == sub && mux != 0

/-- What Sub answers. -/
def subAns (mux sub : Int) (l : List SRow) : Value :=
  if firstIdx (subP mux sub) l < 0 then .tuple #[.string ⟨#[]⟩, .bool false] else .tuple #[.string (l[(firstIdx (subP mux sub) l).toNat]!).name, .bool true]

theorem firstIdx_range (p : SRow → Bool) : ∀ (l : List SRow), firstIdx p l = -1 ∨ (0 ≤ firstIdx p l ∧ firstIdx p l < l.length)
  | [] => .inl rfl
  | x :: r => by
    have ih := firstIdx_range p r
    simp only [firstIdx, List.length_cons]
    split
    · right; omega
    · split
      · left; rfl
      · right; omega

theorem RowsAt.nameCell {W : World} {b off : Nat} {l : List SRow} (h : RowsAt W b off l) {j : Nat} (hj : j < l.length) : W.cell? ⟨b, off + j * 8, none⟩ = some (.string (l[j]!).name) := by
  have := h j hj 0 _ rfl
  simpa using this

end Go.Proofs.YtmjipkdejggbfaaGreatDoor.SysP
namespace Go.Proofs.YtmjipkdejggbfaaGreatDoor.SysP
open Go Go.Proofs Go.RowKit

/-- How a row's name stands to a name. -/
def cmpR (t : ByteArray) (r : SRow) : Int := Lib.compareBytes r.name.data.toList t.data.toList

/-- What a binary search for t answers: how many rows lie below t, and whether the next one is t's. -/
def BsAns (t : ByteArray) (l : List SRow) (i : Nat) : Prop :=
  i ≤ l.length ∧ (∀ k, k < i → cmpR t l[k]! < 0) ∧ (∀ k, i ≤ k → k < l.length → 0 ≤ cmpR t l[k]!)
def bsHit (t : ByteArray) (l : List SRow) (i : Nat) : Bool := decide (i < l.length) && cmpR t l[i]! == 0
def BsPost (t : ByteArray) (l : List SRow) (w : World) (e : Ending) (w' : World) : Prop :=
  ∃ i : Nat, BsAns t l i ∧ e = .returned (.tuple #[.int .i64 i, .bool (bsHit t l i)]) ∧ Below w.heap.size w w'

def SRow.val (r : SRow) : Value := .agg #[.string r.name, .int .i64 r.n0, .int .i64 r.n1, .int .i64 r.n2, .int .i64 r.n3, .int .i64 r.n4, .int .i64 r.mux, .int .i64 r.sub]
/-- What systab.Find answers. -/
def FindPost (t : ByteArray) (l : List SRow) (w : World) (e : Ending) (w' : World) : Prop :=
  ∃ i : Nat, BsAns t l i ∧ Below w.heap.size w w' ∧
    ((bsHit t l i = true ∧ e = .returned (.tuple #[(l[i]!).val, .int .i64 i, .bool true])) ∨ (bsHit t l i = false ∧ e = .returned (.tuple #[SRow.zero.val, .int .i64 0, .bool false])))

end Go.Proofs.YtmjipkdejggbfaaGreatDoor.SysP
namespace Go.Proofs.YtmjipkdejggbfaaGreatDoor.SysP
open Go Go.Proofs Go.RowKit

/-- A row's number of an ABI. -/
def SRow.num (r : SRow) (a : Nat) : Int := match a with
  | 0 => r.n0 | 1 => r.n1 | 2 => r.n2 | 3 => r.n3 | _ => r.n4
/-- A row's number, or pseudo-number. -/
def numOf (l : List SRow) (a i : Nat) : Int := if (l[i]!).num a = -1 then -1 - (i : Int) else (l[i]!).num a
def NumPost (t : ByteArray) (l : List SRow) (a : Nat) (w : World) (e : Ending) (w' : World) : Prop :=
  ∃ i : Nat, BsAns t l i ∧ Below w.heap.size w w' ∧
    ((bsHit t l i = true ∧ e = .returned (.tuple #[.int .i64 (numOf l a i), .int .i64 0])) ∨ (bsHit t l i = false ∧ e = .returned (.tuple #[.int .i64 0, .int .i64 14])))
theorem bsHit_lt {t : ByteArray} {l : List SRow} {i : Nat} (h : bsHit t l i = true) : i < l.length := by
  unfold bsHit at h
  simp at h
  exact h.1

end Go.Proofs.YtmjipkdejggbfaaGreatDoor.SysP
namespace Go.Proofs.YtmjipkdejggbfaaGreatDoor.SysP
open Go Go.Proofs Go.RowKit

/-- Has a row this number of an ABI, and is it one? -/
def nameP (a : Nat) (number : Int) (r : SRow) : Bool := r.num a == number && number != -1

/-- Which row Name means; below 0: none. -/
def nameIdx (l : List SRow) (a : Nat) (number : Int) : Int :=
  if number < 0 ∧ -(l.length : Int) ≤ number ∧ (l[(-1 - number).toNat]!).num a = -1 then -1 - number else firstIdx (nameP a number) l
/-- What Name answers. -/
def nameAns (l : List SRow) (a : Nat) (number : Int) : Value :=
  if nameIdx l a number < 0 then .tuple #[.string ⟨#[]⟩, .int .i64 14] else .tuple #[.string (l[(nameIdx l a number).toNat]!).name, .int .i64 0]

end Go.Proofs.YtmjipkdejggbfaaGreatDoor.SysP
namespace Go.Proofs.YtmjipkdejggbfaaGreatDoor.SysP
open Go Go.Proofs Go.RowKit

theorem drewN_trans {w w1 w2 : World} (h1 : ∃ m, w1 = w.drewN m) (h2 : ∃ m, w2 = w1.drewN m) : ∃ m, w2 = w.drewN m := by
  obtain ⟨m, rfl⟩ := h1
  obtain ⟨k, rfl⟩ := h2
  exact ⟨m + k, by rw [World.drewN_drewN]⟩

/-- Is a row's name this one? -/
def eqP (t : ByteArray) (r : SRow) : Bool := r.name.toList == t.toList
/-- The reference's Sub. -/
def rsubP (mux sub : Int) (r : SRow) : Bool := decide (1 ≤ mux) && decide (mux ≤ 2) && r.mux == mux && r.sub == sub



/-- The reference's number of a row. -/
def rnum (l : List SRow) (a i : Nat) : Int := if 0 ≤ (l[i]!).num a then (l[i]!).num a else -1 - (i : Int)
/-- The first place from i on, of f places, at which q holds. -/
def firstN (q : Nat → Bool) : Nat → Nat → Int
  | _, 0 => -1
  | i, f + 1 => if q i = true then (i : Int) else firstN q (i + 1) f
theorem firstN_hit (q : Nat → Bool) : ∀ (f i k : Nat), i ≤ k → k < i + f → (∀ j, i ≤ j → j < k → q j = false) → q k = true → firstN q i f = k
  | 0, i, k, h1, h2, _, _ => absurd h2 (by omega)
  | f + 1, i, k, h1, h2, hm, hq => by
    by_cases e : i = k
    · subst e; simp [firstN, hq]
    · have h0 : q i = false := hm i (Nat.le_refl _) (by omega)
      have ih := firstN_hit q f (i + 1) k (by omega) (by omega) (fun j hj hk => hm j (by omega) hk) hq
      simp [firstN, h0, ih]
theorem firstN_miss (q : Nat → Bool) : ∀ (f i : Nat), (∀ j, i ≤ j → j < i + f → q j = false) → firstN q i f = -1
  | 0, _, _ => rfl
  | f + 1, i, hm => by
    have h0 : q i = false := hm i (Nat.le_refl _) (by omega)
    have ih := firstN_miss q f (i + 1) (fun j hj hk => hm j (by omega) (by omega))
    simp [firstN, h0, ih]


end Go.Proofs.YtmjipkdejggbfaaGreatDoor.SysP
namespace Go.Proofs.YtmjipkdejggbfaaGreatDoor.SysP
open Go Go.Proofs Go.RowKit


/-- Are rows few, and their names short? -/
def lightB (l : List SRow) : Bool := decide (l.length ≤ 40) && l.all (fun r => decide (r.name.size ≤ 60))
theorem lightB_false {l : List SRow} {k : Nat} (hk : k < l.length) (h : ¬ (l[k]!).name.size ≤ 60) : lightB l = false := by
  have : l.all (fun r => decide (r.name.size ≤ 60)) = false := by
    rw [List.all_eq_false]
    refine ⟨l[k], List.getElem_mem hk, ?_⟩
    rw [show l[k] = l[k]! by simp [hk]]
    simpa using h
  unfold lightB
  rw [this, Bool.and_false]
theorem lightB_true {l : List SRow} (hl : l.length ≤ 40) (h : ∀ k, k < l.length → (l[k]!).name.size ≤ 60) : lightB l = true := by
  unfold lightB
  rw [Bool.and_eq_true]
  refine ⟨by simpa using hl, List.all_eq_true.2 (fun r hr => ?_)⟩
  obtain ⟨k, hk, rfl⟩ := List.mem_iff_getElem.1 hr
  have := h k hk
  rw [show l[k]! = l[k] by simp [hk]] at this
  simpa using this

end Go.Proofs.YtmjipkdejggbfaaGreatDoor.SysP
namespace Go.Proofs.YtmjipkdejggbfaaGreatDoor.SysP
open Go Go.Proofs Go.RowKit

theorem infoRow : (Tryz.prog.info? 149).map (fun i => (i.zero, i.size, i.bytes)) = some (some (.agg #[.string ⟨#[]⟩, .int .i64 0, .int .i64 0, .int .i64 0, .int .i64 0, .int .i64 0, .int .i64 0, .int .i64 0]), 8, 72) := by kernel_rfl

def flat (l : List SRow) : List Value := l.flatMap SRow.cells
theorem cells_len (r : SRow) : r.cells.length = 8 := rfl
theorem flat_len : ∀ l : List SRow, (flat l).length = l.length * 8
  | [] => rfl
  | x :: r => by
    have := flat_len r
    simp only [flat, List.flatMap_cons, List.length_append, cells_len, List.length_cons] at this ⊢
    omega
theorem flat_get : ∀ (l : List SRow) (j : Nat), j < l.length → ∀ i, i < 8 → (flat l)[j * 8 + i]? = (l[j]!).cells[i]?
  | [], j, h, _, _ => by simp at h
  | x :: r, 0, _, i, hi => by
    simp only [flat, List.flatMap_cons, Nat.zero_mul, Nat.zero_add]
    rw [List.getElem?_append_left (by rw [cells_len]; exact hi)]
    simp
  | x :: r, j + 1, h, i, hi => by
    have ih := flat_get r j (by simpa using h) i hi
    simp only [flat, List.flatMap_cons] at ih ⊢
    rw [List.getElem?_append_right (by rw [cells_len]; omega), cells_len, show (j + 1) * 8 + i - 8 = j * 8 + i by omega, ih]
    simp
theorem flat_take (l : List SRow) (k : Nat) (hk : k < l.length) : flat (l.take k) ++ (l[k]!).cells = flat (l.take (k + 1)) := by
  unfold flat
  rw [List.take_succ_eq_append_getElem hk, List.flatMap_append, show l[k]! = l[k] by simp [hk]]
  simp

theorem rowsV_owned {W : World} {base : Nat} {e : TypeId} {v : Value} {l : List SRow} (h : W.ownsRow base e 8 v l.length (flat l)) : RowsV W v l ∧ (l = [] ∨ ∃ g cap, v = .slice (some ⟨g, 0, none⟩) l.length cap ∧ base ≤ g) := by
  have hl := h.lt
  rcases h.2 with ⟨rfl, h0⟩ | ⟨g, cap, cur, rfl, hbg, hg, _⟩
  · have : l = [] := List.eq_nil_of_length_eq_zero h0
    subst this
    exact ⟨⟨none, 0, rfl, .inl rfl⟩, .inl rfl⟩
  · refine ⟨⟨_, cap, rfl, .inr ⟨g, 0, rfl, (hl g rfl).2, fun j hj i u hu => ?_⟩⟩, .inr ⟨g, cap, rfl, hbg⟩⟩
    have hi : i < 8 := by
      have := (List.getElem?_eq_some_iff.1 hu).1
      rw [cells_len] at this; exact this
    have := h.cells (g := g) rfl (j * 8 + i) u (by rw [flat_get l j hj i hi]; exact hu)
    have e : (⟨g, 0, none⟩ : Addr).add (j * 8 + i) = ⟨g, 0 + j * 8 + i, none⟩ := by rw [Addr.add_lit, Nat.add_assoc]
    rw [← e]; exact this

theorem news8 (W : World) (y : SRow) : ∀ j u, y.cells[j]? = some u → ((W.alloc (.cells #[.string y.name, .int .i64 y.n0, .int .i64 y.n1, .int .i64 y.n2, .int .i64 y.n3, .int .i64 y.n4, .int .i64 y.mux, .int .i64 y.sub] 149)).drew).cell? ((⟨W.heap.size, 0, none⟩ : Addr).add j) = some u := by
  intro j u h
  rw [Addr.add_lit, Nat.zero_add]
  have := (Blk.new W 149 #[.string y.name, .int .i64 y.n0, .int .i64 y.n1, .int .i64 y.n2, .int .i64 y.n3, .int .i64 y.n4, .int .i64 y.mux, .int .i64 y.sub]).cell j
  refine Eq.trans this ?_
  rw [← h]
  simp [SRow.cells]
theorem one8 (y : SRow) : ∀ u ∈ y.cells, u.oneCell' = true := by
  intro u hu
  simp [SRow.cells] at hu
  rcases hu with rfl | rfl | rfl | rfl | rfl | rfl | rfl | rfl <;> rfl
theorem cell_ad {W : World} {o : Obj} {a : Addr} {v : Value} (h : W.cell? a = some v) : (W.alloc o).drew.cell? a = some v := (World.grownBy_alloc W o none).cell h (by simp)

end Go.Proofs.YtmjipkdejggbfaaGreatDoor.SysP
namespace Go.Proofs.YtmjipkdejggbfaaGreatDoor.SysP
open Go Go.Proofs Go.RowKit

def okN (n : Nat) : Prop := (97 ≤ n ∧ n ≤ 122) ∨ (48 ≤ n ∧ n ≤ 57) ∨ n = 95
def refNameP (s : ByteArray) : Prop :=
  s.size ≤ 30 ∧ (∃ h : 0 < s.size, 97 ≤ (s[0]'h).toNat ∧ (s[0]'h).toNat ≤ 122) ∧ ¬ s.toList = [100, 101, 102, 97, 117, 108, 116] ∧ ¬ s.toList = [120, 51, 50] ∧ ∀ j (h : j < s.size), okN (s[j]'h).toNat

def RNPost (s : ByteArray) (w : World) (e : Ending) (w' : World) : Prop := ∃ v : Bool, e = .returned (.bool v) ∧ (v = true ↔ refNameP s) ∧ ∃ m, w' = w.drewN m

theorem rn_false {s : ByteArray} {w : World} (h : ¬ refNameP s) : RNPost s w (.returned (.bool false)) w := ⟨false, rfl, ⟨fun e => by simp at e, fun e => absurd e h⟩, 0, rfl⟩

set_option maxRecDepth 100000 in
set_option maxHeartbeats 400000 in
theorem refName_any (s : ByteArray) (w : World) : Calls Tryz.prog 68 #[.string s] w (RNPost s w) := by
  by_cases hs0 : s.size = 0
  · have h0 : ((s.size : Int) == 0) = true := by simp [hs0]
    go_enter Tryz.func68, Tryz.ntmps68
    go_wp2
    go_ret
    exact rn_false (fun h => by obtain ⟨h, _⟩ := h.2.1; omega)
  by_cases hs30 : s.size ≤ 30
  · have hs0' : ¬ (s.size : Int) = 0 := by omega
    have h0 : ((s.size : Int) == 0) = false := by simpa using hs0'
    have h00 : 0 < s.size := by omega
    have h01 : (0 : Int) < (s.size : Int) := by omega
    have h30 : ¬ (30 : Int) < (s.size : Int) := by omega
    by_cases a1 : 97 ≤ (s[0]'h00).toNat
    · have b1 : ¬ (((s[0]'h00).toNat : Nat) : Int) < 97 := by omega
      by_cases a2 : (s[0]'h00).toNat ≤ 122
      · have b2 : ¬ (122 : Int) < (((s[0]'h00).toNat : Nat) : Int) := by omega
        by_cases a3 : s.toList = [100, 101, 102, 97, 117, 108, 116]
        · have b3 : (s.toList == [100, 101, 102, 97, 117, 108, 116]) = true := by simpa using a3
          go_enter Tryz.func68, Tryz.ntmps68
          go_wp2
          go_ret
          exact rn_false (fun h => h.2.2.1 a3)
        · have b3 : (s.toList == [100, 101, 102, 97, 117, 108, 116]) = false := by simpa using a3
          by_cases a4 : s.toList = [120, 51, 50]
          · have b4 : (s.toList == [120, 51, 50]) = true := by simpa using a4
            go_enter Tryz.func68, Tryz.ntmps68
            go_wp2
            go_ret
            exact rn_false (fun h => h.2.2.2.1 a4)
          · have b4 : (s.toList == [120, 51, 50]) = false := by simpa using a4
            have HP : Hid (s.size ≤ 30 ∧ (∃ h : 0 < s.size, 97 ≤ (s[0]'h).toNat ∧ (s[0]'h).toNat ≤ 122) ∧ ¬ s.toList = [100, 101, 102, 97, 117, 108, 116] ∧ ¬ s.toList = [120, 51, 50]) := ⟨hs30, ⟨h00, a1, a2⟩, a3, a4⟩
            go_enter Tryz.func68, Tryz.ntmps68
            go_wp2
            clear a1 a2 a3 a4 b1 b2 b3 b4
            go_loopg [3] s.size (fun gg s3 wr => ∃ kk : Nat, kk ≤ s.size ∧ s.size - kk ≤ gg ∧ s3 = .int .i64 kk ∧ Hid (∃ m, wr = w.drewN m) ∧ Hid (∀ j (h : j < s.size), j < kk → okN (s[j]'h).toNat))
            case atStart => exact ⟨0, Nat.zero_le _, by omega, rfl, ⟨0, rfl⟩, fun j h hj => absurd hj (Nat.not_lt_zero _)⟩
            case round =>
              obtain ⟨kk, hkk, hg, rfl, BW, A⟩ := hrel
              obtain ⟨m, rfl⟩ := BW.out
              clear BW
              by_cases hlt : kk < s.size
              · have hltz : (kk : Int) < (s.size : Int) := by omega
                by_cases d1 : 97 ≤ (s[kk]'hlt).toNat
                · have x1 : (97 : Int) ≤ (((s[kk]'hlt).toNat : Nat) : Int) := by omega
                  have y1 : decide ((97 : Int) ≤ (((s[kk]'hlt).toNat : Nat) : Int)) = true := by simpa using x1
                  have x3 : (48 : Int) ≤ (((s[kk]'hlt).toNat : Nat) : Int) := by omega
                  have y3 : decide ((48 : Int) ≤ (((s[kk]'hlt).toNat : Nat) : Int)) = true := by simpa using x3
                  have x4 : ¬ (((s[kk]'hlt).toNat : Nat) : Int) ≤ (57 : Int) := by omega
                  have x5 : ¬ (((s[kk]'hlt).toNat : Nat) : Int) = (95 : Int) ∨ (((s[kk]'hlt).toNat : Nat) : Int) = 95 := by omega
                  by_cases d2 : (s[kk]'hlt).toNat ≤ 122
                  · have x2 : (((s[kk]'hlt).toNat : Nat) : Int) ≤ (122 : Int) := by omega
                    have y2 : decide ((((s[kk]'hlt).toNat : Nat) : Int) ≤ (122 : Int)) = true := by simpa using x2
                    clear x5
                    go_wp2
                    go_roundg (s.size - (kk + 1))
                    case measure => omega
                    case rel =>
                      refine ⟨kk + 1, by omega, by omega, by go_num, ⟨m, rfl⟩, (show Hid _ from fun j h hj => ?_)⟩
                      by_cases e : j = kk
                      · subst e; unfold okN; omega
                      · exact A.out j h (by omega)
                  · have x2 : ¬ (((s[kk]'hlt).toNat : Nat) : Int) ≤ (122 : Int) := by omega
                    have y2 : decide ((((s[kk]'hlt).toNat : Nat) : Int) ≤ (122 : Int)) = false := decide_eq_false x2
                    have y4 : decide ((((s[kk]'hlt).toNat : Nat) : Int) ≤ (57 : Int)) = false := decide_eq_false x4
                    have y5 : ((((s[kk]'hlt).toNat : Nat) : Int) == (95 : Int)) = false := beq_false_of_ne (by omega)
                    clear x5
                    go_wp2
                    go_ret
                    exact ⟨false, rfl, ⟨fun e => by simp at e, fun e => absurd (e.2.2.2.2 kk hlt) (by unfold okN; omega)⟩, m, rfl⟩
                · have x1 : ¬ (97 : Int) ≤ (((s[kk]'hlt).toNat : Nat) : Int) := by omega
                  have y1 : decide ((97 : Int) ≤ (((s[kk]'hlt).toNat : Nat) : Int)) = false := decide_eq_false x1
                  by_cases d3 : 48 ≤ (s[kk]'hlt).toNat
                  · have x3 : (48 : Int) ≤ (((s[kk]'hlt).toNat : Nat) : Int) := by omega
                    have y3 : decide ((48 : Int) ≤ (((s[kk]'hlt).toNat : Nat) : Int)) = true := decide_eq_true x3
                    by_cases d4 : (s[kk]'hlt).toNat ≤ 57
                    · have x4 : (((s[kk]'hlt).toNat : Nat) : Int) ≤ (57 : Int) := by omega
                      have y4 : decide ((((s[kk]'hlt).toNat : Nat) : Int) ≤ (57 : Int)) = true := decide_eq_true x4
                      go_wp2
                      go_roundg (s.size - (kk + 1))
                      case measure => omega
                      case rel =>
                        refine ⟨kk + 1, by omega, by omega, by go_num, ⟨m, rfl⟩, (show Hid _ from fun j h hj => ?_)⟩
                        by_cases e : j = kk
                        · subst e; unfold okN; omega
                        · exact A.out j h (by omega)
                    · have x4 : ¬ (((s[kk]'hlt).toNat : Nat) : Int) ≤ (57 : Int) := by omega
                      have y4 : decide ((((s[kk]'hlt).toNat : Nat) : Int) ≤ (57 : Int)) = false := decide_eq_false x4
                      by_cases d5 : (s[kk]'hlt).toNat = 95
                      · have y5 : ((((s[kk]'hlt).toNat : Nat) : Int) == (95 : Int)) = true := by rw [d5]; rfl
                        go_wp2
                        go_roundg (s.size - (kk + 1))
                        case measure => omega
                        case rel =>
                          refine ⟨kk + 1, by omega, by omega, by go_num, ⟨m, rfl⟩, (show Hid _ from fun j h hj => ?_)⟩
                          by_cases e : j = kk
                          · subst e; unfold okN; omega
                          · exact A.out j h (by omega)
                      · have y5 : ((((s[kk]'hlt).toNat : Nat) : Int) == (95 : Int)) = false := beq_false_of_ne (by omega)
                        go_wp2
                        go_ret
                        exact ⟨false, rfl, ⟨fun e => by simp at e, fun e => absurd (e.2.2.2.2 kk hlt) (by unfold okN; omega)⟩, m, rfl⟩
                  · have x3 : ¬ (48 : Int) ≤ (((s[kk]'hlt).toNat : Nat) : Int) := by omega
                    have y3 : decide ((48 : Int) ≤ (((s[kk]'hlt).toNat : Nat) : Int)) = false := decide_eq_false x3
                    have y5 : ((((s[kk]'hlt).toNat : Nat) : Int) == (95 : Int)) = false := beq_false_of_ne (by omega)
                    go_wp2
                    go_ret
                    exact ⟨false, rfl, ⟨fun e => by simp at e, fun e => absurd (e.2.2.2.2 kk hlt) (by unfold okN; omega)⟩, m, rfl⟩
              · have hltz : ¬ (kk : Int) < (s.size : Int) := by omega
                go_wp2
                go_ret
                exact ⟨true, rfl, ⟨fun _ => ⟨HP.out.1, HP.out.2.1, HP.out.2.2.1, HP.out.2.2.2, fun j h => A.out j h (by omega)⟩, fun _ => rfl⟩, m, rfl⟩
      · have b2 : (122 : Int) < (((s[0]'h00).toNat : Nat) : Int) := by omega
        go_enter Tryz.func68, Tryz.ntmps68
        go_wp2
        go_ret
        exact rn_false (fun h => a2 (by obtain ⟨_, ⟨_, _, h4⟩, _⟩ := h; exact h4))
    · have b1 : (((s[0]'h00).toNat : Nat) : Int) < 97 := by omega
      go_enter Tryz.func68, Tryz.ntmps68
      go_wp2
      go_ret
      exact rn_false (fun h => a1 (by obtain ⟨_, ⟨_, h3, _⟩, _⟩ := h; exact h3))
  · have h0 : ((s.size : Int) == 0) = false := beq_false_of_ne (by omega)
    have h30 : (30 : Int) < (s.size : Int) := by omega
    go_enter Tryz.func68, Tryz.ntmps68
    go_wp2
    go_ret
    exact rn_false (fun h => hs30 h.1)
end Go.Proofs.YtmjipkdejggbfaaGreatDoor.SysP
namespace Go.Proofs.YtmjipkdejggbfaaGreatDoor.SysP
open Go Go.Proofs Go.RowKit

def inR (x : Int) : Prop := -1 ≤ x ∧ x ≤ 1073741823
def muxOk (r : SRow) : Prop := 0 ≤ r.mux ∧ r.mux ≤ 2 ∧ (r.mux = 0 → r.sub = 0) ∧ (0 < r.mux → 1 ≤ r.sub ∧ r.sub ≤ 255)
def rngOk (r : SRow) : Prop := (∀ a, a < 5 → inR (r.num a)) ∧ muxOk r
def muxNo (r : SRow) : Prop := r.n2 = 102 ∨ r.n2 = 117
/-- Row k has a number of row r's, or its multiplexer's. -/
def clash (x r : SRow) : Prop := (∃ a, a < 5 ∧ 0 ≤ r.num a ∧ x.num a = r.num a) ∨ (0 < r.mux ∧ x.mux = r.mux ∧ x.sub = r.sub)
/-- The order of names. -/
def nameGe (l : List SRow) (i : Nat) : Prop := 0 < i ∧ Op.bytesLess (l[i - 1]!).name.toList (l[i]!).name.toList = false
def RowSaid (l : List SRow) (i : Nat) (v : Int) : Prop :=
  (v = 13 ∧ ¬ refNameP (l[i]!).name) ∨
  (refNameP (l[i]!).name ∧
    ((v = 15 ∧ nameGe l i) ∨
     (¬ nameGe l i ∧
       ((v = 16 ∧ ¬ rngOk l[i]!) ∨
        (rngOk l[i]! ∧
          ((v = 17 ∧ muxNo l[i]!) ∨
           (¬ muxNo l[i]! ∧
             ((v = 15 ∧ ∃ k, k < i ∧ clash l[k]! l[i]!) ∨ (v = 0 ∧ ∀ k, k < i → ¬ clash l[k]! l[i]!)))))))))

end Go.Proofs.YtmjipkdejggbfaaGreatDoor.SysP
namespace Go.Proofs.YtmjipkdejggbfaaGreatDoor.SysP
open Go Go.Proofs Go.RowKit Go.Shelf Go.Lib

theorem dropWhile_nil {p : UInt8 → Bool} : ∀ l : List UInt8, l.dropWhile p = [] ↔ ∀ b ∈ l, p b = true
  | [] => by simp
  | x :: r => by
    have ih := dropWhile_nil (p := p) r
    by_cases h : p x = true
    · simp [h, ih]
    · simp [h]
theorem dropWhile_sat {p : UInt8 → Bool} : ∀ l : List UInt8, (∀ b ∈ l.dropWhile p, p b = true) → ∀ b ∈ l, p b = true
  | [], _ => by simp
  | x :: r, h => by
    by_cases hx : p x = true
    · have ih := dropWhile_sat (p := p) r (by simpa [List.dropWhile_cons, hx] using h)
      intro b hb
      rcases List.mem_cons.1 hb with rfl | hb
      · exact hx
      · exact ih b hb
    · exact absurd (h x (by simp [hx])) hx
theorem trimS_nil (l cs : List UInt8) : trimS l cs = [] ↔ ∀ b ∈ l, cs.contains b = true := by
  unfold trimS trimLeftS
  rw [dropWhile_nil]
  constructor
  · intro h
    have h2 : ∀ b ∈ l.reverse.dropWhile (cs.contains ·), cs.contains b = true := fun b hb => h b (by unfold trimRightS; simpa using hb)
    have := dropWhile_sat l.reverse h2
    intro b hb
    exact this b (by simpa using hb)
  · intro h b hb
    unfold trimRightS at hb
    have := (List.dropWhile_sublist (l := l.reverse) (cs.contains ·)).subset (by simpa using hb : b ∈ _)
    exact h b (by simpa using this)

def cutS : List UInt8 := [97, 98, 99, 100, 101, 102, 103, 104, 105, 106, 107, 108, 109, 110, 111, 112, 113, 114, 115, 116, 117, 118, 119, 120, 121, 122, 48, 49, 50, 51, 52, 53, 54, 55, 56, 57, 95]
def lettersS : List UInt8 := [97, 98, 99, 100, 101, 102, 103, 104, 105, 106, 107, 108, 109, 110, 111, 112, 113, 114, 115, 116, 117, 118, 119, 120, 121, 122]
theorem cut_all : ∀ n, n < 256 → cutS.contains (UInt8.ofNat n) = decide ((97 ≤ n ∧ n ≤ 122) ∨ (48 ≤ n ∧ n ≤ 57) ∨ n = 95) := by decide +kernel
theorem cut_ok (b : UInt8) : cutS.contains b = true ↔ okN b.toNat := by
  have h := cut_all b.toNat b.toNat_lt
  rw [UInt8.ofNat_toNat] at h
  rw [h]
  simp [okN]
theorem let_all : ∀ n, n < 256 → decide (0 ≤ indexByte lettersS (UInt8.ofNat n)) = decide (97 ≤ n ∧ n ≤ 122) := by decide +kernel

def NamedPost (s : ByteArray) (w : World) (e : Ending) (w' : World) : Prop := ∃ v : Bool, e = .returned (.bool v) ∧ (v = true ↔ refNameP s) ∧ Below w.heap.size w w'
theorem nm_false {s : ByteArray} {w w' : World} (h : ¬ refNameP s) (hb : Below w.heap.size w w') : NamedPost s w (.returned (.bool false)) w' := ⟨false, rfl, ⟨fun e => by simp at e, fun e => absurd e h⟩, hb⟩

theorem all_okN (s : ByteArray) : (∀ b ∈ s.data.toList, cutS.contains b = true) ↔ ∀ j (h : j < s.size), okN (s[j]'h).toNat := by
  constructor
  · intro h j hj
    rw [← cut_ok]
    exact h _ (by simp [Array.mem_toList_iff]; exact Array.getElem_mem (xs := s.data) hj)
  · intro h b hb
    obtain ⟨j, hj, rfl⟩ := List.mem_iff_getElem.1 hb
    rw [cut_ok]
    exact h j (by simpa using hj)

set_option maxRecDepth 100000 in
set_option maxHeartbeats 1000000 in
theorem named_any (s : ByteArray) (w : World) (hs : s.size ≤ 9223372036854775807) : Calls Tryz.prog 96 #[.string s] w (NamedPost s w) := by
  by_cases h0 : s.size = 0
  · have e0 : s.toList = [] := by rw [ByteArray.toList_eq]; exact List.eq_nil_of_length_eq_zero (by simpa using h0)
    have e1 : s.toList.isEmpty = true := by rw [e0]; rfl
    go_enter Tryz.func96, Tryz.ntmps96
    go_wp2
    go_ret
    exact nm_false (fun h => by obtain ⟨h, _⟩ := h.2.1; omega) (Below.refl _ _)
  have h00 : 0 < s.size := by omega
  have e0 : ¬ s.toList = [] := by
    rw [ByteArray.toList_eq]
    intro h
    have := congrArg List.length h
    simp at this
    exact h0 (by rw [this]; rfl)
  have e1 : s.toList.isEmpty = false := by simpa using e0
  by_cases a3 : s.toList = [100, 101, 102, 97, 117, 108, 116]
  · have b3 : (s.toList == [100, 101, 102, 97, 117, 108, 116]) = true := by simpa using a3
    go_enter Tryz.func96, Tryz.ntmps96
    go_wp2
    go_ret
    exact nm_false (fun h => h.2.2.1 a3) (Below.refl _ _)
  have b3 : (s.toList == [100, 101, 102, 97, 117, 108, 116]) = false := by simpa using a3
  by_cases a4 : s.toList = [120, 51, 50]
  · have b4 : (s.toList == [120, 51, 50]) = true := by simpa using a4
    go_enter Tryz.func96, Tryz.ntmps96
    go_wp2
    go_ret
    exact nm_false (fun h => h.2.2.2.1 a4) (Below.refl _ _)
  have b4 : (s.toList == [120, 51, 50]) = false := by simpa using a4
  by_cases a5 : s.size ≤ 30
  case neg =>
    have b5 : decide ((s.size : Int) ≤ 30) = false := decide_eq_false (by omega)
    go_enter Tryz.func96, Tryz.ntmps96
    go_wp2
    go_ret
    exact nm_false (fun h => a5 h.1) (Below.refl _ _)
  have b5 : decide ((s.size : Int) ≤ 30) = true := decide_eq_true (by omega)
  have hcon := fun W => Any.strings_Trim_laid Tryz.lays160 (by kernel_rfl) s ⟨cutS.toArray⟩ W hs (by decide) (ascii_of_all (by decide))
  have HQ : Hid (s.size ≤ 30 ∧ ¬ s.toList = [100, 101, 102, 97, 117, 108, 116] ∧ ¬ s.toList = [120, 51, 50]) := ⟨a5, a3, a4⟩
  clear a3 a4 a5
  by_cases hall : ∀ b ∈ s.data.toList, cutS.contains b = true
  case neg =>
    have hne : ¬ trimS s.data.toList cutS = [] := fun h => hall ((trimS_nil _ _).1 h)
    have hcon' : ∀ W, ∃ r : ByteArray, r.toList.isEmpty = false ∧ Calls Tryz.prog 118 #[.string s, .string ⟨cutS.toArray⟩] W fun e w' => e = .returned (.string r) ∧ Below W.heap.size W w' := fun W => ⟨_, by rw [ByteArray.toList_eq]; simpa using hne, hcon W⟩
    obtain ⟨r, hr, hc⟩ := hcon' w
    have hr2 : ¬ r.toList = [] := by simpa using hr
    have Hc := Lib.hid hc
    have HN : Hid (¬ refNameP s) := fun h => hall ((all_okN s).2 h.2.2.2.2)
    clear hcon hcon' hc hne hall
    go_enter Tryz.func96, Tryz.ntmps96
    go_wp2_with (go_at_call 118; refine Hc.out.mono ?_; rintro e w1 ⟨rfl, hb1⟩)
    go_ret
    exact nm_false HN.out hb1
  have hc : Calls Tryz.prog 118 #[.string s, .string ⟨cutS.toArray⟩] w fun e w' => e = .returned (.string ⟨#[]⟩) ∧ Below w.heap.size w w' := by
    have := hcon w
    rw [show (⟨cutS.toArray⟩ : ByteArray).data.toList = cutS from rfl, (trimS_nil _ _).2 hall] at this
    exact this
  have Hc := Lib.hid hc
  have HA := Lib.hid ((all_okN s).1 hall)
  clear hcon hc hall
  have hi := let_all (s[0]'h00).toNat (s[0]'h00).toNat_lt
  rw [UInt8.ofNat_toNat] at hi
  have hib : ∀ W, Calls Tryz.prog 119 #[.string ⟨lettersS.toArray⟩, .int .u8 ((s[0]'h00).toNat : Int)] W fun e w' => e = .returned (.int .i64 (indexByte lettersS (s[0]'h00))) ∧ w' = W := fun W => by
    have := Any.strings_IndexByte Tryz.lays137 ⟨lettersS.toArray⟩ ((s[0]'h00).toNat : Int) W
    rw [Int.toNat_natCast, show (s[0]'h00).toNat.toUInt8 = s[0]'h00 from UInt8.ofNat_toNat] at this
    exact this
  generalize indexByte lettersS (s[0]'h00) = ix at hi hib
  have Hib := Lib.hid hib
  clear hib
  have h01 : (0 : Int) < (s.size : Int) := by omega
  by_cases a1 : 97 ≤ (s[0]'h00).toNat ∧ (s[0]'h00).toNat ≤ 122
  · rw [decide_eq_true a1] at hi
    have HV : Hid (refNameP s) := ⟨HQ.out.1, ⟨h00, a1⟩, HQ.out.2.1, HQ.out.2.2, HA.out⟩
    clear a1
    go_enter Tryz.func96, Tryz.ntmps96
    go_wp2_with (first | (go_at_call 118; refine Hc.out.mono ?_; rintro e w1 ⟨rfl, hb1⟩) | (go_at_call 119; refine (Hib.out _).mono ?_; rintro e w2 ⟨rfl, rfl⟩))
    go_ret
    exact ⟨true, rfl, ⟨fun _ => HV.out, fun _ => rfl⟩, hb1⟩
  · rw [decide_eq_false a1] at hi
    have HV : Hid (¬ refNameP s) := fun h => a1 (by obtain ⟨h', h1, h2⟩ := h.2.1; exact ⟨h1, h2⟩)
    clear a1
    go_enter Tryz.func96, Tryz.ntmps96
    go_wp2_with (first | (go_at_call 118; refine Hc.out.mono ?_; rintro e w1 ⟨rfl, hb1⟩) | (go_at_call 119; refine (Hib.out _).mono ?_; rintro e w2 ⟨rfl, rfl⟩))
    go_ret
    exact nm_false HV.out hb1
end Go.Proofs.YtmjipkdejggbfaaGreatDoor.SysP
namespace Go.Proofs.YtmjipkdejggbfaaGreatDoor.SysP
open Go Go.Proofs Go.RowKit Go.Maps Go.WideMaps Go.ChangeMaps

theorem arrK : ArrKey Tryz.prog 183 3 2 := ⟨Tryz.underlying183, by kernel_rfl, by kernel_rfl, by kernel_rfl⟩
theorem szK : ∃ m, Tryz.prog.types.size = m + 1 := ⟨Tryz.prog.types.size - 1, by
  have : 0 < Tryz.prog.types.size := by decide +kernel
  omega⟩
theorem keyedK : Keyed Tryz.prog 183 := Keyed.of_law arrK.law
def keyV (p : Int × Int) : Value := .agg #[.int .i64 p.1, .int .i64 p.2]
def In64 (p : Int × Int) : Prop := (Lit.int .i64 p.1).wf = true ∧ (Lit.int .i64 p.2).wf = true
theorem keyV_of {p : Int × Int} (h : In64 p) : ∃ l, keyOf Tryz.prog 183 (keyV p) = some l := ⟨_, keyOf_pair arrK Tryz.underlying3 szK h.1 h.2⟩
theorem keyV_inj {p q : Int × Int} (h : keyV p = keyV q) : p = q := by
  obtain ⟨a, b⟩ := p
  obtain ⟨c, d⟩ := q
  simp [keyV] at h
  simp [h.1, h.2]

/-- Block B is a map that holds these pairs. -/
def MapS (W : World) (B : Nat) (S : List (Int × Int)) : Prop :=
  ∃ es clock, W.heap[B]? = some (.map es clock) ∧ es.toList.map (fun e => (e.key, e.val)) = S.map (fun p => (keyV p, Value.bool true)) ∧ ∀ p ∈ S, In64 p
theorem MapS.lt {W : World} {B : Nat} {S : List (Int × Int)} (h : MapS W B S) : B < W.heap.size := by
  obtain ⟨es, c, h, _⟩ := h
  exact (Array.getElem?_eq_some_iff.1 h).1
theorem MapS.kept {W W' : World} {row : Option Nat} {B : Nat} {S : List (Int × Int)} (h : MapS W B S) (hg : W.grownBy W' row) (hne : some B ≠ row) : MapS W' B S := by
  have hl := h.lt
  obtain ⟨es, c, h, h2, h3⟩ := h
  exact ⟨es, c, (hg.block B hl hne).trans h, h2, h3⟩
theorem MapS.below {n : Nat} {W W' : World} {B : Nat} {S : List (Int × Int)} (h : MapS W B S) (hb : Below n W W') (hB : B < n) : MapS W' B S := by
  obtain ⟨es, c, h, h2, h3⟩ := h
  exact ⟨es, c, (hb.block B hB).trans h, h2, h3⟩
theorem MapS.alloc {W : World} {B : Nat} {S : List (Int × Int)} (h : MapS W B S) (o : Obj) : MapS (W.alloc o) B S := h.kept (World.grownBy_alloc W o none) (by simp)
theorem MapS.made (W : World) : MapS (W.alloc (.map #[] 0)) W.heap.size [] := ⟨#[], 0, World.alloc_heap_new W _, rfl, by simp⟩

theorem entries_keys {es : Array MapEntry} {S : List (Int × Int)} (h2 : es.toList.map (fun e => (e.key, e.val)) = S.map (fun p => (keyV p, Value.bool true))) : (∀ e ∈ es.toList, ∃ p ∈ S, e.key = keyV p ∧ e.val = .bool true) ∧ ∀ p ∈ S, ∃ e ∈ es.toList, e.key = keyV p := by
  constructor
  · intro e he
    have : (e.key, e.val) ∈ es.toList.map (fun e => (e.key, e.val)) := List.mem_map.2 ⟨e, he, rfl⟩
    rw [h2] at this
    obtain ⟨p, hp, e1⟩ := List.mem_map.1 this
    simp only [Prod.mk.injEq] at e1
    exact ⟨p, hp, e1.1.symm, e1.2.symm⟩
  · intro p hp
    have : (keyV p, Value.bool true) ∈ S.map (fun p => (keyV p, Value.bool true)) := List.mem_map.2 ⟨p, hp, rfl⟩
    rw [← h2] at this
    obtain ⟨e, he, e1⟩ := List.mem_map.1 this
    simp only [Prod.mk.injEq] at e1
    exact ⟨e, he, e1.1⟩

theorem mapS_look {W : World} {B : Nat} {S : List (Int × Int)} (h : MapS W B S) (p : Int × Int) (hp : In64 p) :
    (Instr.lookup 163 (.map (some B)) (keyV p) false).run Tryz.prog W = .ok (.bool (decide (p ∈ S))) W := by
  obtain ⟨es, clock, hb, h2, h3⟩ := h
  obtain ⟨k1, k2⟩ := entries_keys h2
  obtain ⟨kl, hkey⟩ := keyV_of hp
  have hz : ∀ W, (zeroValue 4).run Tryz.prog W = .ok (.bool false) W := fun _ => by kernel_rfl
  rcases keyedK.find W hkey es.toList (fun e he => by obtain ⟨q, hq, e1, _⟩ := k1 e he; rw [e1]; exact keyV_of (h3 q hq)) with ⟨h4, h5⟩ | ⟨j, e0, h4, h5, h6⟩
  · have hn : ¬ p ∈ S := fun hm => by
      obtain ⟨e, he, e1⟩ := k2 p hm
      exact h5 e he e1
    simp [Instr.lookup, run_underlying Tryz.underlying163, MapKept.run_getObj_map hb, keyedK.check W _ hkey, h4, hz, Result.andThen, hn]
  · have hm0 : e0 ∈ es.toList := List.mem_of_getElem? h5
    obtain ⟨q, hq, e1, e2⟩ := k1 e0 hm0
    have hy : p ∈ S := by rw [keyV_inj (h6.symm.trans e1)]; exact hq
    simp [Instr.lookup, run_underlying Tryz.underlying163, MapKept.run_getObj_map hb, keyedK.check W _ hkey, h4, Result.andThen, hy, e2]

def addS (S : List (Int × Int)) (p : Int × Int) : List (Int × Int) := if p ∈ S then S else S ++ [p]

theorem mapS_upd {W : World} {B : Nat} {S : List (Int × Int)} (h : MapS W B S) (p : Int × Int) (hp : In64 p) :
    ∃ W', (Instr.mapUpdate 163 (.map (some B)) (keyV p) (.bool true)).run Tryz.prog W = .ok () W' ∧ MapS W' B (addS S p) ∧ W.grownBy W' (some B) := by
  obtain ⟨es, clock, hb, h2, h3⟩ := h
  obtain ⟨k1, k2⟩ := entries_keys h2
  obtain ⟨kl, hkey⟩ := keyV_of hp
  rcases keyedK.find W hkey es.toList (fun e he => by obtain ⟨q, hq, e1, _⟩ := k1 e he; rw [e1]; exact keyV_of (h3 q hq)) with ⟨h4, h5⟩ | ⟨j, e0, h4, h5, h6⟩
  · have hn : ¬ p ∈ S := fun hm => by
      obtain ⟨e, he, e1⟩ := k2 p hm
      exact h5 e he e1
    refine ⟨setBlock W B (.map (es.push ⟨keyV p, .bool true, clock⟩) (clock + 1)), ?_, ⟨_, _, heap_setBlock_same hb _, ?_, ?_⟩, ⟨rfl, rfl, rfl, by simp [setBlock], fun i _ hi => heap_setBlock_other hb _ (fun e => hi (by rw [e]))⟩⟩
    · simp [Instr.mapUpdate, run_underlying Tryz.underlying163, MapKept.run_getObj_map hb, keyedK.check W false hkey, h4, MapKept.run_setObj_map _ hb, Result.andThen, setBlock]
    · rw [addS, if_neg hn]
      simp [h2]
    · rw [addS, if_neg hn]
      intro q hq
      rcases List.mem_append.1 hq with h | h
      · exact h3 q h
      · rw [List.mem_singleton.1 h]; exact hp
  · have hm0 : e0 ∈ es.toList := List.mem_of_getElem? h5
    obtain ⟨q, hq, e1, e2⟩ := k1 e0 hm0
    have hy : p ∈ S := by rw [keyV_inj (h6.symm.trans e1)]; exact hq
    have h5' : es[j]? = some e0 := by simpa using h5
    have hst := keyedK.stays W hkey
    refine ⟨setBlock W B (.map (es.modify j fun e => { e with key := keyV p, val := .bool true }) clock), ?_, ⟨_, _, heap_setBlock_same hb _, ?_, ?_⟩, ⟨rfl, rfl, rfl, by simp [setBlock], fun i _ hi => heap_setBlock_other hb _ (fun e => hi (by rw [e]))⟩⟩
    · simp [Instr.mapUpdate, run_underlying Tryz.underlying163, MapKept.run_getObj_map hb, keyedK.check W false hkey, h4, MapKept.run_setObj_map _ hb, Result.andThen, setBlock, h5', h6, hst]
    · rw [addS, if_pos hy, ← h2]
      have hsame : (es.modify j fun e => { e with key := keyV p, val := .bool true }) = es := by
        apply Array.ext_getElem?
        intro i
        rw [Array.getElem?_modify]
        by_cases hi : j = i
        · subst hi
          rw [if_pos rfl, h5']
          simp only [Option.map_some, Option.some.injEq]
          rw [← h6, ← e2]
        · rw [if_neg hi]
      rw [hsame]
    · rw [addS, if_pos hy]; exact h3
end Go.Proofs.YtmjipkdejggbfaaGreatDoor.SysP
namespace Go.Proofs.YtmjipkdejggbfaaGreatDoor.SysP
open Go Go.Proofs Go.RowKit

def rngBad (x : Int) : Bool := decide (x < -1) || decide (1073741823 < x)
theorem rngBad_iff (x : Int) : rngBad x = true ↔ ¬ inR x := by
  unfold rngBad inR
  simp
  omega
theorem rng1_any (x : Int) (w : World) : Calls Tryz.prog 121 #[.int .i64 x] w fun e w' => e = .returned (.bool (rngBad x)) ∧ w = w' := by
  by_cases h1 : x < -1
  · have d1 : decide (x < -1) = true := decide_eq_true h1
    go_enter Tryz.func121, Tryz.ntmps121
    go_wp2
    go_ret
    exact ⟨retB (by unfold rngBad; rw [d1]; rfl), rfl⟩
  · have d1 : decide (x < -1) = false := decide_eq_false h1
    go_enter Tryz.func121, Tryz.ntmps121
    go_wp2
    go_ret
    exact ⟨retB (by unfold rngBad; rw [d1]; rfl), rfl⟩

def Idx5Post (y : SRow) (w : World) (e : Ending) (w' : World) : Prop := ∃ i : Int, e = .returned (.int .i64 i) ∧ (0 ≤ i ↔ ∃ a, a < 5 ∧ ¬ inR (y.num a)) ∧ w = w'
set_option maxRecDepth 100000 in
theorem idx5_any (b : Nat) (y : SRow) (w : World) (hc : ∀ a, a < 5 → w.cell? ⟨b, 1 + a, none⟩ = some (.int .i64 (y.num a))) :
    Calls Tryz.prog 144 #[.slice (some ⟨b, 1, none⟩) 5 5, .func (.func 121) #[] #[]] w (Idx5Post y w) := by
  have Hc := Lib.hid hc
  clear hc
  go_enter Tryz.func144, Tryz.ntmps144
  go_wp2
  go_loopg [5, 8] 5 (fun gg _ s8 wr => w = wr ∧ ∃ kk : Nat, kk ≤ 5 ∧ 5 - kk ≤ gg ∧ s8 = .int .i64 kk ∧ Hid (∀ a, a < kk → inR (y.num a)))
  case atStart => exact ⟨rfl, 0, by omega, by omega, rfl, fun a ha => absurd ha (Nat.not_lt_zero _)⟩
  case round =>
    obtain ⟨rfl, kk, hkk, hg, rfl, A⟩ := hrel
    by_cases hlt : kk < 5
    · have hltz : (kk : Int) < (5 : Int) := by omega
      have c := Hc.out kk hlt
      have hcall := rng1_any (y.num kk)
      have hiff := rngBad_iff (y.num kk)
      generalize hx : y.num kk = x at c hcall hiff
      have HX := Lib.hid hx
      clear hx
      cases hb : rngBad x with
      | true =>
        rw [hb] at hcall hiff
        have Hcall := Lib.hid hcall
        have HB : Hid (¬ inR x) := hiff.1 rfl
        clear hcall hiff hb
        go_wp2_with fail
        refine (Hcall.out _).mono ?_
        rintro e w' ⟨rfl, rfl⟩
        go_wp2
        go_ret
        exact ⟨(kk : Int), rfl, ⟨fun _ => ⟨kk, hlt, by rw [HX.out]; exact HB.out⟩, fun _ => by omega⟩, rfl⟩
      | false =>
        have HB : Hid (inR x) := by
          by_cases h : inR x
          · exact h
          · rw [hiff.2 h] at hb; cases hb
        rw [hb] at hcall
        have Hcall := Lib.hid hcall
        clear hcall hiff hb
        go_wp2_with fail
        refine (Hcall.out _).mono ?_
        rintro e w' ⟨rfl, rfl⟩
        go_wp2
        go_roundg (5 - (kk + 1))
        case measure => omega
        case rel =>
          refine ⟨rfl, kk + 1, by omega, by omega, by go_num, (show Hid _ from fun a ha => ?_)⟩
          by_cases e : a = kk
          · subst e; rw [HX.out]; exact HB.out
          · exact A.out a (by omega)
    · have hltz : ¬ (kk : Int) < (5 : Int) := by omega
      obtain rfl : kk = 5 := by omega
      go_wp2
      go_ret
      exact ⟨-1, rfl, ⟨fun h => by omega, fun ⟨a, ha, hn⟩ => absurd (A.out a ha) hn⟩, rfl⟩

def Cont5Post (y : SRow) (w : World) (e : Ending) (w' : World) : Prop := ∃ v : Bool, e = .returned (.bool v) ∧ (v = true ↔ ∃ a, a < 5 ∧ ¬ inR (y.num a)) ∧ w = w'
theorem cont5_any (b : Nat) (y : SRow) (w : World) (hc : ∀ a, a < 5 → w.cell? ⟨b, 1 + a, none⟩ = some (.int .i64 (y.num a))) :
    Calls Tryz.prog 120 #[.slice (some ⟨b, 1, none⟩) 5 5, .func (.func 121) #[] #[]] w (Cont5Post y w) := by
  have Hi := Lib.hid (idx5_any b y w hc)
  clear hc
  go_enter Tryz.func120, Tryz.ntmps120
  go_wp2_with fail
  refine Hi.out.mono ?_
  rintro e w' ⟨i, rfl, hi, rfl⟩
  have HI := Lib.hid hi
  clear hi Hi
  go_wp2
  go_ret
  exact ⟨_, rfl, ⟨fun h => HI.out.1 (by simpa using h), fun h => by simpa using HI.out.2 h⟩, rfl⟩

def RangedPost (y : SRow) (w : World) (e : Ending) (w' : World) : Prop := ∃ v : Bool, e = .returned (.bool v) ∧ (v = true ↔ rngOk y) ∧ Below w.heap.size w w'
set_option maxRecDepth 100000 in
set_option maxHeartbeats 1000000 in
theorem ranged_any (y : SRow) (w : World) :
    Calls Tryz.prog 97 #[.agg #[.string y.name, .int .i64 y.n0, .int .i64 y.n1, .int .i64 y.n2, .int .i64 y.n3, .int .i64 y.n4, .int .i64 y.mux, .int .i64 y.sub]] w (RangedPost y w) := by
  have bY := Blk.new w 149 #[.string y.name, .int .i64 y.n0, .int .i64 y.n1, .int .i64 y.n2, .int .i64 y.n3, .int .i64 y.n4, .int .i64 y.mux, .int .i64 y.sub]
  have hcont := cont5_any w.heap.size y _ (fun a ha => by
    have := bY.cell (1 + a)
    rw [this]
    match a, ha with
    | 0, _ => rfl
    | 1, _ => rfl
    | 2, _ => rfl
    | 3, _ => rfl
    | 4, _ => rfl)
  have Hc := Lib.hid hcont
  clear hcont bY
  go_enter Tryz.func97, Tryz.ntmps97
  go_wp2_with fail
  refine Hc.out.mono ?_
  rintro e w' ⟨v, rfl, hv, rfl⟩
  have HV := Lib.hid hv
  have HB := Lib.hid ((Below.refl _ w).alloc (Nat.le_refl _) (.cells #[.string y.name, .int .i64 y.n0, .int .i64 y.n1, .int .i64 y.n2, .int .i64 y.n3, .int .i64 y.n4, .int .i64 y.mux, .int .i64 y.sub] 149))
  clear hv Hc
  cases v with
  | true =>
    go_wp2
    go_ret
    exact ⟨false, rfl, ⟨fun h => (by cases h), fun h => by obtain ⟨a, ha, hn⟩ := HV.out.1 (by simp); exact absurd (h.1 a ha) hn⟩, HB.out⟩
  | false =>
    have HA : Hid (∀ a, a < 5 → inR (y.num a)) := by
      intro a ha
      by_cases h : inR (y.num a)
      · exact h
      · exact absurd (HV.out.2 ⟨a, ha, h⟩) (by simp)
    clear HV
    have fin : ∀ v : Bool, (v = true ↔ muxOk y) → RangedPost y w (.returned (.bool v)) (w.alloc (.cells #[.string y.name, .int .i64 y.n0, .int .i64 y.n1, .int .i64 y.n2, .int .i64 y.n3, .int .i64 y.n4, .int .i64 y.mux, .int .i64 y.sub] 149)) :=
      fun v h => ⟨v, rfl, ⟨fun h2 => ⟨HA.out, h.1 h2⟩, fun h2 => h.2 h2.2⟩, HB.out⟩
    have Fin := Lib.hid fin
    clear fin HA HB
    by_cases m0 : y.mux = 0
    · have e0 : (y.mux == 0) = true := by simpa using m0
      have Hm := Lib.hid m0
      clear m0
      go_wp2
      go_ret
      exact Fin.out _ (by have := Hm.out; unfold muxOk; simp; omega)
    · have e0 : (y.mux == 0) = false := by simpa using m0
      by_cases m1 : y.mux = 1
      · have e1 : (y.mux == 1) = true := by simpa using m1
        have Hm := Lib.hid m1
        clear m1
        by_cases s1 : 1 ≤ y.sub
        · have f1 : decide (1 ≤ y.sub) = true := decide_eq_true s1
          go_wp2
          go_ret
          exact Fin.out _ (by have := Hm.out; unfold muxOk; simp; omega)
        · have f1 : decide (1 ≤ y.sub) = false := decide_eq_false s1
          go_wp2
          go_ret
          exact Fin.out _ (by have := Hm.out; unfold muxOk; simp; omega)
      · have e1 : (y.mux == 1) = false := by simpa using m1
        by_cases m2 : y.mux = 2
        · have e2 : (y.mux == 2) = true := by simpa using m2
          have Hm := Lib.hid m2
          clear m2 m1
          by_cases s1 : 1 ≤ y.sub
          · have f1 : decide (1 ≤ y.sub) = true := decide_eq_true s1
            go_wp2
            go_ret
            exact Fin.out _ (by have := Hm.out; unfold muxOk; simp; omega)
          · have f1 : decide (1 ≤ y.sub) = false := decide_eq_false s1
            go_wp2
            go_ret
            exact Fin.out _ (by have := Hm.out; unfold muxOk; simp; omega)
        · have e2 : (y.mux == 2) = false := by simpa using m2
          have Hm : Hid (¬ y.mux = 0 ∧ ¬ y.mux = 1 ∧ ¬ y.mux = 2) := ⟨m0, m1, m2⟩
          clear m0 m1 m2
          go_wp2
          go_ret
          exact Fin.out _ (by have := Hm.out; unfold muxOk; simp; omega)

def MetPost (B : Nat) (S : List (Int × Int)) (p : Int × Int) (w : World) (e : Ending) (w' : World) : Prop :=
  e = .returned (.bool (decide (p ∈ S))) ∧ MapS w' B (addS S p) ∧ w.heap.size ≤ w'.heap.size ∧ w.os = w'.os ∧ w.tape = w'.tape ∧ w.output = w'.output ∧ ∀ b, b < w.heap.size → b ≠ B → w'.heap[b]? = w.heap[b]?
set_option maxRecDepth 100000 in
theorem met_any (B : Nat) (S : List (Int × Int)) (p : Int × Int) (w : World) (h : MapS w B S) (hp : In64 p) :
    Calls Tryz.prog 98 #[.map (some B), .int .i64 p.1, .int .i64 p.2] w (MetPost B S p w) := by
  have h1 := h.alloc (.cells #[.int .i64 p.1, .int .i64 p.2] 183)
  have hl := mapS_look h1 p hp
  obtain ⟨W', hu, h2, hg⟩ := mapS_upd h1 p hp
  unfold keyV at hl hu
  have H2 := Lib.hid h2
  have HG := Lib.hid hg
  clear h h1 h2 hg
  go_enter Tryz.func98, Tryz.ntmps98
  go_wp2
  go_ret
  refine ⟨rfl, H2.out, ?_, ?_, ?_, ?_, ?_⟩
  · have := HG.out.size; simp at this; omega
  · exact HG.out.os.symm
  · exact HG.out.tape.symm
  · exact HG.out.output.symm
  · intro b hb hne
    exact (HG.out.block b (by simp; omega) (by simpa using hne)).trans ((World.grownBy_alloc w _ none).block b hb (by simp))
end Go.Proofs.YtmjipkdejggbfaaGreatDoor.SysP
