/- systab: rows in memory; slices.IndexFunc over them, for every predicate. -/
import Derived.Test.YtakmbmlpgmppiaaDoorProg
import Derived.Test.YtakmbmlpgmppiaaDoorIn
import Derived.Test.YtakmbmlpgmppiaaDoorBlk
import Derived.WalkLawsBesides
import Derived.WalkSpells
import Derived.Lib.Hide
import Derived.BigQuiet
import Derived.Deep.QuietTactic
import Derived.Deep.RegionHeld3
import Derived.Deep.LoopGhost
import Derived.Shelf.SlicesQ.IndexFunc
namespace Go.Proofs.YtakmbmlpgmppiaaDoor
open Go Go.Proofs Go.RowKit

structure SRow where
  name : ByteArray
  n0 : Int
  n1 : Int
  n2 : Int
  n3 : Int
  n4 : Int
  mux : Int
  sub : Int

def SRow.zero : SRow := ⟨⟨#[]⟩, 0, 0, 0, 0, 0, 0, 0⟩
instance : Inhabited SRow := ⟨SRow.zero⟩
/-- A row's cells. -/
def SRow.cells (r : SRow) : List Value := [.string r.name, .int .i64 r.n0, .int .i64 r.n1, .int .i64 r.n2, .int .i64 r.n3, .int .i64 r.n4, .int .i64 r.mux, .int .i64 r.sub]

/-- Rows lie in block b from off on. -/
def RowsAt (W : World) (b off : Nat) (l : List SRow) : Prop := ∀ j, j < l.length → ∀ i v, (l[j]!).cells[i]? = some v → W.cell? ⟨b, off + j * 8 + i, none⟩ = some v
/-- A slice of rows. -/
def RowsV (W : World) (sv : Value) (l : List SRow) : Prop :=
  ∃ a c, sv = .slice a l.length c ∧ (l = [] ∨ ∃ b off, a = some ⟨b, off, none⟩ ∧ b < W.heap.size ∧ RowsAt W b off l)
theorem RowsAt.below {W W' : World} {b off : Nat} {l : List SRow} (h : RowsAt W b off l) (hb : Below W.heap.size W W') (hlt : b < W.heap.size) : RowsAt W' b off l :=
  fun j hj i v hv => (hb.cell (p := ⟨b, off + j * 8 + i, none⟩) hlt).trans (h j hj i v hv)
theorem RowsV.below {W W' : World} {sv : Value} {l : List SRow} (h : RowsV W sv l) (hb : Below W.heap.size W W') : RowsV W' sv l := by
  obtain ⟨a, c, rfl, h⟩ := h
  refine ⟨a, c, rfl, ?_⟩
  rcases h with h | ⟨b, off, rfl, hlt, hr⟩
  · exact .inl h
  · exact .inr ⟨b, off, rfl, Nat.lt_of_lt_of_le hlt hb.size, hr.below hb hlt⟩

/-- The first place at which p holds; -1: none. -/
def firstIdx (p : SRow → Bool) : List SRow → Int
  | [] => -1
  | x :: r => if p x = true then 0 else if firstIdx p r < 0 then -1 else firstIdx p r + 1

theorem firstIdx_hit (p : SRow → Bool) : ∀ (l : List SRow) (k : Nat), k < l.length → (∀ j, j < k → p l[j]! = false) → p l[k]! = true → firstIdx p l = k
  | [], k, h, _, _ => by simp at h
  | x :: r, 0, _, _, h => by simp at h; simp [firstIdx, h]
  | x :: r, k + 1, hk, hm, h => by
    have h0 : p x = false := by simpa using hm 0 (by omega)
    have ih := firstIdx_hit p r k (by simpa using hk) (fun j hj => by simpa using hm (j + 1) (by omega)) (by simpa using h)
    simp [firstIdx, h0, ih]
    omega
theorem firstIdx_miss (p : SRow → Bool) : ∀ (l : List SRow), (∀ j, j < l.length → p l[j]! = false) → firstIdx p l = -1
  | [], _ => rfl
  | x :: r, hm => by
    have h0 : p x = false := by simpa using hm 0 (by simp)
    have ih := firstIdx_miss p r (fun j hj => by simpa using hm (j + 1) (by simpa using hj))
    simp [firstIdx, h0, ih]

set_option maxRecDepth 100000 in
set_option maxHeartbeats 1000000 in
theorem indexFunc_at (p : SRow → Bool) (g : Nat) (lb : Array Value) (eg : ∀ args w, (callFunc g args).run Tryd.prog w = .ok (.enter g args) w) (b off c : Nat) (zs : List SRow) (w : World)
    (hp : ∀ (W : World) (x : SRow), Below w.heap.size w W → Calls Tryd.prog g (#[.agg #[.string x.name, .int .i64 x.n0, .int .i64 x.n1, .int .i64 x.n2, .int .i64 x.n3, .int .i64 x.n4, .int .i64 x.mux, .int .i64 x.sub]] ++ lb) W fun e w' => e = .returned (.bool (p x)) ∧ Below W.heap.size W w')
    (hbig : zs.length ≤ 9223372036854775807) (hb : b < w.heap.size) (hc : RowsAt w b off zs) :
    Calls Tryd.prog 30 #[.slice (some ⟨b, off, none⟩) zs.length c, .func (.func g) #[] lb] w fun e w' => e = .returned (.int .i64 (firstIdx p zs)) ∧ Below w.heap.size w w' := by
  have Hc := Lib.hid hc
  have Hp := Lib.hid hp
  clear hc hp
  obtain ⟨n, hn⟩ : ∃ n, zs.length = n := ⟨_, rfl⟩
  rw [hn] at hbig ⊢
  have Hn := Lib.hid hn
  clear hn
  go_enter Tryd.func30, Tryd.ntmps30
  go_wp2
  go_loopg [5, 8] n (fun gg _ s8 wr => ∃ kk : Nat, kk ≤ n ∧ n - kk ≤ gg ∧ s8 = .int .i64 kk ∧ Hid (Below w.heap.size w wr) ∧ Hid (∀ j, j < kk → p zs[j]! = false))
  case atStart => exact ⟨0, Nat.zero_le _, by omega, rfl, Below.refl _ w, fun j hj => absurd hj (Nat.not_lt_zero _)⟩
  case round =>
    obtain ⟨kk, hkk, hg, rfl, BW, A⟩ := hrel
    by_cases hlt : kk < n
    · have hltz : (kk : Int) < (n : Int) := by omega
      have hcall := Hp.out wr zs[kk]! BW.out
      have hR := (Hc.out.below BW.out hb) kk (by rw [Hn.out]; exact hlt)
      have c0 := hR 0 _ rfl
      have c1 := hR 1 _ rfl
      have c2 := hR 2 _ rfl
      have c3 := hR 3 _ rfl
      have c4 := hR 4 _ rfl
      have c5 := hR 5 _ rfl
      have c6 := hR 6 _ rfl
      have c7 := hR 7 _ rfl
      simp only [Nat.add_zero] at c0
      clear hR
      generalize hy : zs[kk]! = y at hcall c0 c1 c2 c3 c4 c5 c6 c7
      have Hy := Lib.hid hy
      clear hy
      cases hq : p y with
      | true =>
        rw [hq] at hcall
        have Hcall := Lib.hid hcall
        have Hq := Lib.hid hq
        clear hcall hq
        go_wp2_with fail
        refine Hcall.out.mono ?_
        rintro e w' ⟨rfl, hb'⟩
        go_wp2
        go_ret
        refine ⟨retI ?_, BW.out.trans (hb'.mono BW.out.size)⟩
        rw [firstIdx_hit p zs kk (by rw [Hn.out]; exact hlt) A.out (by rw [Hy.out]; exact Hq.out)]
      | false =>
        rw [hq] at hcall
        have Hcall := Lib.hid hcall
        have Hq := Lib.hid hq
        clear hcall hq
        go_wp2_with fail
        refine Hcall.out.mono ?_
        rintro e w' ⟨rfl, hb'⟩
        go_wp2
        go_roundg (n - (kk + 1))
        case measure => omega
        case rel =>
          refine ⟨kk + 1, by omega, by omega, by go_num, BW.out.trans (hb'.mono BW.out.size), (show Hid _ from fun j hj => ?_)⟩
          by_cases e : j = kk
          · subst e
            rw [Hy.out]; exact Hq.out
          · exact A.out j (by omega)
    · have hltz : ¬ (kk : Int) < (n : Int) := by omega
      obtain rfl : kk = n := by omega
      go_wp2
      go_ret
      refine ⟨retI ?_, BW.out⟩
      rw [firstIdx_miss p zs (fun j hj => A.out j (by rw [Hn.out] at hj; exact hj))]

/-- slices.IndexFunc over rows, for every predicate that pays its contract. -/
theorem indexFunc_any (p : SRow → Bool) (g : Nat) (lb : Array Value) (eg : ∀ args w, (callFunc g args).run Tryd.prog w = .ok (.enter g args) w) (sv : Value) (zs : List SRow) (w : World)
    (hp : ∀ (W : World) (x : SRow), Below w.heap.size w W → Calls Tryd.prog g (#[.agg #[.string x.name, .int .i64 x.n0, .int .i64 x.n1, .int .i64 x.n2, .int .i64 x.n3, .int .i64 x.n4, .int .i64 x.mux, .int .i64 x.sub]] ++ lb) W fun e w' => e = .returned (.bool (p x)) ∧ Below W.heap.size W w')
    (hbig : zs.length ≤ 9223372036854775807) (hR : RowsV w sv zs) :
    Calls Tryd.prog 30 #[sv, .func (.func g) #[] lb] w fun e w' => e = .returned (.int .i64 (firstIdx p zs)) ∧ Below w.heap.size w w' := by
  obtain ⟨a, c, rfl, h⟩ := hR
  rcases h with rfl | ⟨b, off, rfl, hlt, hr⟩
  · go_enter Tryd.func30, Tryd.ntmps30
    go_wp2
    go_loop [8] (fun s8 => s8 = .int .i64 0) (fun _ => 0)
    case atStart => rfl
    case round =>
      obtain rfl := hrel
      go_wp2
      go_ret
      exact ⟨rfl, Below.refl _ _⟩
  · exact indexFunc_at p g lb eg b off c zs w hp hbig hlt hr
end Go.Proofs.YtakmbmlpgmppiaaDoor
