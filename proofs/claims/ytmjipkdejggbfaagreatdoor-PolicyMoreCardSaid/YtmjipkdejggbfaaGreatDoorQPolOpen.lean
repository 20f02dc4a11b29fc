/- A policy that came in, opened: its conditions. -/
import Derived.Deep.Slices
import Derived.Deep.Strs
import Derived.Lib.SmallJoins
import Derived.Test.YtmjipkdejggbfaaGreatDoorQPolLight
import Derived.Test.YtmjipkdejggbfaaGreatDoorQOpen
namespace Go.Proofs.YtmjipkdejggbfaaGreatDoor
open Go Go.Proofs Go.ChangeShapes Go.WideShapes Go.ChangeAt Go.RowKit Go.Deep
section
variable {H : Type} {enc : TypeId × Value → H} {w : World} {base : Nat} {spare : Nat → Bool} {held : Bool}

theorem list_of_rangeP {α : Type} (R : Nat → α) (n : Nat) : ∃ l : List α, l.length = n ∧ ∀ j, j < n → l[j]? = some (R j) :=
  ⟨(List.range n).map R, by simp, fun j hj => by simp [hj]⟩
theorem flat_addr {a : Addr} {v : Value} (h : w.cell? a = some v) : ∃ b off, a = ⟨b, off, none⟩ ∧ b < w.heap.size := by
  obtain ⟨b, off, spot⟩ := a
  have hs : spot = none := by
    cases spot with
    | none => rfl
    | some q =>
      simp only [World.cell?] at h
      split at h <;> simp at h
  subst hs
  refine ⟨b, off, rfl, ?_⟩
  simp only [World.cell?] at h
  split at h
  · rename_i hb
    exact (Array.getElem?_eq_some_iff.1 hb).1
  · cases h
def CondB (c : PCond) : Prop := (0 ≤ c.m ∧ c.m < 18446744073709551616) ∧ (0 ≤ c.v ∧ c.v < 18446744073709551616)
set_option maxRecDepth 100000 in
theorem cond_of_trod {fuel : Nat} {cs : List Value} {x : DataW H × List MemPlace} (h : DataW.trod enc Tryz.prog w base spare held fuel 75 cs = some x) : ∃ c : PCond, cs = condC c ∧ CondB c := by
  obtain ⟨xs, n, _, _, hlen, hxl, hg⟩ := DataW.trod_struct Tryz.underlying75 h
  have hc4 : Tryz.prog.cellsOf 75 = 4 := by kernel_rfl
  have hi : Tryz.prog.cellsOf 3 = 1 := by kernel_rfl
  have hu : Tryz.prog.cellsOf 72 = 1 := by kernel_rfl
  rw [hc4] at hlen
  match cs, hlen with
  | [c0, c1, c2, c3], _ =>
  match xs, hxl with
  | [x0, x1, x2, x3], _ =>
  have g0 : DataW.trod enc Tryz.prog w base spare held n 3 [c0] = some x0 := by
    have hh : DataW.trod enc Tryz.prog w base spare held n 3 (([c0, c1, c2, c3].drop 0).take (Tryz.prog.cellsOf 3)) = some x0 := hg 0 _ rfl
    rw [hi] at hh
    exact hh
  have g1 : DataW.trod enc Tryz.prog w base spare held n 3 [c1] = some x1 := by
    have hh : DataW.trod enc Tryz.prog w base spare held n 3 (([c0, c1, c2, c3].drop 1).take (Tryz.prog.cellsOf 3)) = some x1 := hg 1 _ rfl
    rw [hi] at hh
    exact hh
  have g2 : DataW.trod enc Tryz.prog w base spare held n 72 [c2] = some x2 := by
    have hh : DataW.trod enc Tryz.prog w base spare held n 72 (([c0, c1, c2, c3].drop 2).take (Tryz.prog.cellsOf 72)) = some x2 := hg 2 _ rfl
    rw [hu] at hh
    exact hh
  have g3 : DataW.trod enc Tryz.prog w base spare held n 72 [c3] = some x3 := by
    have hh : DataW.trod enc Tryz.prog w base spare held n 72 (([c0, c1, c2, c3].drop 3).take (Tryz.prog.cellsOf 72)) = some x3 := hg 3 _ rfl
    rw [hu] at hh
    exact hh
  obtain ⟨a, ea, _, _⟩ := DataW.trod_int Tryz.underlying3 g0
  obtain ⟨o, eo, _, _⟩ := DataW.trod_int Tryz.underlying3 g1
  obtain ⟨m, em, _, gm⟩ := DataW.trod_int Tryz.underlying72 g2
  obtain ⟨v, ev, _, gv⟩ := DataW.trod_int Tryz.underlying72 g3
  simp only [List.cons.injEq, and_true] at ea eo em ev
  subst ea eo em ev
  have bm := bounds_u64 gm
  have bv := bounds_u64 gv
  exact ⟨⟨a, o, m, v⟩, rfl, ⟨bm.1, Int.lt_of_le_of_lt bm.2 (by decide)⟩, ⟨bv.1, Int.lt_of_le_of_lt bv.2 (by decide)⟩⟩
theorem conds_of_trod {fuel : Nat} {cl : List Value} {x : DataW H × List MemPlace} (hf : DataW.trod enc Tryz.prog w base spare held fuel 46 cl = some x) : ∃ (cs : List PCond) (ua : Option Addr) (uc : Nat), cl = [.slice ua cs.length uc] ∧ CondsI w.heap.size w ua cs ∧ ∀ c ∈ cs, CondB c := by
  rcases open_slice Tryz.underlying46 hf with ⟨h1, _⟩ | ⟨a, len, cap, m, n, D, Pl, h1, _, hle, _, hm, _, hx⟩
  · exact ⟨[], none, 0, h1, fun k c hk => by simp at hk, fun c hc => by cases hc⟩
  · have hlm : len ≤ m := by rw [hm]; split <;> omega
    have hc4 : Tryz.prog.cellsOf 75 = 4 := by kernel_rfl
    haveI : Inhabited PCond := ⟨⟨0, 0, 0, 0⟩⟩
    obtain ⟨R, hR⟩ := choose_lt (α := PCond) (p := fun i c => CondB c ∧ ∀ j u, (condC c)[j]? = some u → w.cell? (a.add (i * 4 + j)) = some u) (n := len) (fun i hi => by
      obtain ⟨cs', h2, h3⟩ := hx i (by omega)
      rw [hc4] at h2
      obtain ⟨_, hl, hc⟩ := World.cells?_some h2
      obtain ⟨r, rfl, hb⟩ := cond_of_trod h3
      refine ⟨r, hb, fun j u hu => ?_⟩
      have hj : j < 4 := (List.getElem?_eq_some_iff.1 hu).1
      have := hc j hj
      rw [add_add] at this
      exact this.trans hu)
    obtain ⟨l, hl, hlR⟩ := list_of_rangeP R len
    refine ⟨l, some a, cap, by rw [hl]; exact h1, fun k c hk => ?_, fun x hx => ?_⟩
    · have hkl : k < len := by rw [← hl]; exact (List.getElem?_eq_some_iff.1 hk).1
      have h1 := hlR k hkl
      rw [hk] at h1
      obtain rfl := Option.some.inj h1
      have h0 := (hR k hkl).2
      have hz0 : w.cell? a = some (.int .i64 (R 0).a) := by simpa [Addr.add] using (hR 0 (by omega)).2 0 _ rfl
      obtain ⟨b, off, rfl, hb⟩ := flat_addr hz0
      have e : ∀ j u, (condC (R k))[j]? = some u → w.cell? ⟨b, off + k * 4 + j, none⟩ = some u := fun j u hu => by
        have := h0 j u hu
        rw [Addr.add_lit, ← Nat.add_assoc] at this
        exact this
      exact ⟨b, off, rfl, hb, e 0 _ rfl, e 1 _ rfl, e 2 _ rfl, e 3 _ rfl⟩
    · obtain ⟨j, hj, rfl⟩ := List.mem_iff_getElem.1 hx
      have h1 := hlR j (by omega)
      rw [List.getElem?_eq_getElem hj] at h1
      rw [Option.some.inj h1]
      exact (hR j (by omega)).1
structure OpenRule where
  r : PRule
  ua : Option Addr
  uc : Nat
instance : Inhabited OpenRule := ⟨⟨⟨⟨#[]⟩, 0, 0, []⟩, none, 0⟩⟩
def OpenRule.cells (o : OpenRule) : List Value := [.string o.r.name, .int .i64 o.r.k, .int .i64 o.r.n, .slice o.ua o.r.conds.length o.uc]
set_option maxRecDepth 100000 in
theorem rule_of_trod {fuel : Nat} {cs : List Value} {x : DataW H × List MemPlace} (h : DataW.trod enc Tryz.prog w base spare held fuel 48 cs = some x) : ∃ o : OpenRule, cs = o.cells ∧ CondsI w.heap.size w o.ua o.r.conds ∧ ∀ c ∈ o.r.conds, CondB c := by
  obtain ⟨xs, n, _, _, hlen, hxl, hg⟩ := DataW.trod_struct Tryz.underlying48 h
  have hc4 : Tryz.prog.cellsOf 48 = 4 := by kernel_rfl
  have hst : Tryz.prog.cellsOf 9 = 1 := by kernel_rfl
  have hac : Tryz.prog.cellsOf 30 = 2 := by kernel_rfl
  have hcd : Tryz.prog.cellsOf 46 = 1 := by kernel_rfl
  have hi : Tryz.prog.cellsOf 3 = 1 := by kernel_rfl
  rw [hc4] at hlen
  match cs, hlen with
  | [c0, c1, c2, c3], _ =>
  match xs, hxl with
  | [x0, x1, x2], _ =>
  have g0 : DataW.trod enc Tryz.prog w base spare held n 9 [c0] = some x0 := by
    have hh : DataW.trod enc Tryz.prog w base spare held n 9 (([c0, c1, c2, c3].drop 0).take (Tryz.prog.cellsOf 9)) = some x0 := hg 0 _ rfl
    rw [hst] at hh
    exact hh
  have g1 : DataW.trod enc Tryz.prog w base spare held n 30 [c1, c2] = some x1 := by
    have hh : DataW.trod enc Tryz.prog w base spare held n 30 (([c0, c1, c2, c3].drop 1).take (Tryz.prog.cellsOf 30)) = some x1 := hg 1 _ rfl
    rw [hac] at hh
    exact hh
  have g2 : DataW.trod enc Tryz.prog w base spare held n 46 [c3] = some x2 := by
    have hh : DataW.trod enc Tryz.prog w base spare held n 46 (([c0, c1, c2, c3].drop 3).take (Tryz.prog.cellsOf 46)) = some x2 := hg 2 _ rfl
    rw [hcd] at hh
    exact hh
  obtain ⟨s, es, _, _⟩ := DataW.trod_string Tryz.underlying9 g0
  obtain ⟨ys, n2, _, _, hlen2, hyl, hg2⟩ := DataW.trod_struct Tryz.underlying30 g1
  match ys, hyl with
  | [y0, y1], _ =>
  have g3 : DataW.trod enc Tryz.prog w base spare held n2 3 [c1] = some y0 := by
    have hh : DataW.trod enc Tryz.prog w base spare held n2 3 (([c1, c2].drop 0).take (Tryz.prog.cellsOf 3)) = some y0 := hg2 0 _ rfl
    rw [hi] at hh
    exact hh
  have g4 : DataW.trod enc Tryz.prog w base spare held n2 3 [c2] = some y1 := by
    have hh : DataW.trod enc Tryz.prog w base spare held n2 3 (([c1, c2].drop 1).take (Tryz.prog.cellsOf 3)) = some y1 := hg2 1 _ rfl
    rw [hi] at hh
    exact hh
  obtain ⟨k, ek, _, _⟩ := DataW.trod_int Tryz.underlying3 g3
  obtain ⟨m, em, _, _⟩ := DataW.trod_int Tryz.underlying3 g4
  obtain ⟨cds, ua, uc, ec, hci, hcb⟩ := conds_of_trod g2
  simp only [List.cons.injEq, and_true] at es ek em ec
  subst es ek em ec
  exact ⟨⟨⟨s, k, m, cds⟩, ua, uc⟩, rfl, hci, hcb⟩
theorem rules_of_trod {fuel : Nat} {cl : List Value} {x : DataW H × List MemPlace} (hf : DataW.trod enc Tryz.prog w base spare held fuel 31 cl = some x) : ∃ (rs : List PRule) (v : Value), cl = [v] ∧ RulesI w.heap.size w v rs ∧ ∀ r ∈ rs, ∀ c ∈ r.conds, CondB c := by
  rcases open_slice Tryz.underlying31 hf with ⟨h1, _⟩ | ⟨a, len, cap, m, n, D, Pl, h1, _, hle, _, hm, _, hx⟩
  · exact ⟨[], _, h1, ⟨none, 0, rfl, fun i r hr => by simp at hr⟩, fun r hr => by cases hr⟩
  · have hlm : len ≤ m := by rw [hm]; split <;> omega
    have hc4 : Tryz.prog.cellsOf 48 = 4 := by kernel_rfl
    obtain ⟨R, hR⟩ := choose_lt (α := OpenRule) (p := fun i o => (CondsI w.heap.size w o.ua o.r.conds ∧ ∀ c ∈ o.r.conds, CondB c) ∧ ∀ j u, o.cells[j]? = some u → w.cell? (a.add (i * 4 + j)) = some u) (n := len) (fun i hi => by
      obtain ⟨cs', h2, h3⟩ := hx i (by omega)
      rw [hc4] at h2
      obtain ⟨_, hl, hc⟩ := World.cells?_some h2
      obtain ⟨o, rfl, hb, hb2⟩ := rule_of_trod h3
      refine ⟨o, ⟨hb, hb2⟩, fun j u hu => ?_⟩
      have hj : j < 4 := (List.getElem?_eq_some_iff.1 hu).1
      have := hc j hj
      rw [add_add] at this
      exact this.trans hu)
    obtain ⟨l, hl, hlR⟩ := list_of_rangeP (fun i => (R i).r) len
    refine ⟨l, _, h1, ⟨some a, cap, by rw [hl], fun k r hk => ?_⟩, fun r hr => ?_⟩
    · have hkl : k < len := by rw [← hl]; exact (List.getElem?_eq_some_iff.1 hk).1
      have h1 := hlR k hkl
      rw [hk] at h1
      obtain rfl := Option.some.inj h1
      have h0 := (hR k hkl).2
      have hz0 : w.cell? a = some (.string (R 0).r.name) := by simpa [Addr.add] using (hR 0 (by omega)).2 0 _ rfl
      obtain ⟨b, off, rfl, hb⟩ := flat_addr hz0
      have e : ∀ j u, (R k).cells[j]? = some u → w.cell? ⟨b, off + k * 4 + j, none⟩ = some u := fun j u hu => by
        have := h0 j u hu
        rw [Addr.add_lit, ← Nat.add_assoc] at this
        exact this
      exact ⟨b, off, (R k).ua, (R k).uc, rfl, hb, e 0 _ rfl, e 1 _ rfl, e 2 _ rfl, e 3 _ rfl, (hR k hkl).1.1⟩
    · obtain ⟨j, hj, rfl⟩ := List.mem_iff_getElem.1 hr
      have h1 := hlR j (by omega)
      rw [List.getElem?_eq_getElem hj] at h1
      rw [Option.some.inj h1]
      exact (hR j (by omega)).1.2
end
end Go.Proofs.YtmjipkdejggbfaaGreatDoor
