/- A map from pairs of ints to bools, used as a set: what a look-up and a store do. -/
import Derived.Test.YtakmbmlpgmppiaaDoorBlk
import Derived.Test.YtakmbmlpgmppiaaDoorProg
import Derived.WideKeyPair
import Derived.Maps.Keyed
import Derived.Maps.Own
namespace Go.Proofs.YtakmbmlpgmppiaaDoor
open Go Go.Proofs Go.RowKit Go.Maps Go.WideMaps Go.ChangeMaps

theorem arrK : ArrKey Tryd.prog 66 3 2 := ⟨Tryd.underlying66, by kernel_rfl, by kernel_rfl, by kernel_rfl⟩
theorem szK : ∃ m, Tryd.prog.types.size = m + 1 := ⟨Tryd.prog.types.size - 1, by
  have : 0 < Tryd.prog.types.size := by decide +kernel
  omega⟩
theorem keyedK : Keyed Tryd.prog 66 := Keyed.of_law arrK.law
def keyV (p : Int × Int) : Value := .agg #[.int .i64 p.1, .int .i64 p.2]
def In64 (p : Int × Int) : Prop := (Lit.int .i64 p.1).wf = true ∧ (Lit.int .i64 p.2).wf = true
theorem keyV_of {p : Int × Int} (h : In64 p) : ∃ l, keyOf Tryd.prog 66 (keyV p) = some l := ⟨_, keyOf_pair arrK Tryd.underlying3 szK h.1 h.2⟩
theorem keyV_inj {p q : Int × Int} (h : keyV p = keyV q) : p = q := by
  obtain ⟨a, b⟩ := p
  obtain ⟨c, d⟩ := q
  simp [keyV] at h
  simp [h.1, h.2]

/-- Block B is a map that holds these pairs. -/
def MapS (W : World) (B : Nat) (S : List (Int × Int)) : Prop :=
  ∃ es clock, W.heap[B]? = some (.map es clock) ∧ es.toList.map (fun e => (e.key, e.val)) = S.map (fun p => (keyV p, Value.bool true)) ∧ ∀ p ∈ S, In64 p
theorem MapS.lt {W : World} {B : Nat} {S : List (Int × Int)} (h : MapS W B S) : B < W.heap.size := by
  obtain ⟨es, c, h, _⟩ := h
  exact (Array.getElem?_eq_some_iff.1 h).1
theorem MapS.kept {W W' : World} {row : Option Nat} {B : Nat} {S : List (Int × Int)} (h : MapS W B S) (hg : W.grownBy W' row) (hne : some B ≠ row) : MapS W' B S := by
  have hl := h.lt
  obtain ⟨es, c, h, h2, h3⟩ := h
  exact ⟨es, c, (hg.block B hl hne).trans h, h2, h3⟩
theorem MapS.below {n : Nat} {W W' : World} {B : Nat} {S : List (Int × Int)} (h : MapS W B S) (hb : Below n W W') (hB : B < n) : MapS W' B S := by
  obtain ⟨es, c, h, h2, h3⟩ := h
  exact ⟨es, c, (hb.block B hB).trans h, h2, h3⟩
theorem MapS.alloc {W : World} {B : Nat} {S : List (Int × Int)} (h : MapS W B S) (o : Obj) : MapS (W.alloc o) B S := h.kept (World.grownBy_alloc W o none) (by simp)
theorem MapS.made (W : World) : MapS (W.alloc (.map #[] 0)) W.heap.size [] := ⟨#[], 0, World.alloc_heap_new W _, rfl, by simp⟩

theorem entries_keys {es : Array MapEntry} {S : List (Int × Int)} (h2 : es.toList.map (fun e => (e.key, e.val)) = S.map (fun p => (keyV p, Value.bool true))) : (∀ e ∈ es.toList, ∃ p ∈ S, e.key = keyV p ∧ e.val = .bool true) ∧ ∀ p ∈ S, ∃ e ∈ es.toList, e.key = keyV p := by
  constructor
  · intro e he
    have : (e.key, e.val) ∈ es.toList.map (fun e => (e.key, e.val)) := List.mem_map.2 ⟨e, he, rfl⟩
    rw [h2] at this
    obtain ⟨p, hp, e1⟩ := List.mem_map.1 this
    simp only [Prod.mk.injEq] at e1
    exact ⟨p, hp, e1.1.symm, e1.2.symm⟩
  · intro p hp
    have : (keyV p, Value.bool true) ∈ S.map (fun p => (keyV p, Value.bool true)) := List.mem_map.2 ⟨p, hp, rfl⟩
    rw [← h2] at this
    obtain ⟨e, he, e1⟩ := List.mem_map.1 this
    simp only [Prod.mk.injEq] at e1
    exact ⟨e, he, e1.1⟩

theorem mapS_look {W : World} {B : Nat} {S : List (Int × Int)} (h : MapS W B S) (p : Int × Int) (hp : In64 p) :
    (Instr.lookup 50 (.map (some B)) (keyV p) false).run Tryd.prog W = .ok (.bool (decide (p ∈ S))) W := by
  obtain ⟨es, clock, hb, h2, h3⟩ := h
  obtain ⟨k1, k2⟩ := entries_keys h2
  obtain ⟨kl, hkey⟩ := keyV_of hp
  have hz : ∀ W, (zeroValue 4).run Tryd.prog W = .ok (.bool false) W := fun _ => by kernel_rfl
  rcases keyedK.find W hkey es.toList (fun e he => by obtain ⟨q, hq, e1, _⟩ := k1 e he; rw [e1]; exact keyV_of (h3 q hq)) with ⟨h4, h5⟩ | ⟨j, e0, h4, h5, h6⟩
  · have hn : ¬ p ∈ S := fun hm => by
      obtain ⟨e, he, e1⟩ := k2 p hm
      exact h5 e he e1
    simp [Instr.lookup, run_underlying Tryd.underlying50, MapKept.run_getObj_map hb, keyedK.check W _ hkey, h4, hz, Result.andThen, hn]
  · have hm0 : e0 ∈ es.toList := List.mem_of_getElem? h5
    obtain ⟨q, hq, e1, e2⟩ := k1 e0 hm0
    have hy : p ∈ S := by rw [keyV_inj (h6.symm.trans e1)]; exact hq
    simp [Instr.lookup, run_underlying Tryd.underlying50, MapKept.run_getObj_map hb, keyedK.check W _ hkey, h4, Result.andThen, hy, e2]

def addS (S : List (Int × Int)) (p : Int × Int) : List (Int × Int) := if p ∈ S then S else S ++ [p]

theorem mapS_upd {W : World} {B : Nat} {S : List (Int × Int)} (h : MapS W B S) (p : Int × Int) (hp : In64 p) :
    ∃ W', (Instr.mapUpdate 50 (.map (some B)) (keyV p) (.bool true)).run Tryd.prog W = .ok () W' ∧ MapS W' B (addS S p) ∧ W.grownBy W' (some B) := by
  obtain ⟨es, clock, hb, h2, h3⟩ := h
  obtain ⟨k1, k2⟩ := entries_keys h2
  obtain ⟨kl, hkey⟩ := keyV_of hp
  rcases keyedK.find W hkey es.toList (fun e he => by obtain ⟨q, hq, e1, _⟩ := k1 e he; rw [e1]; exact keyV_of (h3 q hq)) with ⟨h4, h5⟩ | ⟨j, e0, h4, h5, h6⟩
  · have hn : ¬ p ∈ S := fun hm => by
      obtain ⟨e, he, e1⟩ := k2 p hm
      exact h5 e he e1
    refine ⟨setBlock W B (.map (es.push ⟨keyV p, .bool true, clock⟩) (clock + 1)), ?_, ⟨_, _, heap_setBlock_same hb _, ?_, ?_⟩, ⟨rfl, rfl, rfl, by simp [setBlock], fun i _ hi => heap_setBlock_other hb _ (fun e => hi (by rw [e]))⟩⟩
    · simp [Instr.mapUpdate, run_underlying Tryd.underlying50, MapKept.run_getObj_map hb, keyedK.check W false hkey, h4, MapKept.run_setObj_map _ hb, Result.andThen, setBlock]
    · rw [addS, if_neg hn]
      simp [h2]
    · rw [addS, if_neg hn]
      intro q hq
      rcases List.mem_append.1 hq with h | h
      · exact h3 q h
      · rw [List.mem_singleton.1 h]; exact hp
  · have hm0 : e0 ∈ es.toList := List.mem_of_getElem? h5
    obtain ⟨q, hq, e1, e2⟩ := k1 e0 hm0
    have hy : p ∈ S := by rw [keyV_inj (h6.symm.trans e1)]; exact hq
    have h5' : es[j]? = some e0 := by simpa using h5
    have hst := keyedK.stays W hkey
    refine ⟨setBlock W B (.map (es.modify j fun e => { e with key := keyV p, val := .bool true }) clock), ?_, ⟨_, _, heap_setBlock_same hb _, ?_, ?_⟩, ⟨rfl, rfl, rfl, by simp [setBlock], fun i _ hi => heap_setBlock_other hb _ (fun e => hi (by rw [e]))⟩⟩
    · simp [Instr.mapUpdate, run_underlying Tryd.underlying50, MapKept.run_getObj_map hb, keyedK.check W false hkey, h4, MapKept.run_setObj_map _ hb, Result.andThen, setBlock, h5', h6, hst]
    · rw [addS, if_pos hy, ← h2]
      have hsame : (es.modify j fun e => { e with key := keyV p, val := .bool true }) = es := by
        apply Array.ext_getElem?
        intro i
        rw [Array.getElem?_modify]
        by_cases hi : j = i
        · subst hi
          rw [if_pos rfl, h5']
          simp only [Option.map_some, Option.some.injEq]
          rw [← h6, ← e2]
        · rw [if_neg hi]
      rw [hsame]
    · rw [addS, if_pos hy]; exact h3
end Go.Proofs.YtakmbmlpgmppiaaDoor
