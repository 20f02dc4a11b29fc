/- A map from ints to bools, used as a set: what a look-up and a store do. -/
import Derived.Test.YtakmbmlpgmppiaaDoorBlk
import Derived.Test.YtakmbmlpgmppiaaDoorProg
import Derived.Maps.Keyed
import Derived.Maps.Own
namespace Go.Proofs.YtakmbmlpgmppiaaDoor
open Go Go.Proofs Go.RowKit Go.Maps Go.WideMaps Go.ChangeMaps

theorem keyedI : Keyed Tryd.prog 3 := int_keyed Tryd.underlying3
def keyI (p : Int) : Value := .int .i64 p
def In64I (p : Int) : Prop := (Lit.int .i64 p).wf = true
theorem keyI_of {p : Int} (h : In64I p) : ∃ l, keyOf Tryd.prog 3 (keyI p) = some l := ⟨_, keyOf_int_mk Tryd.underlying3 h⟩
theorem keyI_inj {p q : Int} (h : keyI p = keyI q) : p = q := by
  simpa [keyI] using h

/-- Block B is a map that holds these pairs. -/
def MapI (W : World) (B : Nat) (S : List (Int)) : Prop :=
  ∃ es clock, W.heap[B]? = some (.map es clock) ∧ es.toList.map (fun e => (e.key, e.val)) = S.map (fun p => (keyI p, Value.bool true)) ∧ ∀ p ∈ S, In64I p
theorem MapI.lt {W : World} {B : Nat} {S : List (Int)} (h : MapI W B S) : B < W.heap.size := by
  obtain ⟨es, c, h, _⟩ := h
  exact (Array.getElem?_eq_some_iff.1 h).1
theorem MapI.kept {W W' : World} {row : Option Nat} {B : Nat} {S : List (Int)} (h : MapI W B S) (hg : W.grownBy W' row) (hne : some B ≠ row) : MapI W' B S := by
  have hl := h.lt
  obtain ⟨es, c, h, h2, h3⟩ := h
  exact ⟨es, c, (hg.block B hl hne).trans h, h2, h3⟩
theorem MapI.below {n : Nat} {W W' : World} {B : Nat} {S : List (Int)} (h : MapI W B S) (hb : Below n W W') (hB : B < n) : MapI W' B S := by
  obtain ⟨es, c, h, h2, h3⟩ := h
  exact ⟨es, c, (hb.block B hB).trans h, h2, h3⟩
theorem MapI.alloc {W : World} {B : Nat} {S : List (Int)} (h : MapI W B S) (o : Obj) : MapI (W.alloc o) B S := h.kept (World.grownBy_alloc W o none) (by simp)
theorem MapI.made (W : World) : MapI (W.alloc (.map #[] 0)) W.heap.size [] := ⟨#[], 0, World.alloc_heap_new W _, rfl, by simp⟩

theorem entries_keysI {es : Array MapEntry} {S : List (Int)} (h2 : es.toList.map (fun e => (e.key, e.val)) = S.map (fun p => (keyI p, Value.bool true))) : (∀ e ∈ es.toList, ∃ p ∈ S, e.key = keyI p ∧ e.val = .bool true) ∧ ∀ p ∈ S, ∃ e ∈ es.toList, e.key = keyI p := by
  constructor
  · intro e he
    have : (e.key, e.val) ∈ es.toList.map (fun e => (e.key, e.val)) := List.mem_map.2 ⟨e, he, rfl⟩
    rw [h2] at this
    obtain ⟨p, hp, e1⟩ := List.mem_map.1 this
    simp only [Prod.mk.injEq] at e1
    exact ⟨p, hp, e1.1.symm, e1.2.symm⟩
  · intro p hp
    have : (keyI p, Value.bool true) ∈ S.map (fun p => (keyI p, Value.bool true)) := List.mem_map.2 ⟨p, hp, rfl⟩
    rw [← h2] at this
    obtain ⟨e, he, e1⟩ := List.mem_map.1 this
    simp only [Prod.mk.injEq] at e1
    exact ⟨e, he, e1.1⟩

theorem mapI_look {W : World} {B : Nat} {S : List (Int)} (h : MapI W B S) (p : Int) (hp : In64I p) :
    (Instr.lookup 43 (.map (some B)) (keyI p) false).run Tryd.prog W = .ok (.bool (decide (p ∈ S))) W := by
  obtain ⟨es, clock, hb, h2, h3⟩ := h
  obtain ⟨k1, k2⟩ := entries_keysI h2
  obtain ⟨kl, hkey⟩ := keyI_of hp
  have hz : ∀ W, (zeroValue 4).run Tryd.prog W = .ok (.bool false) W := fun _ => by kernel_rfl
  rcases keyedI.find W hkey es.toList (fun e he => by obtain ⟨q, hq, e1, _⟩ := k1 e he; rw [e1]; exact keyI_of (h3 q hq)) with ⟨h4, h5⟩ | ⟨j, e0, h4, h5, h6⟩
  · have hn : ¬ p ∈ S := fun hm => by
      obtain ⟨e, he, e1⟩ := k2 p hm
      exact h5 e he e1
    simp [Instr.lookup, run_underlying Tryd.underlying43, MapKept.run_getObj_map hb, keyedI.check W _ hkey, h4, hz, Result.andThen, hn]
  · have hm0 : e0 ∈ es.toList := List.mem_of_getElem? h5
    obtain ⟨q, hq, e1, e2⟩ := k1 e0 hm0
    have hy : p ∈ S := by rw [keyI_inj (h6.symm.trans e1)]; exact hq
    simp [Instr.lookup, run_underlying Tryd.underlying43, MapKept.run_getObj_map hb, keyedI.check W _ hkey, h4, Result.andThen, hy, e2]

def addI (S : List (Int)) (p : Int) : List (Int) := if p ∈ S then S else S ++ [p]

theorem mapI_upd {W : World} {B : Nat} {S : List (Int)} (h : MapI W B S) (p : Int) (hp : In64I p) :
    ∃ W', (Instr.mapUpdate 43 (.map (some B)) (keyI p) (.bool true)).run Tryd.prog W = .ok () W' ∧ MapI W' B (addI S p) ∧ W.grownBy W' (some B) := by
  obtain ⟨es, clock, hb, h2, h3⟩ := h
  obtain ⟨k1, k2⟩ := entries_keysI h2
  obtain ⟨kl, hkey⟩ := keyI_of hp
  rcases keyedI.find W hkey es.toList (fun e he => by obtain ⟨q, hq, e1, _⟩ := k1 e he; rw [e1]; exact keyI_of (h3 q hq)) with ⟨h4, h5⟩ | ⟨j, e0, h4, h5, h6⟩
  · have hn : ¬ p ∈ S := fun hm => by
      obtain ⟨e, he, e1⟩ := k2 p hm
      exact h5 e he e1
    refine ⟨setBlock W B (.map (es.push ⟨keyI p, .bool true, clock⟩) (clock + 1)), ?_, ⟨_, _, heap_setBlock_same hb _, ?_, ?_⟩, ⟨rfl, rfl, rfl, by simp [setBlock], fun i _ hi => heap_setBlock_other hb _ (fun e => hi (by rw [e]))⟩⟩
    · simp [Instr.mapUpdate, run_underlying Tryd.underlying43, MapKept.run_getObj_map hb, keyedI.check W false hkey, h4, MapKept.run_setObj_map _ hb, Result.andThen, setBlock]
    · rw [addI, if_neg hn]
      simp [h2]
    · rw [addI, if_neg hn]
      intro q hq
      rcases List.mem_append.1 hq with h | h
      · exact h3 q h
      · rw [List.mem_singleton.1 h]; exact hp
  · have hm0 : e0 ∈ es.toList := List.mem_of_getElem? h5
    obtain ⟨q, hq, e1, e2⟩ := k1 e0 hm0
    have hy : p ∈ S := by rw [keyI_inj (h6.symm.trans e1)]; exact hq
    have h5' : es[j]? = some e0 := by simpa using h5
    have hst := keyedI.stays W hkey
    refine ⟨setBlock W B (.map (es.modify j fun e => { e with key := keyI p, val := .bool true }) clock), ?_, ⟨_, _, heap_setBlock_same hb _, ?_, ?_⟩, ⟨rfl, rfl, rfl, by simp [setBlock], fun i _ hi => heap_setBlock_other hb _ (fun e => hi (by rw [e]))⟩⟩
    · simp [Instr.mapUpdate, run_underlying Tryd.underlying43, MapKept.run_getObj_map hb, keyedI.check W false hkey, h4, MapKept.run_setObj_map _ hb, Result.andThen, setBlock, h5', h6, hst]
    · rw [addI, if_pos hy, ← h2]
      have hsame : (es.modify j fun e => { e with key := keyI p, val := .bool true }) = es := by
        apply Array.ext_getElem?
        intro i
        rw [Array.getElem?_modify]
        by_cases hi : j = i
        · subst hi
          rw [if_pos rfl, h5']
          simp only [Option.map_some, Option.some.injEq]
          rw [← h6, ← e2]
        · rw [if_neg hi]
      rw [hsame]
    · rw [addI, if_pos hy]; exact h3
end Go.Proofs.YtakmbmlpgmppiaaDoor
