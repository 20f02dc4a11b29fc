/- What abi.Of and abi.Named answer. -/
import Derived.Test.YtddlapcgfhbjdaaAbiSel
import Derived.Test.YtddlapcgfhbjdaaBlk
import Derived.WalkLawsBesides
import Derived.WalkSpells
import Derived.Lib.Hide
namespace Go.Proofs.Ytddlapcgfhbjdaa
open Go Go.Proofs Go.RowKit Go.Shelf
attribute [local go_sem] Oper.semAt_some

def findRow (p : AbiRow → Bool) (l : List AbiRow) : Option AbiRow := l.find? p
theorem find_hit {p : AbiRow → Bool} {pre : List AbiRow} {x : AbiRow} (h : findRow p pre = none) (hx : p x = true) : findRow p (pre ++ [x]) = some x := by
  unfold findRow at *; rw [List.find?_append, h]; simp [hx]
theorem find_miss {p : AbiRow → Bool} {pre : List AbiRow} {x : AbiRow} (h : findRow p pre = none) (hx : p x = false) : findRow p (pre ++ [x]) = none := by
  unfold findRow at *; rw [List.find?_append, h]; simp [hx]
theorem find_pre {p : AbiRow → Bool} {pre l : List AbiRow} {x : AbiRow} (h : findRow p pre = some x) (hp : pre <+: l) : findRow p l = some x := by
  obtain ⟨r, rfl⟩ := hp
  unfold findRow at *; rw [List.find?_append, h]; rfl

def ofAns (a : Int) : Value := match findRow (fun x => x.n == a) abiRows with
  | some x => .tuple #[.agg #[.string x.name, .int .u32 x.token, .bool x.bit, .int .i64 x.bits], .int .i64 0]
  | none => .tuple #[.agg #[.string ⟨#[]⟩, .int .u32 0, .bool false, .int .i64 0], .int .i64 16]
def namedAns (name : ByteArray) : Value := match findRow (fun x => x.name.toList == name.toList) abiRows with
  | some x => .tuple #[.int .i64 x.n, .int .i64 0]
  | none => .tuple #[.int .i64 0, .int .i64 14]

set_option maxRecDepth 100000 in
set_option maxHeartbeats 2000000 in
theorem of_in (F : Fence) (n : Nat) (hf : F.fn 16) (hf1 : F.fn 23) (hf2 : F.fn 26) (hro : F.round = none) (hn : 4 ≤ n) (a : Int) (w : World) :
    CallsIn F n Try.prog 16 #[.int .i64 a] w fun e w' => e = .returned (ofAns a) ∧ Below w.heap.size w w' := by
  have h1 : 1 ≤ n := by omega
  refine callsIn_of_wp_marks Try.func16 rfl hf ?_ hro
  simp only [Try.ntmps16, List.size_toArray, List.length_cons, List.length_nil, Nat.reduceAdd, Nat.reduceSub, Array.replicate_succ, Array.replicate_zero, List.push_toArray, List.append_toArray, List.nil_append, List.cons_append]
  gi_wp2_with (gi_at_call 23; refine (rows_in F (n - 1) hf1 hro _).mono ?_; rintro e w' ⟨rfl, rfl⟩)
  have b0 := ((Blk.new w 3 #[.int .i64 a]).alloc (.cells #[.string ⟨#[]⟩, .int .u32 0, .bool false, .int .i64 0] 36)).alloc (.cells #[.int .i64 0] 29)
  have b1 := (Blk.new (w.alloc (.cells #[.int .i64 a] 3)) 36 #[.string ⟨#[]⟩, .int .u32 0, .bool false, .int .i64 0]).alloc (.cells #[.int .i64 0] 29)
  have b2 := Blk.new ((w.alloc (.cells #[.int .i64 a] 3)).alloc (.cells #[.string ⟨#[]⟩, .int .u32 0, .bool false, .int .i64 0] 36)) 29 #[.int .i64 0]
  simp only [World.size_alloc] at b1 b2
  have hB0 : Below w.heap.size w (((w.alloc (.cells #[.int .i64 a] 3)).alloc (.cells #[.string ⟨#[]⟩, .int .u32 0, .bool false, .int .i64 0] 36)).alloc (.cells #[.int .i64 0] 29)) := (((Below.refl _ w).alloc (Nat.le_refl _) _).alloc (by simp) _).alloc (by simp; omega) _
  have hsz : w.heap.size + 3 ≤ (((w.alloc (.cells #[.int .i64 a] 3)).alloc (.cells #[.string ⟨#[]⟩, .int .u32 0, .bool false, .int .i64 0] 36)).alloc (.cells #[.int .i64 0] 29)).heap.size := by simp
  obtain ⟨W0, hW0⟩ : ∃ W0, (((w.alloc (.cells #[.int .i64 a] 3)).alloc (.cells #[.string ⟨#[]⟩, .int .u32 0, .bool false, .int .i64 0] 36)).alloc (.cells #[.int .i64 0] 29)) = W0 := ⟨_, rfl⟩
  rw [hW0] at b0 b1 b2 hB0 hsz ⊢
  clear hW0
  refine wpIn_rangeFunc_ownH hro h1 (gf := 26) (lb := #[]) rfl hf2 (enters_of Try.func26 (by kernel_rfl) rfl)
    (rows1_in F (n - 1) hf2 hro (by omega) W0) (fun _ _ => trivial) (fun _ _ _ _ _ _ _ _ => trivial) (Below.refl _ _) (fun _ => rfl)
    (fun pre W => (((Blk W w.heap.size 3 #[.int .i64 a] ∧ Blk W (w.heap.size + 1) 36 #[.string ⟨#[]⟩, .int .u32 0, .bool false, .int .i64 0]) ∧ Blk W (w.heap.size + 1 + 1) 29 #[.int .i64 0]) ∧ Below w.heap.size w W) ∧ findRow (fun x : AbiRow => x.n == a) pre = none)
    (fun c pre W => (c = .ret ∧ ∃ x, findRow (fun x : AbiRow => x.n == a) pre = some x ∧ Blk W (w.heap.size + 1) 36 #[.string x.name, .int .u32 x.token, .bool x.bit, .int .i64 x.bits]) ∧ (Blk W (w.heap.size + 1 + 1) 29 #[.int .i64 0] ∧ Below w.heap.size w W))
    (OwnFrom.and (OwnFrom.and (OwnFrom.and (OwnFrom.and (Own.from (blk_own _ _ _) _) (Own.from (blk_own _ _ _) _)) (Own.from (blk_own _ _ _) _)) (ownFrom_below (Nat.le_refl _) (by omega))) (ownFrom_pure _ _))
    (fun c => OwnFrom.and (fun pre X Y row hs hg hr => by obtain ⟨hc, x, hx, hb⟩ := hs; exact ⟨hc, x, hx, blk_own _ _ (fun (_ : Unit) => #[.string x.name, .int .u32 x.token, .bool x.bit, .int .i64 x.bits]) () X Y row hb hg (fun r e => (hr r e).2)⟩) (OwnFrom.and (Own.from (blk_own _ _ _) _) (ownFrom_below (Nat.le_refl _) (by omega))))
    ⟨⟨⟨⟨b0, b1⟩, b2⟩, hB0⟩, rfl⟩
    (fun x a' W => ∃ Bx, (w.heap.size + 3 ≤ Bx ∧ Blk W Bx 36 #[.string x.name, .int .u32 x.token, .bool x.bit, .int .i64 x.bits]) ∧ a' = { tmps := #[.int .i64 a, .pointer (some ⟨w.heap.size, 0, none⟩), .pointer (some ⟨w.heap.size + 1, 0, none⟩), .pointer (some ⟨w.heap.size + 1 + 1, 0, none⟩), .int .i64 x.n, .pointer (some ⟨Bx, 0, none⟩), .func (.func 26) #[] #[], .int .i64 x.n, .agg #[.string x.name, .int .u32 x.token, .bool x.bit, .int .i64 x.bits], undef, undef, undef, undef, undef], defers := [] })
    (fun x a' u X Y row hs hg hr => by
      obtain ⟨Bx, ⟨h1, h2⟩, h3⟩ := hs
      exact ⟨Bx, ⟨h1, blk_own _ _ (fun (_ : Unit) => #[.string x.name, .int .u32 x.token, .bool x.bit, .int .i64 x.bits]) () X Y row h2 hg (fun r e => (hr r e).2)⟩, h3⟩)
    ?assign ?body ?done ?stop
  case assign =>
    rintro l pre x W K ⟨⟨⟨⟨c0, c1⟩, c2⟩, hB1⟩, hsel⟩ hK
    have hsW := hB1.size
    gi_wp2
    refine hK _ _ ((KeepsOthers.alloc _ _).from _) trivial ⟨⟨⟨⟨c0.alloc _, c1.alloc _⟩, c2.alloc _⟩, hB1.alloc hsW _⟩, hsel⟩ ⟨W.heap.size, ⟨by have := c2.lt; omega, Blk.new _ _ _⟩, rfl⟩
  case body =>
    rintro l pre x a' W hl ⟨r, hr⟩ ⟨⟨⟨⟨c0, c1⟩, c2⟩, hB1⟩, hsel⟩ ⟨Bx, ⟨hBx, hX⟩, rfl⟩ hlt
    have k0 := c0.cell 0
    have k1 := c1.cell 0
    have k2 := c2.cell 0
    have k10 := c1.cell 0
    have f10 := c1.frozen 0
    have k11 := c1.cell 1
    have f11 := c1.frozen 1
    have k12 := c1.cell 2
    have f12 := c1.frozen 2
    have k13 := c1.cell 3
    have f13 := c1.frozen 3
    have f2 := c2.frozen 0
    have x0 := hX.cell 0
    have x1 := hX.cell 1
    have x2 := hX.cell 2
    have x3 := hX.cell 3
    simp only [List.getElem?_toArray, List.getElem?_cons_zero, List.getElem?_cons_succ] at x0 x1 x2 x3 k0 k1 k2 k10 k11 k12 k13
    have hpp : KeepsFrom W0.heap.size W W := KeepsFrom.refl _ _
    cases hx0 : (fun x : AbiRow => x.n == a) x with
    | true =>
      have hx := hx0
      simp only [beq_iff_eq] at hx
      have Hx := Lib.hid hx0
      clear hx0
      gi_wp2
      exact ⟨(((((KeepsOthers.setCell _ ⟨w.heap.size + 1, 0, none⟩ (.string x.name)).trans (KeepsOthers.setCell _ ⟨w.heap.size + 1, 1, none⟩ (.int .u32 x.token))).trans (KeepsOthers.setCell _ ⟨w.heap.size + 1, 2, none⟩ (.bool x.bit))).trans (KeepsOthers.setCell _ ⟨w.heap.size + 1, 3, none⟩ (.int .i64 x.bits))).trans (KeepsOthers.setCell _ ⟨w.heap.size + 1 + 1, 0, none⟩ (.int .i64 0))).from _, ⟨rfl, x, find_hit hsel Hx.out, ((((c1.set 0 (.string x.name)).set 1 (.int .u32 x.token)).set 2 (.bool x.bit)).set 3 (.int .i64 x.bits)).other (B' := w.heap.size + 1 + 1) (by omega) 0 (.int .i64 0)⟩, ((((c2.other (B' := w.heap.size + 1) (by omega) 0 (.string x.name)).other (B' := w.heap.size + 1) (by omega) 1 (.int .u32 x.token)).other (B' := w.heap.size + 1) (by omega) 2 (.bool x.bit)).other (B' := w.heap.size + 1) (by omega) 3 (.int .i64 x.bits)).set 0 (.int .i64 0), ((((hB1.setCell (p := ⟨w.heap.size + 1, 0, none⟩) (by simp) (.string x.name)).setCell (p := ⟨w.heap.size + 1, 1, none⟩) (by simp) (.int .u32 x.token)).setCell (p := ⟨w.heap.size + 1, 2, none⟩) (by simp) (.bool x.bit)).setCell (p := ⟨w.heap.size + 1, 3, none⟩) (by simp) (.int .i64 x.bits)).setCell (p := ⟨w.heap.size + 1 + 1, 0, none⟩) (by simp; omega) (.int .i64 0)⟩
    | false =>
      have hx := hx0
      simp only [beq_eq_false_iff_ne] at hx
      have Hx := Lib.hid hx0
      clear hx0
      gi_wp2
      exact ⟨hpp, trivial, ⟨⟨⟨c0, c1⟩, c2⟩, hB1⟩, find_miss hsel Hx.out⟩
  case done =>
    rintro D xs W hD rfl ⟨⟨⟨⟨c0, c1⟩, c2⟩, hB1⟩, hsel⟩ hK
    have k1 := c1.cell 0
    have k2 := c2.cell 0
    have k10 := c1.cell 0
    have f10 := c1.frozen 0
    have k11 := c1.cell 1
    have f11 := c1.frozen 1
    have k12 := c1.cell 2
    have f12 := c1.frozen 2
    have k13 := c1.cell 3
    have f13 := c1.frozen 3
    have f2 := c2.frozen 0
    simp only [List.getElem?_toArray, List.getElem?_cons_zero, List.getElem?_cons_succ] at k1 k2 k10 k11 k12 k13
    gi_wp2
    have hK' := (((((KeepsOthers.setCell _ ⟨w.heap.size + 1, 0, none⟩ (.string ⟨#[]⟩)).trans (KeepsOthers.setCell _ ⟨w.heap.size + 1, 1, none⟩ (.int .u32 0))).trans (KeepsOthers.setCell _ ⟨w.heap.size + 1, 2, none⟩ (.bool false))).trans (KeepsOthers.setCell _ ⟨w.heap.size + 1, 3, none⟩ (.int .i64 0))).trans (KeepsOthers.setCell _ ⟨w.heap.size + 1 + 1, 0, none⟩ (.int .i64 16))).same D _ hK rfl
    have hne1 : w.heap.size + 1 ≠ D := by omega
    have hne2 : w.heap.size + 1 + 1 ≠ D := by omega
    refine ⟨by simp, .inl ⟨_, _, rfl, run_takeDeferred hK', ?_⟩⟩
    have d1 := (((((c1.set 0 (.string ⟨#[]⟩)).set 1 (.int .u32 0)).set 2 (.bool false)).set 3 (.int .i64 0)).other (B' := w.heap.size + 1 + 1) (by omega) 0 (.int .i64 16)).put (.deferred none) hne1
    have d2 := (((((c2.other (B' := w.heap.size + 1) (by omega) 0 (.string ⟨#[]⟩)).other (B' := w.heap.size + 1) (by omega) 1 (.int .u32 0)).other (B' := w.heap.size + 1) (by omega) 2 (.bool false)).other (B' := w.heap.size + 1) (by omega) 3 (.int .i64 0)).set 0 (.int .i64 16)).put (.deferred none) hne2
    have e10 := d1.cell 0
    have e11 := d1.cell 1
    have e12 := d1.cell 2
    have e13 := d1.cell 3
    have e2 := d2.cell 0
    simp at e10 e11 e12 e13 e2
    refine ⟨.tuple #[.agg #[.string ⟨#[]⟩, .int .u32 0, .bool false, .int .i64 0], .int .i64 16], ?_, by simp only [ofAns, hsel], (((((hB1.setCell (p := ⟨w.heap.size + 1, 0, none⟩) (by simp) (.string ⟨#[]⟩)).setCell (p := ⟨w.heap.size + 1, 1, none⟩) (by simp) (.int .u32 0)).setCell (p := ⟨w.heap.size + 1, 2, none⟩) (by simp) (.bool false)).setCell (p := ⟨w.heap.size + 1, 3, none⟩) (by simp) (.int .i64 0)).setCell (p := ⟨w.heap.size + 1 + 1, 0, none⟩) (by simp; omega) (.int .i64 16)).trans (belowK_b (w := w) (Nat.le_refl _) _ D _ (.deferred none) (by omega) hK' rfl rfl)⟩
    simp [results, Try.f16, go_sem, e10, e11, e12, e13, e2]
  case stop =>
    rintro D c pre W hD hS ⟨⟨rfl, x, hx, c1⟩, c2, hB1⟩ hK
    gi_wp2
    have hne1 : w.heap.size + 1 ≠ D := by omega
    have hne2 : w.heap.size + 1 + 1 ≠ D := by omega
    refine ⟨by simp, .inl ⟨_, _, rfl, run_takeDeferred hK, ?_⟩⟩
    have d1 := c1.put (.deferred none) hne1
    have d2 := c2.put (.deferred none) hne2
    have e10 := d1.cell 0
    have e11 := d1.cell 1
    have e12 := d1.cell 2
    have e13 := d1.cell 3
    have e2 := d2.cell 0
    simp at e10 e11 e12 e13 e2
    refine ⟨.tuple #[.agg #[.string x.name, .int .u32 x.token, .bool x.bit, .int .i64 x.bits], .int .i64 0], ?_, by simp only [ofAns, find_pre hx hS], hB1.trans (belowK_b (w := w) (Nat.le_refl _) _ D _ (.deferred none) (by omega) hK rfl rfl)⟩
    simp [results, Try.f16, go_sem, e10, e11, e12, e13, e2]

set_option maxRecDepth 100000 in
set_option maxHeartbeats 2000000 in
theorem named_in (F : Fence) (n : Nat) (hf : F.fn 18) (hf1 : F.fn 23) (hf2 : F.fn 26) (hro : F.round = none) (hn : 4 ≤ n) (name : ByteArray) (w : World) :
    CallsIn F n Try.prog 18 #[.string name] w fun e w' => e = .returned (namedAns name) ∧ Below w.heap.size w w' := by
  have h1 : 1 ≤ n := by omega
  refine callsIn_of_wp_marks Try.func18 rfl hf ?_ hro
  simp only [Try.ntmps18, List.size_toArray, List.length_cons, List.length_nil, Nat.reduceAdd, Nat.reduceSub, Array.replicate_succ, Array.replicate_zero, List.push_toArray, List.append_toArray, List.nil_append, List.cons_append]
  gi_wp2_with (gi_at_call 23; refine (rows_in F (n - 1) hf1 hro _).mono ?_; rintro e w' ⟨rfl, rfl⟩)
  have b0 := ((Blk.new w 9 #[.string name]).alloc (.cells #[.int .i64 0] 3)).alloc (.cells #[.int .i64 0] 29)
  have b1 := (Blk.new (w.alloc (.cells #[.string name] 9)) 3 #[.int .i64 0]).alloc (.cells #[.int .i64 0] 29)
  have b2 := Blk.new ((w.alloc (.cells #[.string name] 9)).alloc (.cells #[.int .i64 0] 3)) 29 #[.int .i64 0]
  simp only [World.size_alloc] at b1 b2
  have hB0 : Below w.heap.size w (((w.alloc (.cells #[.string name] 9)).alloc (.cells #[.int .i64 0] 3)).alloc (.cells #[.int .i64 0] 29)) := (((Below.refl _ w).alloc (Nat.le_refl _) _).alloc (by simp) _).alloc (by simp; omega) _
  have hsz : w.heap.size + 3 ≤ (((w.alloc (.cells #[.string name] 9)).alloc (.cells #[.int .i64 0] 3)).alloc (.cells #[.int .i64 0] 29)).heap.size := by simp
  obtain ⟨W0, hW0⟩ : ∃ W0, (((w.alloc (.cells #[.string name] 9)).alloc (.cells #[.int .i64 0] 3)).alloc (.cells #[.int .i64 0] 29)) = W0 := ⟨_, rfl⟩
  rw [hW0] at b0 b1 b2 hB0 hsz ⊢
  clear hW0
  refine wpIn_rangeFunc_ownH hro h1 (gf := 26) (lb := #[]) rfl hf2 (enters_of Try.func26 (by kernel_rfl) rfl)
    (rows1_in F (n - 1) hf2 hro (by omega) W0) (fun _ _ => trivial) (fun _ _ _ _ _ _ _ _ => trivial) (Below.refl _ _) (fun _ => rfl)
    (fun pre W => (((Blk W w.heap.size 9 #[.string name] ∧ Blk W (w.heap.size + 1) 3 #[.int .i64 0]) ∧ Blk W (w.heap.size + 1 + 1) 29 #[.int .i64 0]) ∧ Below w.heap.size w W) ∧ findRow (fun x : AbiRow => x.name.toList == name.toList) pre = none)
    (fun c pre W => (c = .ret ∧ ∃ x, findRow (fun x : AbiRow => x.name.toList == name.toList) pre = some x ∧ Blk W (w.heap.size + 1) 3 #[.int .i64 x.n]) ∧ (Blk W (w.heap.size + 1 + 1) 29 #[.int .i64 0] ∧ Below w.heap.size w W))
    (OwnFrom.and (OwnFrom.and (OwnFrom.and (OwnFrom.and (Own.from (blk_own _ _ _) _) (Own.from (blk_own _ _ _) _)) (Own.from (blk_own _ _ _) _)) (ownFrom_below (Nat.le_refl _) (by omega))) (ownFrom_pure _ _))
    (fun c => OwnFrom.and (fun pre X Y row hs hg hr => by obtain ⟨hc, x, hx, hb⟩ := hs; exact ⟨hc, x, hx, blk_own _ _ (fun (_ : Unit) => #[.int .i64 x.n]) () X Y row hb hg (fun r e => (hr r e).2)⟩) (OwnFrom.and (Own.from (blk_own _ _ _) _) (ownFrom_below (Nat.le_refl _) (by omega))))
    ⟨⟨⟨⟨b0, b1⟩, b2⟩, hB0⟩, rfl⟩
    (fun x a' W => ∃ Bx, (w.heap.size + 3 ≤ Bx ∧ Blk W Bx 36 #[.string x.name, .int .u32 x.token, .bool x.bit, .int .i64 x.bits]) ∧ a' = { tmps := #[.string name, .pointer (some ⟨w.heap.size, 0, none⟩), .pointer (some ⟨w.heap.size + 1, 0, none⟩), .pointer (some ⟨w.heap.size + 1 + 1, 0, none⟩), .int .i64 x.n, .pointer (some ⟨Bx, 0, none⟩), .func (.func 26) #[] #[], .int .i64 x.n, .agg #[.string x.name, .int .u32 x.token, .bool x.bit, .int .i64 x.bits], undef, undef, undef, undef, undef], defers := [] })
    (fun x a' u X Y row hs hg hr => by
      obtain ⟨Bx, ⟨h1, h2⟩, h3⟩ := hs
      exact ⟨Bx, ⟨h1, blk_own _ _ (fun (_ : Unit) => #[.string x.name, .int .u32 x.token, .bool x.bit, .int .i64 x.bits]) () X Y row h2 hg (fun r e => (hr r e).2)⟩, h3⟩)
    ?assign ?body ?done ?stop
  case assign =>
    rintro l pre x W K ⟨⟨⟨⟨c0, c1⟩, c2⟩, hB1⟩, hsel⟩ hK
    have hsW := hB1.size
    gi_wp2
    refine hK _ _ ((KeepsOthers.alloc _ _).from _) trivial ⟨⟨⟨⟨c0.alloc _, c1.alloc _⟩, c2.alloc _⟩, hB1.alloc hsW _⟩, hsel⟩ ⟨W.heap.size, ⟨by have := c2.lt; omega, Blk.new _ _ _⟩, rfl⟩
  case body =>
    rintro l pre x a' W hl ⟨r, hr⟩ ⟨⟨⟨⟨c0, c1⟩, c2⟩, hB1⟩, hsel⟩ ⟨Bx, ⟨hBx, hX⟩, rfl⟩ hlt
    have k0 := c0.cell 0
    have k1 := c1.cell 0
    have k2 := c2.cell 0
    have f1 := c1.frozen 0
    have f2 := c2.frozen 0
    have x0 := hX.cell 0
    have x1 := hX.cell 1
    have x2 := hX.cell 2
    have x3 := hX.cell 3
    simp only [List.getElem?_toArray, List.getElem?_cons_zero, List.getElem?_cons_succ] at x0 x1 x2 x3 k0 k1 k2 
    have hpp : KeepsFrom W0.heap.size W W := KeepsFrom.refl _ _
    cases hx0 : (fun x : AbiRow => x.name.toList == name.toList) x with
    | true =>
      have hx := hx0
      skip
      have Hx := Lib.hid hx0
      clear hx0
      gi_wp2
      exact ⟨((KeepsOthers.setCell _ ⟨w.heap.size + 1, 0, none⟩ (.int .i64 x.n)).trans (KeepsOthers.setCell _ ⟨w.heap.size + 1 + 1, 0, none⟩ (.int .i64 0))).from _, ⟨rfl, x, find_hit hsel Hx.out, (c1.set 0 (.int .i64 x.n)).other (B' := w.heap.size + 1 + 1) (by omega) 0 (.int .i64 0)⟩, (c2.other (B' := w.heap.size + 1) (by omega) 0 (.int .i64 x.n)).set 0 (.int .i64 0), (hB1.setCell (p := ⟨w.heap.size + 1, 0, none⟩) (by simp) (.int .i64 x.n)).setCell (p := ⟨w.heap.size + 1 + 1, 0, none⟩) (by simp; omega) (.int .i64 0)⟩
    | false =>
      have hx := hx0
      skip
      have Hx := Lib.hid hx0
      clear hx0
      gi_wp2
      exact ⟨hpp, trivial, ⟨⟨⟨c0, c1⟩, c2⟩, hB1⟩, find_miss hsel Hx.out⟩
  case done =>
    rintro D xs W hD rfl ⟨⟨⟨⟨c0, c1⟩, c2⟩, hB1⟩, hsel⟩ hK
    have k1 := c1.cell 0
    have k2 := c2.cell 0
    have f1 := c1.frozen 0
    have f2 := c2.frozen 0
    simp only [List.getElem?_toArray, List.getElem?_cons_zero, List.getElem?_cons_succ] at k1 k2 
    gi_wp2
    have hK' := ((KeepsOthers.setCell _ ⟨w.heap.size + 1, 0, none⟩ (.int .i64 0)).trans (KeepsOthers.setCell _ ⟨w.heap.size + 1 + 1, 0, none⟩ (.int .i64 14))).same D _ hK rfl
    have hne1 : w.heap.size + 1 ≠ D := by omega
    have hne2 : w.heap.size + 1 + 1 ≠ D := by omega
    refine ⟨by simp, .inl ⟨_, _, rfl, run_takeDeferred hK', ?_⟩⟩
    have d1 := ((c1.set 0 (.int .i64 0)).other (B' := w.heap.size + 1 + 1) (by omega) 0 (.int .i64 14)).put (.deferred none) hne1
    have d2 := ((c2.other (B' := w.heap.size + 1) (by omega) 0 (.int .i64 0)).set 0 (.int .i64 14)).put (.deferred none) hne2
    have e10 := d1.cell 0
    have e2 := d2.cell 0
    simp at e10 e2
    refine ⟨.tuple #[.int .i64 0, .int .i64 14], ?_, by simp only [namedAns, hsel], ((hB1.setCell (p := ⟨w.heap.size + 1, 0, none⟩) (by simp) (.int .i64 0)).setCell (p := ⟨w.heap.size + 1 + 1, 0, none⟩) (by simp; omega) (.int .i64 14)).trans (belowK_b (w := w) (Nat.le_refl _) _ D _ (.deferred none) (by omega) hK' rfl rfl)⟩
    simp [results, Try.f18, go_sem, e10, e2]
  case stop =>
    rintro D c pre W hD hS ⟨⟨rfl, x, hx, c1⟩, c2, hB1⟩ hK
    gi_wp2
    have hne1 : w.heap.size + 1 ≠ D := by omega
    have hne2 : w.heap.size + 1 + 1 ≠ D := by omega
    refine ⟨by simp, .inl ⟨_, _, rfl, run_takeDeferred hK, ?_⟩⟩
    have d1 := c1.put (.deferred none) hne1
    have d2 := c2.put (.deferred none) hne2
    have e10 := d1.cell 0
    have e2 := d2.cell 0
    simp at e10 e2
    refine ⟨.tuple #[.int .i64 x.n, .int .i64 0], ?_, by simp only [namedAns, find_pre hx hS], hB1.trans (belowK_b (w := w) (Nat.le_refl _) _ D _ (.deferred none) (by omega) hK rfl rfl)⟩
    simp [results, Try.f18, go_sem, e10, e2]

theorem of_any (a : Int) (w : World) : Calls Try.prog 16 #[.int .i64 a] w fun e w' => e = .returned (ofAns a) ∧ Below w.heap.size w w' :=
  callsIn_wide.1 (of_in Fence.wide 4 trivial trivial trivial rfl (by omega) a w)
theorem named_any (name : ByteArray) (w : World) : Calls Try.prog 18 #[.string name] w fun e w' => e = .returned (namedAns name) ∧ Below w.heap.size w w' :=
  callsIn_wide.1 (named_in Fence.wide 4 trivial trivial trivial rfl (by omega) name w)
end Go.Proofs.Ytddlapcgfhbjdaa
