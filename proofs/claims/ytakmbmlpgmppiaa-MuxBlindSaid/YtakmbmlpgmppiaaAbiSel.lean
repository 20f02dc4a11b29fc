/- What abi.Select answers, and that it leaves all that lay as it was. -/
import Derived.Test.YtakmbmlpgmppiaaAbiRows
namespace Go.Proofs.Ytakmbmlpgmppiaa
open Go Go.Proofs Go.RowKit Go.Shelf
attribute [local go_sem] Oper.semAt_some

/-- Is a number one with x32's bit (and not the number of no call)? As the walk spells it. -/
def selWith (number : Int) : Bool := bits BinOp.and IntKind.u32 number 1073741824 != 0 && number != 4294967295
/-- Does a row answer to a token and a bit? -/
def selRow (arch : Int) (wb : Bool) (x : AbiRow) : Bool := x.token == arch && (x.n != 0 && x.n != 1 || x.bit == wb)
def selFind (arch : Int) (wb : Bool) (l : List AbiRow) : Option AbiRow := l.find? (selRow arch wb)
theorem selFind_hit {arch : Int} {wb : Bool} {pre : List AbiRow} {x : AbiRow} (h : selFind arch wb pre = none) (hx : selRow arch wb x = true) : selFind arch wb (pre ++ [x]) = some x := by
  unfold selFind at *; rw [List.find?_append, h]; simp [hx]
theorem selFind_miss {arch : Int} {wb : Bool} {pre : List AbiRow} {x : AbiRow} (h : selFind arch wb pre = none) (hx : selRow arch wb x = false) : selFind arch wb (pre ++ [x]) = none := by
  unfold selFind at *; rw [List.find?_append, h]; simp [hx]
theorem selFind_pre {arch : Int} {wb : Bool} {pre l : List AbiRow} {x : AbiRow} (h : selFind arch wb pre = some x) (hp : pre <+: l) : selFind arch wb l = some x := by
  obtain ⟨r, rfl⟩ := hp
  unfold selFind at *; rw [List.find?_append, h]; rfl
/-- What Select answers. -/
def selAns (arch number : Int) : Value := match selFind arch (selWith number) abiRows with
  | some x => .tuple #[.int .i64 x.n, .bool true]
  | none => .tuple #[.int .i64 0, .bool false]

theorem belowFrom {W W' : World} (h : Below W.heap.size W W') (B : Nat) : KeepsFrom B W W' :=
  ⟨h.size, fun k _ _ hk _ => (h.block k (Array.getElem?_eq_some_iff.1 hk).1).trans hk⟩

set_option maxRecDepth 100000 in
set_option maxHeartbeats 2000000 in
theorem select_in (F : Fence) (n : Nat) (hf : F.fn 36) (hf1 : F.fn 47) (hf2 : F.fn 50) (hro : F.round = none) (hn : 4 ≤ n) (arch number : Int) (w : World) :
    CallsIn F n Try.prog 36 #[.int .u32 arch, .int .u32 number] w fun e w' => e = .returned (selAns arch number) ∧ Below w.heap.size w w' := by
  have h1 : 1 ≤ n := by omega
  refine callsIn_of_wp_marks Try.func36 rfl hf ?_ hro
  simp only [Try.ntmps36, List.size_toArray, List.length_cons, List.length_nil, Nat.reduceAdd, Nat.reduceSub, Array.replicate_succ, Array.replicate_zero, List.push_toArray, List.append_toArray, List.nil_append, List.cons_append]
  gi_wp2_with (gi_at_call 47; refine (rows_in F (n - 1) hf1 hro _).mono ?_; rintro e w' ⟨rfl, rfl⟩)
  · rename_i hbit _ _
    have b0 := (((Boxed.new w 47 (.int .u32 arch)).alloc (.cells #[.int .i64 0] 3)).alloc (.cells #[.bool false] 4)).alloc (.cells #[.bool false] 4)
    have b1 := ((Boxed.new (w.alloc (.cells #[.int .u32 arch] 47)) 3 (.int .i64 0)).alloc (.cells #[.bool false] 4)).alloc (.cells #[.bool false] 4)
    have b2 := (Boxed.new ((w.alloc (.cells #[.int .u32 arch] 47)).alloc (.cells #[.int .i64 0] 3)) 4 (.bool false)).alloc (.cells #[.bool false] 4)
    have b3 := Boxed.new (((w.alloc (.cells #[.int .u32 arch] 47)).alloc (.cells #[.int .i64 0] 3)).alloc (.cells #[.bool false] 4)) 4 (.bool false)
    simp only [World.size_alloc] at b1 b2 b3
    have hB0 : Below w.heap.size w ((((w.alloc (.cells #[.int .u32 arch] 47)).alloc (.cells #[.int .i64 0] 3)).alloc (.cells #[.bool false] 4)).alloc (.cells #[.bool false] 4)) := ((((Below.refl _ w).alloc (Nat.le_refl _) _).alloc (by simp) _).alloc (by simp; omega) _).alloc (by simp; omega) _
    have hsz : ((((w.alloc (.cells #[.int .u32 arch] 47)).alloc (.cells #[.int .i64 0] 3)).alloc (.cells #[.bool false] 4)).alloc (.cells #[.bool false] 4)).heap.size = w.heap.size + 4 := by simp
    have hc3 : Value.bool false = Value.bool (selWith number) := by first | rfl | (simp only [selWith]; simp [*])
    obtain ⟨W0, hW0⟩ : ∃ W0, ((((w.alloc (.cells #[.int .u32 arch] 47)).alloc (.cells #[.int .i64 0] 3)).alloc (.cells #[.bool false] 4)).alloc (.cells #[.bool false] 4)) = W0 := ⟨_, rfl⟩
    rw [hW0] at b0 b1 b2 b3 hB0 hsz ⊢
    rw [hc3] at b3
    clear hW0 hc3
    refine wpIn_rangeFunc_ownH hro h1 (gf := 50) (lb := #[]) rfl hf2 (enters_of Try.func50 (by kernel_rfl) rfl)
      (rows1_in F (n - 1) hf2 hro (by omega) W0) (fun _ _ => trivial) (fun _ _ _ _ _ _ _ _ => trivial) (Below.refl _ _) (fun _ => rfl)
      (fun pre W => ((((Boxed W w.heap.size 47 (.int .u32 arch) ∧ Boxed W (w.heap.size + 1) 3 (.int .i64 0)) ∧ Boxed W (w.heap.size + 1 + 1) 4 (.bool false)) ∧ Boxed W (w.heap.size + 1 + 1 + 1) 4 (.bool (selWith number))) ∧ Below w.heap.size w W) ∧ selFind arch (selWith number) pre = none)
      (fun c pre W => (c = .ret ∧ ∃ x, selFind arch (selWith number) pre = some x ∧ Boxed W (w.heap.size + 1) 3 (.int .i64 x.n)) ∧ (Boxed W (w.heap.size + 1 + 1) 4 (.bool true) ∧ Below w.heap.size w W))
      (OwnFrom.and (OwnFrom.and (OwnFrom.and (OwnFrom.and (OwnFrom.and (Own.from (boxed_own _ _ _) _) (Own.from (boxed_own _ _ _) _)) (Own.from (boxed_own _ _ _) _)) (Own.from (boxed_own _ _ _) _)) (ownFrom_below (Nat.le_refl _) (by omega))) (ownFrom_pure _ _))
      (fun c => OwnFrom.and (fun pre X Y row hs hg hr => by obtain ⟨hc, x, hx, hb⟩ := hs; exact ⟨hc, x, hx, boxed_own _ _ (fun (_ : Unit) => Value.int .i64 x.n) () X Y row hb hg (fun r e => (hr r e).2)⟩) (OwnFrom.and (Own.from (boxed_own _ _ _) _) (ownFrom_below (Nat.le_refl _) (by omega))))
      ⟨⟨⟨⟨⟨b0, b1⟩, b2⟩, b3⟩, hB0⟩, rfl⟩
      (fun x a' W => ∃ Bx, (w.heap.size + 4 ≤ Bx ∧ W.heap[Bx]? = some (.cells #[.string x.name, .int .u32 x.token, .bool x.bit, .int .i64 x.bits] 89 (0, 0))) ∧ a' = { tmps := #[.int .u32 arch, .int .u32 number, .pointer (some ⟨w.heap.size, 0, none⟩), undef, .pointer (some ⟨w.heap.size + 1, 0, none⟩), .pointer (some ⟨w.heap.size + 1 + 1, 0, none⟩), .pointer (some ⟨w.heap.size + 1 + 1 + 1, 0, none⟩), .int .i64 x.n, .pointer (some ⟨Bx, 0, none⟩), .int .u32 number, .int .u32 0, .bool false, .bool false, undef, undef, .bool false, .func (.func 50) #[] #[], .int .i64 x.n, .agg #[.string x.name, .int .u32 x.token, .bool x.bit, .int .i64 x.bits], undef, undef, undef, undef, undef, undef, undef, undef, undef, undef, undef, undef, undef, undef, undef, undef, undef, undef, undef], defers := [] })
      (fun x a' u X Y row hs hg hr => by
        obtain ⟨Bx, ⟨h1, h2⟩, h3⟩ := hs
        refine ⟨Bx, ⟨h1, ?_⟩, h3⟩
        refine (hg.block Bx (Array.getElem?_eq_some_iff.1 h2).1 (fun e => ?_)).trans h2
        obtain ⟨_, o, ho, hcc⟩ := hr Bx e.symm
        rw [h2] at ho; cases ho; cases hcc)
      ?assign ?body ?done ?stop
    case assign =>
      rintro l pre x W K ⟨⟨⟨⟨⟨c0, c1⟩, c2⟩, c3⟩, hB1⟩, hsel⟩ hK
      have hsW := hB1.size
      gi_wp2
      refine hK _ _ (((KeepsOthers.alloc _ _)).from _) trivial ⟨⟨⟨⟨⟨c0.alloc _, c1.alloc _⟩, c2.alloc _⟩, c3.alloc _⟩, hB1.alloc hsW _⟩, hsel⟩ ⟨W.heap.size, ⟨by have := c3.lt; omega, World.alloc_heap_new _ _⟩, rfl⟩
    case body =>
      rintro l pre x a' W hl ⟨r, hr⟩ ⟨⟨⟨⟨⟨c0, c1⟩, c2⟩, c3⟩, hB1⟩, hsel⟩ ⟨Bx, ⟨hBx, hX⟩, rfl⟩ hlt
      have k0 := c0.cell
      have k1 := c1.cell
      have k2 := c2.cell
      have k3 := c3.cell
      have f1 := c1.frozen
      have f2 := c2.frozen
      have x0 := cell_of_row W Bx 0 _ _ _ hX
      have x1 := cell_of_row W Bx 1 _ _ _ hX
      have x2 := cell_of_row W Bx 2 _ _ _ hX
      have x3 := cell_of_row W Bx 3 _ _ _ hX
      simp only [List.getElem?_toArray, List.getElem?_cons_zero, List.getElem?_cons_succ] at x0 x1 x2 x3
      gi_wp2
      all_goals first
        | refine ⟨((KeepsOthers.setCell _ _ _).trans (KeepsOthers.setCell _ _ _)).from _, ⟨rfl, x, selFind_hit hsel ?_, (by first | exact (c1.set _).other (B' := w.heap.size + 1 + 1) (by omega) _ | (rw [‹x.n = 0›]; exact (c1.set _).other (B' := w.heap.size + 1 + 1) (by omega) _) | (rw [‹x.n = 1›]; exact (c1.set _).other (B' := w.heap.size + 1 + 1) (by omega) _))⟩, (c2.other (B' := w.heap.size + 1) (by omega) _).set _, (hB1.setCell (p := ⟨w.heap.size + 1, 0, none⟩) (by simp) _).setCell (p := ⟨w.heap.size + 1 + 1, 0, none⟩) (by simp; omega) _⟩
        | refine ⟨KeepsFrom.refl _ _, trivial, ⟨⟨⟨⟨c0, c1⟩, c2⟩, c3⟩, hB1⟩, selFind_miss hsel ?_⟩
      all_goals (clear x0 x1 x2 x3 k0 k1 k2 k3 hX hr; simp_all [selRow])
    case done =>
      rintro D xs W hD rfl ⟨⟨⟨⟨⟨c0, c1⟩, c2⟩, c3⟩, hB1⟩, hsel⟩ hK
      have k1 := c1.cell
      have k2 := c2.cell
      have f1 := c1.frozen
      have f2 := c2.frozen
      gi_wp2
      have hK' := ((KeepsOthers.setCell W ⟨w.heap.size + 1, 0, none⟩ (.int .i64 0)).trans (KeepsOthers.setCell _ ⟨w.heap.size + 1 + 1, 0, none⟩ (.bool false))).same D _ hK rfl
      refine ⟨by simp, .inl ⟨_, _, rfl, run_takeDeferred hK', ?_⟩⟩
      have d1 := cell_kept ((c1.set (.int .i64 0)).other (B' := w.heap.size + 1 + 1) (by omega) (.bool false)).cell (grownBy_putObj' _ D (.deferred none)) (fun r e => by cases e; exact ⟨_, hK', rfl⟩)
      have d2 := cell_kept ((c2.other (B' := w.heap.size + 1) (by omega) (.int .i64 0)).set (.bool false)).cell (grownBy_putObj' _ D (.deferred none)) (fun r e => by cases e; exact ⟨_, hK', rfl⟩)
      have hb := ((hB1.setCell (p := ⟨w.heap.size + 1, 0, none⟩) (by simp) (.int .i64 0)).setCell (p := ⟨w.heap.size + 1 + 1, 0, none⟩) (by simp; omega) (.bool false)).trans (belowK_b (w := w) (Nat.le_refl _) _ D _ (.deferred none) (by omega) hK' rfl rfl)
      refine ⟨.tuple #[.int .i64 0, .bool false], ?_, by simp only [selAns, hsel], hb⟩
      simp [results, Try.f36, go_sem, d1, d2]
    case stop =>
      rintro D c pre W hD hS ⟨⟨rfl, x, hx, c1⟩, c2, hB1⟩ hK
      gi_wp2
      have d1 := cell_kept c1.cell (grownBy_putObj' _ D (.deferred none)) (fun r e => by cases e; exact ⟨_, hK, rfl⟩)
      have d2 := cell_kept c2.cell (grownBy_putObj' _ D (.deferred none)) (fun r e => by cases e; exact ⟨_, hK, rfl⟩)
      refine ⟨by simp, .inl ⟨_, _, rfl, run_takeDeferred hK, ?_⟩⟩
      refine ⟨.tuple #[.int .i64 x.n, .bool true], ?_, by simp only [selAns, selFind_pre hx hS], hB1.trans (belowK_b (w := w) (Nat.le_refl _) _ D _ (.deferred none) (by omega) hK rfl rfl)⟩
      simp [results, Try.f36, go_sem, d1, d2]
  · rename_i hbit _ _
    have b0 := (((Boxed.new w 47 (.int .u32 arch)).alloc (.cells #[.int .i64 0] 3)).alloc (.cells #[.bool false] 4)).alloc (.cells #[.bool (bits BinOp.and IntKind.u32 number 1073741824 != 0 && number != 4294967295)] 4)
    have b1 := ((Boxed.new (w.alloc (.cells #[.int .u32 arch] 47)) 3 (.int .i64 0)).alloc (.cells #[.bool false] 4)).alloc (.cells #[.bool (bits BinOp.and IntKind.u32 number 1073741824 != 0 && number != 4294967295)] 4)
    have b2 := (Boxed.new ((w.alloc (.cells #[.int .u32 arch] 47)).alloc (.cells #[.int .i64 0] 3)) 4 (.bool false)).alloc (.cells #[.bool (bits BinOp.and IntKind.u32 number 1073741824 != 0 && number != 4294967295)] 4)
    have b3 := Boxed.new (((w.alloc (.cells #[.int .u32 arch] 47)).alloc (.cells #[.int .i64 0] 3)).alloc (.cells #[.bool false] 4)) 4 (.bool (bits BinOp.and IntKind.u32 number 1073741824 != 0 && number != 4294967295))
    simp only [World.size_alloc] at b1 b2 b3
    have hB0 : Below w.heap.size w ((((w.alloc (.cells #[.int .u32 arch] 47)).alloc (.cells #[.int .i64 0] 3)).alloc (.cells #[.bool false] 4)).alloc (.cells #[.bool (bits BinOp.and IntKind.u32 number 1073741824 != 0 && number != 4294967295)] 4)) := ((((Below.refl _ w).alloc (Nat.le_refl _) _).alloc (by simp) _).alloc (by simp; omega) _).alloc (by simp; omega) _
    have hsz : ((((w.alloc (.cells #[.int .u32 arch] 47)).alloc (.cells #[.int .i64 0] 3)).alloc (.cells #[.bool false] 4)).alloc (.cells #[.bool (bits BinOp.and IntKind.u32 number 1073741824 != 0 && number != 4294967295)] 4)).heap.size = w.heap.size + 4 := by simp
    have hc3 : Value.bool (bits BinOp.and IntKind.u32 number 1073741824 != 0 && number != 4294967295) = Value.bool (selWith number) := by first | rfl | (simp only [selWith]; simp [*])
    obtain ⟨W0, hW0⟩ : ∃ W0, ((((w.alloc (.cells #[.int .u32 arch] 47)).alloc (.cells #[.int .i64 0] 3)).alloc (.cells #[.bool false] 4)).alloc (.cells #[.bool (bits BinOp.and IntKind.u32 number 1073741824 != 0 && number != 4294967295)] 4)) = W0 := ⟨_, rfl⟩
    rw [hW0] at b0 b1 b2 b3 hB0 hsz ⊢
    rw [hc3] at b3
    clear hW0 hc3
    refine wpIn_rangeFunc_ownH hro h1 (gf := 50) (lb := #[]) rfl hf2 (enters_of Try.func50 (by kernel_rfl) rfl)
      (rows1_in F (n - 1) hf2 hro (by omega) W0) (fun _ _ => trivial) (fun _ _ _ _ _ _ _ _ => trivial) (Below.refl _ _) (fun _ => rfl)
      (fun pre W => ((((Boxed W w.heap.size 47 (.int .u32 arch) ∧ Boxed W (w.heap.size + 1) 3 (.int .i64 0)) ∧ Boxed W (w.heap.size + 1 + 1) 4 (.bool false)) ∧ Boxed W (w.heap.size + 1 + 1 + 1) 4 (.bool (selWith number))) ∧ Below w.heap.size w W) ∧ selFind arch (selWith number) pre = none)
      (fun c pre W => (c = .ret ∧ ∃ x, selFind arch (selWith number) pre = some x ∧ Boxed W (w.heap.size + 1) 3 (.int .i64 x.n)) ∧ (Boxed W (w.heap.size + 1 + 1) 4 (.bool true) ∧ Below w.heap.size w W))
      (OwnFrom.and (OwnFrom.and (OwnFrom.and (OwnFrom.and (OwnFrom.and (Own.from (boxed_own _ _ _) _) (Own.from (boxed_own _ _ _) _)) (Own.from (boxed_own _ _ _) _)) (Own.from (boxed_own _ _ _) _)) (ownFrom_below (Nat.le_refl _) (by omega))) (ownFrom_pure _ _))
      (fun c => OwnFrom.and (fun pre X Y row hs hg hr => by obtain ⟨hc, x, hx, hb⟩ := hs; exact ⟨hc, x, hx, boxed_own _ _ (fun (_ : Unit) => Value.int .i64 x.n) () X Y row hb hg (fun r e => (hr r e).2)⟩) (OwnFrom.and (Own.from (boxed_own _ _ _) _) (ownFrom_below (Nat.le_refl _) (by omega))))
      ⟨⟨⟨⟨⟨b0, b1⟩, b2⟩, b3⟩, hB0⟩, rfl⟩
      (fun x a' W => ∃ Bx, (w.heap.size + 4 ≤ Bx ∧ W.heap[Bx]? = some (.cells #[.string x.name, .int .u32 x.token, .bool x.bit, .int .i64 x.bits] 89 (0, 0))) ∧ a' = { tmps := #[.int .u32 arch, .int .u32 number, .pointer (some ⟨w.heap.size, 0, none⟩), undef, .pointer (some ⟨w.heap.size + 1, 0, none⟩), .pointer (some ⟨w.heap.size + 1 + 1, 0, none⟩), .pointer (some ⟨w.heap.size + 1 + 1 + 1, 0, none⟩), .int .i64 x.n, .pointer (some ⟨Bx, 0, none⟩), .int .u32 number, .int .u32 (bits BinOp.and IntKind.u32 number 1073741824), .bool (bits BinOp.and IntKind.u32 number 1073741824 != 0), .bool (bits BinOp.and IntKind.u32 number 1073741824 != 0), .int .u32 number, .bool (number != 4294967295), .bool (bits BinOp.and IntKind.u32 number 1073741824 != 0 && number != 4294967295), .func (.func 50) #[] #[], .int .i64 x.n, .agg #[.string x.name, .int .u32 x.token, .bool x.bit, .int .i64 x.bits], undef, undef, undef, undef, undef, undef, undef, undef, undef, undef, undef, undef, undef, undef, undef, undef, undef, undef, undef], defers := [] })
      (fun x a' u X Y row hs hg hr => by
        obtain ⟨Bx, ⟨h1, h2⟩, h3⟩ := hs
        refine ⟨Bx, ⟨h1, ?_⟩, h3⟩
        refine (hg.block Bx (Array.getElem?_eq_some_iff.1 h2).1 (fun e => ?_)).trans h2
        obtain ⟨_, o, ho, hcc⟩ := hr Bx e.symm
        rw [h2] at ho; cases ho; cases hcc)
      ?assign ?body ?done ?stop
    case assign =>
      rintro l pre x W K ⟨⟨⟨⟨⟨c0, c1⟩, c2⟩, c3⟩, hB1⟩, hsel⟩ hK
      have hsW := hB1.size
      gi_wp2
      refine hK _ _ (((KeepsOthers.alloc _ _)).from _) trivial ⟨⟨⟨⟨⟨c0.alloc _, c1.alloc _⟩, c2.alloc _⟩, c3.alloc _⟩, hB1.alloc hsW _⟩, hsel⟩ ⟨W.heap.size, ⟨by have := c3.lt; omega, World.alloc_heap_new _ _⟩, rfl⟩
    case body =>
      rintro l pre x a' W hl ⟨r, hr⟩ ⟨⟨⟨⟨⟨c0, c1⟩, c2⟩, c3⟩, hB1⟩, hsel⟩ ⟨Bx, ⟨hBx, hX⟩, rfl⟩ hlt
      have k0 := c0.cell
      have k1 := c1.cell
      have k2 := c2.cell
      have k3 := c3.cell
      have f1 := c1.frozen
      have f2 := c2.frozen
      have x0 := cell_of_row W Bx 0 _ _ _ hX
      have x1 := cell_of_row W Bx 1 _ _ _ hX
      have x2 := cell_of_row W Bx 2 _ _ _ hX
      have x3 := cell_of_row W Bx 3 _ _ _ hX
      simp only [List.getElem?_toArray, List.getElem?_cons_zero, List.getElem?_cons_succ] at x0 x1 x2 x3
      gi_wp2
      all_goals first
        | refine ⟨((KeepsOthers.setCell _ _ _).trans (KeepsOthers.setCell _ _ _)).from _, ⟨rfl, x, selFind_hit hsel ?_, (by first | exact (c1.set _).other (B' := w.heap.size + 1 + 1) (by omega) _ | (rw [‹x.n = 0›]; exact (c1.set _).other (B' := w.heap.size + 1 + 1) (by omega) _) | (rw [‹x.n = 1›]; exact (c1.set _).other (B' := w.heap.size + 1 + 1) (by omega) _))⟩, (c2.other (B' := w.heap.size + 1) (by omega) _).set _, (hB1.setCell (p := ⟨w.heap.size + 1, 0, none⟩) (by simp) _).setCell (p := ⟨w.heap.size + 1 + 1, 0, none⟩) (by simp; omega) _⟩
        | refine ⟨KeepsFrom.refl _ _, trivial, ⟨⟨⟨⟨c0, c1⟩, c2⟩, c3⟩, hB1⟩, selFind_miss hsel ?_⟩
      all_goals (clear x0 x1 x2 x3 k0 k1 k2 k3 hX hr; simp_all [selRow])
    case done =>
      rintro D xs W hD rfl ⟨⟨⟨⟨⟨c0, c1⟩, c2⟩, c3⟩, hB1⟩, hsel⟩ hK
      have k1 := c1.cell
      have k2 := c2.cell
      have f1 := c1.frozen
      have f2 := c2.frozen
      gi_wp2
      have hK' := ((KeepsOthers.setCell W ⟨w.heap.size + 1, 0, none⟩ (.int .i64 0)).trans (KeepsOthers.setCell _ ⟨w.heap.size + 1 + 1, 0, none⟩ (.bool false))).same D _ hK rfl
      refine ⟨by simp, .inl ⟨_, _, rfl, run_takeDeferred hK', ?_⟩⟩
      have d1 := cell_kept ((c1.set (.int .i64 0)).other (B' := w.heap.size + 1 + 1) (by omega) (.bool false)).cell (grownBy_putObj' _ D (.deferred none)) (fun r e => by cases e; exact ⟨_, hK', rfl⟩)
      have d2 := cell_kept ((c2.other (B' := w.heap.size + 1) (by omega) (.int .i64 0)).set (.bool false)).cell (grownBy_putObj' _ D (.deferred none)) (fun r e => by cases e; exact ⟨_, hK', rfl⟩)
      have hb := ((hB1.setCell (p := ⟨w.heap.size + 1, 0, none⟩) (by simp) (.int .i64 0)).setCell (p := ⟨w.heap.size + 1 + 1, 0, none⟩) (by simp; omega) (.bool false)).trans (belowK_b (w := w) (Nat.le_refl _) _ D _ (.deferred none) (by omega) hK' rfl rfl)
      refine ⟨.tuple #[.int .i64 0, .bool false], ?_, by simp only [selAns, hsel], hb⟩
      simp [results, Try.f36, go_sem, d1, d2]
    case stop =>
      rintro D c pre W hD hS ⟨⟨rfl, x, hx, c1⟩, c2, hB1⟩ hK
      gi_wp2
      have d1 := cell_kept c1.cell (grownBy_putObj' _ D (.deferred none)) (fun r e => by cases e; exact ⟨_, hK, rfl⟩)
      have d2 := cell_kept c2.cell (grownBy_putObj' _ D (.deferred none)) (fun r e => by cases e; exact ⟨_, hK, rfl⟩)
      refine ⟨by simp, .inl ⟨_, _, rfl, run_takeDeferred hK, ?_⟩⟩
      refine ⟨.tuple #[.int .i64 x.n, .bool true], ?_, by simp only [selAns, selFind_pre hx hS], hB1.trans (belowK_b (w := w) (Nat.le_refl _) _ D _ (.deferred none) (by omega) hK rfl rfl)⟩
      simp [results, Try.f36, go_sem, d1, d2]
end Go.Proofs.Ytakmbmlpgmppiaa
