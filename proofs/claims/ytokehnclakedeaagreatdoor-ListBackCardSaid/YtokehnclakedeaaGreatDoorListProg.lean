/- list.Program: the instructions of a text, or which line is wrong. -/
import Derived.Test.YtokehnclakedeaaGreatDoorListProgP
import Derived.Test.YtokehnclakedeaaGreatDoorLexIt
import Derived.Maps.AppendAt
import Derived.BigFrameIn
import Derived.Sort.CutIn
namespace Go.Proofs.YtokehnclakedeaaGreatDoor
open Go Go.Proofs Go.RowKit Go.Shelf
attribute [local go_sem] Oper.semAt_some

theorem infoIns : (Tryz.prog.info? 25).map (fun i => (i.zero, i.size, i.bytes)) = some (some (.agg #[.int .u16 0, .int .u8 0, .int .u8 0, .int .u32 0]), 4, 8) := by kernel_rfl
theorem blk_abidesP {α : Type} {own : Nat → Prop} {b : Nat} (hb : ¬ own b) (t : TypeId) (f : α → Array Value) : AbidesR own (fun (s : α) W => Blk W b t (f s)) := abidesR_block hb (fun s => .cells (f s) t (0, 0))
theorem ownsRow_belowP {W W' : World} {B e size n : Nat} {v : Value} {xs : List Value} (h : W.ownsRow B e size v n xs) (hb : Below W.heap.size W W') : W'.ownsRow B e size v n xs := by
  refine ⟨h.1, ?_⟩
  rcases h.2 with h2 | ⟨g, cap, cur, h1, h2, h3, h4⟩
  · exact .inl h2
  · exact .inr ⟨g, cap, cur, h1, h2, (hb.block g (Array.getElem?_eq_some_iff.1 h3).1).trans h3, h4⟩
theorem ownsRow_grownP {W W' : World} {B e size n : Nat} {v : Value} {xs : List Value} {row : Option Nat} (h : W.ownsRow B e size v n xs) (hg : W.grownBy W' row) (hr : ∀ r, row = some r → r < B) : W'.ownsRow B e size v n xs := by
  refine ⟨h.1, ?_⟩
  rcases h.2 with h2 | ⟨g, cap, cur, h1, h2, h3, h4⟩
  · exact .inl h2
  · exact .inr ⟨g, cap, cur, h1, h2, (hg.block g (Array.getElem?_eq_some_iff.1 h3).1 (fun e => by have := hr g e.symm; omega)).trans h3, h4⟩
theorem ownsRow_monoP {W : World} {B B' e size n : Nat} {v : Value} {xs : List Value} (h : W.ownsRow B e size v n xs) (hb : B' ≤ B) : W.ownsRow B' e size v n xs := by
  refine ⟨h.1, ?_⟩
  rcases h.2 with h2 | ⟨g, cap, cur, h1, h2, h3⟩
  · exact .inl h2
  · exact .inr ⟨g, cap, cur, h1, Nat.le_trans hb h2, h3⟩
theorem grownBy_setP (W : World) (l j : Nat) (v : Value) : W.grownBy (W.setCell ⟨l, j, none⟩ v) (some l) :=
  ⟨rfl, rfl, rfl, by show W.heap.size ≤ (W.heap.modify l _).size; rw [Array.size_modify]; exact Nat.le_refl _, fun k _ hk => Below.heap_setCell W _ v k (fun e => hk (by rw [e]))⟩
/-- Where the loop over the lines stands. -/
def ProgI (h : Nat) (w : World) (pre : List ByteArray) (W : World) : Prop :=
  ((((((∃ v, Blk W (h + 3) 37 #[v] ∧ W.ownsRow (h + 10) 25 4 v (accP pre).length (flatI (accP pre))) ∧ Blk W h 37 #[.slice none 0 0]) ∧ Blk W (h + 1) 3 #[.int .i64 0]) ∧ Blk W (h + 2) 26 #[.int .i64 0]) ∧ Blk W (h + 4) 3 #[.int .i64 (pre.length : Int)]) ∧ Below h w W) ∧ (∀ x ∈ pre, okP x = true)
def ProgX (h : Nat) (w : World) (c : Code) (pre : List ByteArray) (W : World) : Prop :=
  c = .ret ∧ ∃ init x, (pre = init ++ [x] ∧ (∀ y ∈ init, okP y = true) ∧ okP x = false) ∧ ((Blk W h 37 #[.slice none 0 0] ∧ Blk W (h + 1) 3 #[.int .i64 ((init.length : Int) + 1)]) ∧ Blk W (h + 2) 26 #[.int .i64 ((ansB x).2 : Int)]) ∧ Below h w W
theorem progI_abides {h : Nat} {w : World} (hw : h = w.heap.size) {own : Nat → Prop} (ho : ∀ r, own r → h + 5 ≤ r ∧ r < h + 10) : AbidesR own (ProgI h w) := by
  have hb : ∀ b, b < h + 5 → ¬ own b := fun b hb hc => by have := ho b hc; omega
  refine AbidesR.and (AbidesR.and (AbidesR.and (AbidesR.and (AbidesR.and (AbidesR.and ?_ (blk_abidesP (hb _ (by omega)) _ (fun _ => _))) (blk_abidesP (hb _ (by omega)) _ (fun _ => _))) (blk_abidesP (hb _ (by omega)) _ (fun _ => _))) (blk_abidesP (hb _ (by omega)) _ (fun s : List ByteArray => #[.int .i64 (s.length : Int)]))) (abidesR_below (by omega) (fun r hr => by have := ho r hr; omega))) (abidesR_pure _ _)
  intro s A B row hs hg hr
  obtain ⟨v, h1, h2⟩ := hs
  exact ⟨v, blk_abidesP (hb _ (by omega)) _ (fun (_ : Unit) => #[v]) () A B row h1 hg hr, ownsRow_grownP h2 hg (fun r e => (ho r (hr r e)).2)⟩
theorem progX_abides {h : Nat} {w : World} (hw : h = w.heap.size) {own : Nat → Prop} (ho : ∀ r, own r → h + 5 ≤ r ∧ r < h + 10) (c : Code) : AbidesR own (ProgX h w c) := by
  have hb : ∀ b, b < h + 5 → ¬ own b := fun b hb hc => by have := ho b hc; omega
  refine AbidesR.and (abidesR_pure _ _) ?_
  intro s A B row hs hg hr
  obtain ⟨init, x, hp, ⟨⟨h1, h2⟩, h3⟩, h4⟩ := hs
  exact ⟨init, x, hp, ⟨⟨blk_abidesP (hb _ (by omega)) _ (fun (_ : Unit) => _) () A B row h1 hg hr, blk_abidesP (hb _ (by omega)) _ (fun (_ : Unit) => _) () A B row h2 hg hr⟩, blk_abidesP (hb _ (by omega)) _ (fun (_ : Unit) => _) () A B row h3 hg hr⟩,
    abidesR_below (β := Unit) (by omega) (fun r hr => by have := ho r hr; omega) () A B row h4 hg hr⟩

set_option maxRecDepth 100000 in
theorem program_long (t : ByteArray) (ht : 65536 < t.size) (w : World) :
    Calls Tryz.prog 11 #[.string t] w fun e w' => e = .returned (.tuple #[.slice none 0 0, .int .i64 0, .int .i64 3]) ∧ Below w.heap.size w w' := by
  have hz : (65536 : Int) < (t.size : Int) := by omega
  go_enter Tryz.func11, Tryz.ntmps11
  go_wp2
  refine bodyPost_ret (v := .tuple #[.slice none 0 0, .int .i64 0, .int .i64 3]) (by simp [results, Tryz.results11, go_sem]) rfl ⟨rfl, ?_⟩
  exact (((Below.refl _ w).alloc (Nat.le_refl _) _).alloc (by simp) _).alloc (by simp; omega) _

set_option maxRecDepth 100000 in
set_option maxHeartbeats 2000000 in
theorem program_in (n : Nat) (hn : 9 ≤ n) (t : ByteArray) (ht : t.size ≤ 65536) (w : World) (hT : AscT w) :
    CallsIn Fence.wide n Tryz.prog 11 #[.string t] w fun e w' => ∃ v, e = .returned (.tuple #[v, .int .i64 ((progAns t).2.1 : Int), .int .i64 ((progAns t).2.2 : Int)]) ∧ w'.ownsRow w.heap.size 25 4 v (progAns t).1.length (flatI (progAns t).1) ∧ Below w.heap.size w w' := by
  have hz : ¬ (65536 : Int) < (t.size : Int) := by omega
  have HT := Lib.hid hT
  clear hT
  refine callsIn_of_wp_marks Tryz.func11 rfl trivial ?_ rfl
  simp only [Tryz.ntmps11, List.size_toArray, List.length_cons, List.length_nil, Nat.reduceAdd, Nat.reduceSub, Array.replicate_succ, Array.replicate_zero, List.push_toArray, List.append_toArray, List.nil_append, List.cons_append]
  gi_wp2_with fail
  refine ⟨trivial, fun h => (by cases h), ?_⟩
  refine (callsIn_wide.2 (splitSeq_any t ⟨#[10]⟩ _)).mono ?_
  rintro e w1 ⟨rfl, rfl⟩
  gi_wp2
  -- THE WORLD AHEAD OF THE LOOP
  have b0 := ((((((((Blk.new w 37 #[.slice none 0 0]).alloc (.cells #[.int .i64 0] 3)).alloc (.cells #[.int .i64 0] 26)).alloc (.cells #[.slice none 0 0] 37)).alloc (.cells #[.int .i64 0] 3)).alloc (.cells #[.string t] 9)).alloc (.cells #[.string ⟨#[10]⟩] 9)).alloc (.cells #[.int .i64 0] 3))
  have b1 := (((((((Blk.new (w.alloc (.cells #[.slice none 0 0] 37)) 3 #[.int .i64 0]).alloc (.cells #[.int .i64 0] 26)).alloc (.cells #[.slice none 0 0] 37)).alloc (.cells #[.int .i64 0] 3)).alloc (.cells #[.string t] 9)).alloc (.cells #[.string ⟨#[10]⟩] 9)).alloc (.cells #[.int .i64 0] 3))
  have b2 := ((((((Blk.new ((w.alloc (.cells #[.slice none 0 0] 37)).alloc (.cells #[.int .i64 0] 3)) 26 #[.int .i64 0]).alloc (.cells #[.slice none 0 0] 37)).alloc (.cells #[.int .i64 0] 3)).alloc (.cells #[.string t] 9)).alloc (.cells #[.string ⟨#[10]⟩] 9)).alloc (.cells #[.int .i64 0] 3))
  have b3 := (((((Blk.new (((w.alloc (.cells #[.slice none 0 0] 37)).alloc (.cells #[.int .i64 0] 3)).alloc (.cells #[.int .i64 0] 26)) 37 #[.slice none 0 0]).alloc (.cells #[.int .i64 0] 3)).alloc (.cells #[.string t] 9)).alloc (.cells #[.string ⟨#[10]⟩] 9)).alloc (.cells #[.int .i64 0] 3))
  have b4 := ((((Blk.new ((((w.alloc (.cells #[.slice none 0 0] 37)).alloc (.cells #[.int .i64 0] 3)).alloc (.cells #[.int .i64 0] 26)).alloc (.cells #[.slice none 0 0] 37)) 3 #[.int .i64 0]).alloc (.cells #[.string t] 9)).alloc (.cells #[.string ⟨#[10]⟩] 9)).alloc (.cells #[.int .i64 0] 3))
  have b5 := (((Blk.new (((((w.alloc (.cells #[.slice none 0 0] 37)).alloc (.cells #[.int .i64 0] 3)).alloc (.cells #[.int .i64 0] 26)).alloc (.cells #[.slice none 0 0] 37)).alloc (.cells #[.int .i64 0] 3)) 9 #[.string t]).alloc (.cells #[.string ⟨#[10]⟩] 9)).alloc (.cells #[.int .i64 0] 3))
  have b6 := ((Blk.new ((((((w.alloc (.cells #[.slice none 0 0] 37)).alloc (.cells #[.int .i64 0] 3)).alloc (.cells #[.int .i64 0] 26)).alloc (.cells #[.slice none 0 0] 37)).alloc (.cells #[.int .i64 0] 3)).alloc (.cells #[.string t] 9)) 9 #[.string ⟨#[10]⟩]).alloc (.cells #[.int .i64 0] 3))
  have b7 := (Blk.new (((((((w.alloc (.cells #[.slice none 0 0] 37)).alloc (.cells #[.int .i64 0] 3)).alloc (.cells #[.int .i64 0] 26)).alloc (.cells #[.slice none 0 0] 37)).alloc (.cells #[.int .i64 0] 3)).alloc (.cells #[.string t] 9)).alloc (.cells #[.string ⟨#[10]⟩] 9)) 3 #[.int .i64 0])
  have hsz : ((((((((w.alloc (.cells #[.slice none 0 0] 37)).alloc (.cells #[.int .i64 0] 3)).alloc (.cells #[.int .i64 0] 26)).alloc (.cells #[.slice none 0 0] 37)).alloc (.cells #[.int .i64 0] 3)).alloc (.cells #[.string t] 9)).alloc (.cells #[.string ⟨#[10]⟩] 9)).alloc (.cells #[.int .i64 0] 3)).heap.size = w.heap.size + 8 := by simp
  have hb0 : Below w.heap.size w ((((((((w.alloc (.cells #[.slice none 0 0] 37)).alloc (.cells #[.int .i64 0] 3)).alloc (.cells #[.int .i64 0] 26)).alloc (.cells #[.slice none 0 0] 37)).alloc (.cells #[.int .i64 0] 3)).alloc (.cells #[.string t] 9)).alloc (.cells #[.string ⟨#[10]⟩] 9)).alloc (.cells #[.int .i64 0] 3)) := (((((((((Below.refl _ w).alloc (Nat.le_refl _) _).alloc (by simp) _).alloc (by simp; omega) _).alloc (by simp; omega) _).alloc (by simp; omega) _).alloc (by simp; omega) _).alloc (by simp; omega) _).alloc (by simp; omega) _)
  simp only [World.size_alloc] at b1 b2 b3 b4 b5 b6 b7
  generalize ((((((((w.alloc (.cells #[.slice none 0 0] 37)).alloc (.cells #[.int .i64 0] 3)).alloc (.cells #[.int .i64 0] 26)).alloc (.cells #[.slice none 0 0] 37)).alloc (.cells #[.int .i64 0] 3)).alloc (.cells #[.string t] 9)).alloc (.cells #[.string ⟨#[10]⟩] 9)).alloc (.cells #[.int .i64 0] 3)) = W0 at *
  generalize hh : w.heap.size = h at *
  have HH := Lib.hid hh
  clear hh
  refine wpIn_rangeFunc_ownR (F := Fence.wide) rfl (by omega) (gf := 50) (lb := #[.pointer (some ⟨h + 1 + 1 + 1 + 1 + 1 + 1, 0, none⟩), .pointer (some ⟨h + 1 + 1 + 1 + 1 + 1, 0, none⟩), .pointer (some ⟨h + 1 + 1 + 1 + 1 + 1 + 2, 0, none⟩)]) rfl trivial (enters_of Tryz.func50 (by kernel_rfl) rfl)
    (split1_in (n - 1) (by omega) t (by omega) (h + 1 + 1 + 1 + 1 + 1 + 1) (h + 1 + 1 + 1 + 1 + 1) (h + 1 + 1 + 1 + 1 + 1 + 2) W0 b6 b5 b7 (by omega) (by omega)) (fun r e => by omega) (fun r e => by omega) (Below.refl _ _) (fun _ => rfl)
    (ProgI h w) (ProgX h w)
    (progI_abides HH.out.symm (fun r e => by rcases e with e | e <;> omega))
    (fun c => progX_abides HH.out.symm (fun r e => by rcases e with e | e <;> omega) c)
    ⟨⟨⟨⟨⟨⟨⟨.slice none 0 0, b3, World.ownsRow_nil _ _ _ _⟩, b0⟩, b1⟩, b2⟩, b4⟩, hb0⟩, fun x hx => by simp at hx⟩
    (fun x a' _ => a' = { tmps := #[.string t, undef, .pointer (some ⟨h, 0, none⟩), .pointer (some ⟨h + 1, 0, none⟩), .pointer (some ⟨h + 1 + 1, 0, none⟩), .pointer (some ⟨h + 1 + 1 + 1, 0, none⟩), .pointer (some ⟨h + 1 + 1 + 1 + 1, 0, none⟩), .string x, undef, undef, .string t, .int .i64 (t.size : Int), .bool false, .string t, .func (.func 50) #[] #[.pointer (some ⟨h + 1 + 1 + 1 + 1 + 1 + 1, 0, none⟩), .pointer (some ⟨h + 1 + 1 + 1 + 1 + 1, 0, none⟩), .pointer (some ⟨h + 1 + 1 + 1 + 1 + 1 + 2, 0, none⟩)], .string x, undef, undef, undef, undef, undef, undef, undef, undef, undef, undef, undef, undef, undef, undef, undef, undef, undef, undef, undef], defers := [] })
    (fun x a' => abidesR_pure _ _) ?assign ?body ?done ?stop
  case assign =>
    rintro l' pre x W' K hi _ hs' hK
    gi_wp2
    exact hK _ _ (KeepsAt.refl _ _) hi rfl
  case body =>
    rintro l' pre xs a' W' hs' hsp hI rfl
    obtain ⟨⟨⟨⟨⟨⟨⟨v, c3, hL⟩, c0⟩, c1⟩, c2⟩, c4⟩, hB⟩, hall⟩ := hI
    have hx1 := pieces_size (hsp.subset (show xs ∈ pre ++ [xs] by simp))
    have hpl := hsp.length_le
    have hW7 : h + 10 ≤ W'.heap.size := by omega
    have hpl2 : pre.length + 1 ≤ 65537 := by
      rw [List.length_append, List.length_singleton] at hpl
      have := pieces_len t
      omega
    have hr := fun W hW => read3_any xs (by omega) W hW
    have hcd := listAns_code (l := xs.data.toList)
    have hok : okP xs = ((ansB xs).2 == 0 || (ansB xs).2 == 4) := rfl
    have hacc := accP_snoc pre xs
    have hal := accP_length_le pre
    rw [show listAns xs.data.toList = ansB xs from rfl] at hr hcd
    obtain ⟨⟨⟨c, jt, jf, k⟩, er⟩, hans⟩ : ∃ x, ansB xs = x := ⟨_, rfl⟩
    rw [hans] at hr hcd hok hacc
    have HAN := Lib.hid hans
    have HR := Lib.hid hr
    have HOK := Lib.hid hok
    have HACC := Lib.hid hacc
    have HC0 := Lib.hid c0
    have HC1 := Lib.hid c1
    have HC2 := Lib.hid c2
    have HC3 := Lib.hid c3
    have HC4 := Lib.hid c4
    have HL := Lib.hid hL
    have HB := Lib.hid hB
    have HALL := Lib.hid hall
    have z4 := c4.cell 0
    have y4 := c4.frozen 0
    simp only [List.getElem?_toArray, List.getElem?_cons_zero] at z4
    obtain ⟨np, hnp⟩ : ∃ np, pre.length = np := ⟨_, rfl⟩
    have HNP := Lib.hid hnp
    rw [hnp] at z4 hpl2 hal
    have np0 : (0 : Int) ≤ (np : Int) := by omega
    have npb : (np : Int) + 1 ≤ 65537 := by omega
    clear c0 c1 c2 c3 c4 hL hB hall hsp hpl b0 b1 b2 b3 b4 b5 b6 b7 hb0 hr hok hacc hans hx1 hnp
    have hcs : er = 0 ∨ er = 4 ∨ er = 13 := hcd
    clear hcd
    gi_wp2_with fail
    refine ⟨trivial, fun h => (by cases h), ?_⟩
    have hT1 : AscT (W'.setCell ⟨h + 1 + 1 + 1 + 1, 0, none⟩ (.int .i64 ((np : Int) + 1))) := HT.out.below (by rw [HH.out]; exact HB.out.setCell (p := ⟨h + 1 + 1 + 1 + 1, 0, none⟩) (by simp; omega) _)
    refine (CallsIn.inRound l' (callsIn_wide.2 (HR.out _ hT1))).mono ?_
    rintro e w1 ⟨he, hb1⟩
    obtain rfl : e = .returned (.tuple #[.agg #[.int .u16 (c : Int), .int .u8 (jt : Int), .int .u8 (jf : Int), .int .u32 (k : Int)], .int .i64 (er : Int)]) := he
    have HC01 : Hid (Blk w1 h 37 #[.slice none 0 0]) := (HC0.out.other (B' := h + 1 + 1 + 1 + 1) (by omega) 0 (.int .i64 ((np : Int) + 1))).below hb1 (by simp only [World.size_setCell]; exact HC0.out.lt)
    have HC11 : Hid (Blk w1 (h + 1) 3 #[.int .i64 0]) := (HC1.out.other (B' := h + 1 + 1 + 1 + 1) (by omega) 0 (.int .i64 ((np : Int) + 1))).below hb1 (by simp only [World.size_setCell]; exact HC1.out.lt)
    have HC21 : Hid (Blk w1 (h + 2) 26 #[.int .i64 0]) := (HC2.out.other (B' := h + 1 + 1 + 1 + 1) (by omega) 0 (.int .i64 ((np : Int) + 1))).below hb1 (by simp only [World.size_setCell]; exact HC2.out.lt)
    have HC31 : Hid (Blk w1 (h + 3) 37 #[v]) := (HC3.out.other (B' := h + 1 + 1 + 1 + 1) (by omega) 0 (.int .i64 ((np : Int) + 1))).below hb1 (by simp only [World.size_setCell]; exact HC3.out.lt)
    have HC41 : Hid (Blk w1 (h + 4) 3 #[.int .i64 ((np : Int) + 1)]) := (HC4.out.set 0 (.int .i64 ((np : Int) + 1))).below hb1 (by simp only [World.size_setCell]; exact HC4.out.lt)
    have HL1 := Lib.hid (ownsRow_belowP (ownsRow_grownP HL.out (grownBy_setP W' (h + 1 + 1 + 1 + 1) 0 (.int .i64 ((np : Int) + 1))) (fun r e => by cases e; omega)) hb1)
    have hX : Below h w (W'.setCell ⟨h + 1 + 1 + 1 + 1, 0, none⟩ (.int .i64 ((np : Int) + 1))) := HB.out.setCell (p := ⟨h + 1 + 1 + 1 + 1, 0, none⟩) (by simp; omega) _
    have HB1 := Lib.hid (hX.trans (hb1.mono (by simp only [World.size_setCell]; omega)))
    have HK1 : Hid (KeepsAt (roundKeeps (fun _ r => r = h + 1 + 1 + 1 + 1 + 1 + 1 ∨ r = h + 1 + 1 + 1 + 1 + 1 ∨ r = h + 1 + 1 + 1 + 1 + 1 + 2) W0.heap.size) W' w1) := (KeepsAt.setCell _ _ _ (fun hk => by rcases hk with hk | hk | hk | hk | hk <;> simp at hk <;> omega)).trans (KeepsAt.below hb1)
    have hW71 : h + 10 ≤ w1.heap.size := Nat.le_trans hW7 (by have := hb1.size; simp only [World.size_setCell] at this; exact this)
    have HNS : Hid (((pre ++ [xs]).length : Int) = (np : Int) + 1) := by show _ = _; rw [List.length_append, HNP.out]; rfl
    clear hb1 hX hT1 HC0 HC1 HC2 HC3 HC4 HL HB HR z4 y4
    gi_upto_region 9 with fail
    have HC02 := Lib.hid (HC01.out.alloc (.cells #[.int .u16 (c : Int), .int .u8 (jt : Int), .int .u8 (jf : Int), .int .u32 (k : Int)] 25))
    have HC12 := Lib.hid (HC11.out.alloc (.cells #[.int .u16 (c : Int), .int .u8 (jt : Int), .int .u8 (jf : Int), .int .u32 (k : Int)] 25))
    have HC22 := Lib.hid (HC21.out.alloc (.cells #[.int .u16 (c : Int), .int .u8 (jt : Int), .int .u8 (jf : Int), .int .u32 (k : Int)] 25))
    have HC32 := Lib.hid (HC31.out.alloc (.cells #[.int .u16 (c : Int), .int .u8 (jt : Int), .int .u8 (jf : Int), .int .u32 (k : Int)] 25))
    have HC42 := Lib.hid (HC41.out.alloc (.cells #[.int .u16 (c : Int), .int .u8 (jt : Int), .int .u8 (jf : Int), .int .u32 (k : Int)] 25))
    have HI2 := Lib.hid (Blk.new w1 25 #[.int .u16 (c : Int), .int .u8 (jt : Int), .int .u8 (jf : Int), .int .u32 (k : Int)])
    have HL2 := Lib.hid (ownsRow_belowP HL1.out ((Below.refl _ w1).alloc (Nat.le_refl _) (.cells #[.int .u16 (c : Int), .int .u8 (jt : Int), .int .u8 (jf : Int), .int .u32 (k : Int)] 25)))
    have HB2 := Lib.hid (HB1.out.alloc (by omega) (.cells #[.int .u16 (c : Int), .int .u8 (jt : Int), .int .u8 (jf : Int), .int .u32 (k : Int)] 25))
    have HK2 := Lib.hid (HK1.out.trans (KeepsAt.alloc w1 (.cells #[.int .u16 (c : Int), .int .u8 (jt : Int), .int .u8 (jf : Int), .int .u32 (k : Int)] 25)))
    have hW72 : h + 10 ≤ (w1.alloc (.cells #[.int .u16 (c : Int), .int .u8 (jt : Int), .int .u8 (jf : Int), .int .u32 (k : Int)] 25)).heap.size := by simp; omega
    clear HC01 HC11 HC21 HC31 HC41 HL1 HB1 HK1
    generalize w1.alloc (.cells #[.int .u16 (c : Int), .int .u8 (jt : Int), .int .u8 (jf : Int), .int .u32 (k : Int)] 25) = w2 at *
    generalize w1.heap.size = B8 at *
    rcases hcs with rfl | rfl | rfl
    · -- an instruction more
      have Hacc : Hid (accP (pre ++ [xs]) = accP pre ++ [(c, jt, jf, k)]) := by show _ = _; rw [HACC.out]; rfl
      have hallx : Hid (∀ y ∈ pre ++ [xs], okP y = true) := by
        intro y hy
        rcases List.mem_append.1 hy with hy | hy
        · exact HALL.out y hy
        · simp at hy; subst hy; exact HOK.out
      obtain ⟨i0, hi, hz0, hz1, hz2⟩ := info_parts infoIns
      obtain ⟨NL, hNL⟩ : ∃ NL, (accP pre).length = NL := ⟨_, rfl⟩
      rw [hNL] at hal HL2
      have HNL := Lib.hid hNL
      have c3 := HC32.out.cell 0
      have f3 := HC32.out.frozen 0
      have d0 := HI2.out.cell 0
      have d1 := HI2.out.cell 1
      have d2 := HI2.out.cell 2
      have d3 := HI2.out.cell 3
      simp only [List.getElem?_toArray, List.getElem?_cons_zero, List.getElem?_cons_succ] at c3 d0 d1 d2 d3
      have HA2 := Lib.hid (ownsRow_belowP HL2.out ((Below.refl _ w2).alloc (Nat.le_refl _) (.cells #[.int .u16 (c : Int), .int .u8 (jt : Int), .int .u8 (jf : Int), .int .u32 (k : Int)] 25)))
      have hlt3 : h + 3 < w2.heap.size := by omega
      have HV : Hid (∀ r, v.ownBlock = some r → h + 10 ≤ r) := fun r e => (HL2.out.lt r e).1
      have HV3 : Hid (some (h + 3) ≠ v.ownBlock) := fun e => by have := HV.out _ e.symm; omega
      have HCN := Lib.hid (HC32.out.alloc (.cells #[.int .u16 (c : Int), .int .u8 (jt : Int), .int .u8 (jf : Int), .int .u32 (k : Int)] 25))
      clear hNL HACC HOK
      gi_wp2_with (gi_at_builtin; refine wpListIn_append_own _ rfl _ _ 37 rfl (h + 10) 25 i0 (.agg #[.int .u16 0, .int .u8 0, .int .u8 0, .int .u32 0]) 4 8 Tryz.underlying37 hi hz0 hz1 hz2 rfl (by decide) v NL _ rfl HA2.out ⟨w2.heap.size, 0, none⟩ 1 1 [.int .u16 (c : Int), .int .u8 (jt : Int), .int .u8 (jf : Int), .int .u32 (k : Int)] rfl ?c1 ?c2 ?c3 ?c4 ?c5 ?c6 ?_; (case c1 => rfl); (case c2 => exact cells_newF w2 [.int .u16 (c : Int), .int .u8 (jt : Int), .int .u8 (jf : Int), .int .u32 (k : Int)] 25); (case c3 => simp [Value.oneCell']); (case c4 => unfold maxLen; omega); (case c5 => omega); (case c6 => simp; omega); intro v' w3 hown' hgrow _; obtain ⟨g', cap', rfl⟩ := ownsRow_succ hown'; have dd3 := HCN.out.kept hgrow HV3.out; have cc3 := dd3.cell 0; have ff3 := dd3.frozen 0; simp only [List.getElem?_toArray, List.getElem?_cons_zero] at cc3)
      have hbN : Below h w (w2.alloc (.cells #[.int .u16 (c : Int), .int .u8 (jt : Int), .int .u8 (jf : Int), .int .u32 (k : Int)] 25)) := HB2.out.alloc (by omega) _
      have hb3 := hbN.grown hgrow (by simp; omega) (fun k e => by have := HV.out k e; omega)
      have hLN : w3.ownsRow (h + 10) 25 4 (.slice (some ⟨g', 0, none⟩) (NL + 1) cap') (accP (pre ++ [xs])).length (flatI (accP (pre ++ [xs]))) := by
        rw [Hacc.out, flatI_snoc, List.length_append, HNL.out]
        exact hown'
      refine ⟨HK2.out.trans ((KeepsAt.alloc _ _).trans ((KeepsAt.grown hgrow ?k4).trans (KeepsAt.setCell _ _ _ ?k5))), ⟨⟨⟨⟨⟨⟨_, dd3.set 0 _, ownsRow_grownP hLN (grownBy_setP _ _ _ _) (fun r e => by cases e; omega)⟩, ?f0⟩, ?f1⟩, ?f2⟩, ?f4⟩, ?f3⟩, hallx.out⟩
      case k4 => intro r e hk; have := HV.out r e; rcases hk with hk | hk | hk | hk | hk <;> omega
      case k5 => intro hk; rcases hk with hk | hk | hk | hk | hk <;> simp at hk <;> omega
      case f0 => exact (((HC02.out.alloc _).kept hgrow (fun e => by have := HV.out _ e.symm; omega))).other (by omega) 0 _
      case f1 => exact (((HC12.out.alloc _).kept hgrow (fun e => by have := HV.out _ e.symm; omega))).other (by omega) 0 _
      case f2 => exact (((HC22.out.alloc _).kept hgrow (fun e => by have := HV.out _ e.symm; omega))).other (by omega) 0 _
      case f4 => rw [HNS.out]; exact (((HC42.out.alloc _).kept hgrow (fun e => by have := HV.out _ e.symm; omega))).other (by omega) 0 _
      case f3 => exact hb3.setCell (p := ⟨h + 1 + 1 + 1, 0, none⟩) (by simp; omega) _
    · -- no line that counts
      have Hacc : Hid (accP (pre ++ [xs]) = accP pre) := by show _ = _; rw [HACC.out]; simp
      have hallx : Hid (∀ y ∈ pre ++ [xs], okP y = true) := by
        intro y hy
        rcases List.mem_append.1 hy with hy | hy
        · exact HALL.out y hy
        · simp at hy; subst hy; exact HOK.out
      clear HACC HOK
      gi_wp2
      refine ⟨HK2.out, ⟨⟨⟨⟨⟨⟨v, HC32.out, ?g1⟩, HC02.out⟩, HC12.out⟩, HC22.out⟩, ?g2⟩, HB2.out⟩, hallx.out⟩
      case g1 => rw [Hacc.out]; exact HL2.out
      case g2 => rw [HNS.out]; exact HC42.out
    · -- a wrong line
      have hbad : Hid (okP xs = false) := HOK.out
      have her : Hid (((ansB xs).2 : Int) = 13) := by show _ = _; rw [HAN.out]; rfl
      clear HACC HOK HC32 HL2 HI2 HNS
      have z4 := HC42.out.cell 0
      have y0 := HC02.out.frozen 0
      have z0 := HC02.out.cell 0
      have y1 := HC12.out.frozen 0
      have z1 := HC12.out.cell 0
      have y2 := HC22.out.frozen 0
      have z2 := HC22.out.cell 0
      simp only [List.getElem?_toArray, List.getElem?_cons_zero] at z0 z1 z2 z4
      gi_wp2_with fail
      gi_region
      all_goals
        gi_wp2
        refine ⟨show KeepsAt _ _ (((w2.setCell ⟨h, 0, none⟩ (.slice none 0 0)).setCell ⟨h + 1, 0, none⟩ (.int .i64 ((np : Int) + 1))).setCell ⟨h + 1 + 1, 0, none⟩ (.int .i64 13)) from HK2.out.trans (((KeepsAt.setCell _ _ _ ?_).trans (KeepsAt.setCell _ _ _ ?_)).trans (KeepsAt.setCell _ _ _ ?_)), rfl, pre, xs, ⟨rfl, HALL.out, hbad.out⟩, ⟨⟨?_, ?_⟩, ?_⟩, ?_⟩
        · intro hk; rcases hk with hk | hk | hk | hk | hk <;> simp at hk <;> omega
        · intro hk; rcases hk with hk | hk | hk | hk | hk <;> simp at hk <;> omega
        · intro hk; rcases hk with hk | hk | hk | hk | hk <;> simp at hk <;> omega
        · exact ((HC02.out.set 0 (.slice none 0 0)).other (B' := h + 1) (by omega) 0 (.int .i64 ((np : Int) + 1))).other (B' := h + 1 + 1) (by omega) 0 (.int .i64 13)
        · rw [HNP.out]; exact ((HC12.out.other (B' := h) (by omega) 0 (.slice none 0 0)).set 0 (.int .i64 ((np : Int) + 1))).other (B' := h + 1 + 1) (by omega) 0 (.int .i64 13)
        · rw [her.out]; exact ((HC22.out.other (B' := h) (by omega) 0 (.slice none 0 0)).other (B' := h + 1) (by omega) 0 (.int .i64 ((np : Int) + 1))).set 0 (.int .i64 13)
        · exact (((HB2.out.setCell (p := ⟨h, 0, none⟩) (Nat.le_refl _) (.slice none 0 0)).setCell (p := ⟨h + 1, 0, none⟩) (by simp) (.int .i64 ((np : Int) + 1))).setCell (p := ⟨h + 1 + 1, 0, none⟩) (by simp; omega) (.int .i64 13)).drew
  case done =>
    rintro xs W' rfl hI hK
    obtain ⟨⟨⟨⟨⟨⟨⟨v, c3, hL⟩, c0⟩, c1⟩, c2⟩, c4⟩, hB⟩, hall⟩ := hI
    have hans := progAns_all ht hall
    have HANS := Lib.hid hans
    have HL := Lib.hid hL
    have HB := Lib.hid hB
    have HKK := Lib.hid hK
    have z3 := c3.cell 0
    have z0 := c0.cell 0
    have y0 := c0.frozen 0
    have z1 := c1.cell 0
    have y1 := c1.frozen 0
    have z2 := c2.cell 0
    have y2 := c2.frozen 0
    simp only [List.getElem?_toArray, List.getElem?_cons_zero] at z0 z1 z2 z3
    have hvs : ∃ a cc, v = .slice a (accP (piecesB t)).length cc := by
      rcases hL.2 with ⟨h, h0⟩ | ⟨g, c, _, h, _⟩
      · exact ⟨none, 0, by rw [h, h0]⟩
      · exact ⟨_, _, h⟩
    obtain ⟨a, cc, hv⟩ := hvs
    obtain ⟨NL, hNL⟩ : ∃ NL, (accP (piecesB t)).length = NL := ⟨_, rfl⟩
    rw [hNL] at hv
    subst hv
    have HC0 := Lib.hid c0
    have HC1 := Lib.hid c1
    have HC2 := Lib.hid c2
    clear hans hL hB hK hall c0 c1 c2 c3 c4 b0 b1 b2 b3 b4 b5 b6 b7 hb0 hNL
    gi_wp2
    have hK' := (((KeepsOthers.setCell _ ⟨h, 0, none⟩ (.slice a NL cc)).trans (KeepsOthers.setCell _ ⟨h + 1, 0, none⟩ (.int .i64 0))).trans (KeepsOthers.setCell _ ⟨h + 1 + 1, 0, none⟩ (.int .i64 0))).same _ _ HKK.out rfl
    refine ⟨by simp, .inl ⟨_, _, rfl, run_takeDeferred hK', ?_⟩⟩
    have d0 := (((HC0.out.set 0 (.slice a NL cc)).other (B' := h + 1) (by omega) 0 (.int .i64 0)).other (B' := h + 1 + 1) (by omega) 0 (.int .i64 0)).put (.deferred none) (l := W0.heap.size) (by omega)
    have d1 := (((HC1.out.other (B' := h) (by omega) 0 (.slice a NL cc)).set 0 (.int .i64 0)).other (B' := h + 1 + 1) (by omega) 0 (.int .i64 0)).put (.deferred none) (l := W0.heap.size) (by omega)
    have d2 := (((HC2.out.other (B' := h) (by omega) 0 (.slice a NL cc)).other (B' := h + 1) (by omega) 0 (.int .i64 0)).set 0 (.int .i64 0)).put (.deferred none) (l := W0.heap.size) (by omega)
    have e0 := d0.cell 0
    have e1 := d1.cell 0
    have e2 := d2.cell 0
    simp at e0 e1 e2
    refine ⟨.tuple #[.slice a NL cc, .int .i64 0, .int .i64 0], ?_, _, by rw [HANS.out]; rfl, ?_, ?_⟩
    · simp [results, Tryz.f11, go_sem, e0, e1, e2]
    · rw [HANS.out]
      refine ownsRow_monoP (ownsRow_grownP (ownsRow_grownP (ownsRow_grownP (ownsRow_grownP HL.out (grownBy_setP _ _ _ _) ?_) (grownBy_setP _ _ _ _) ?_) (grownBy_setP _ _ _ _) ?_) (grownBy_putObj' _ W0.heap.size _) ?_) ?_
      · intro r e; cases e; omega
      · intro r e; cases e; omega
      · intro r e; cases e; omega
      · intro r e; cases e; omega
      · rw [HH.out]; omega
    · rw [HH.out]
      have hX := ((HB.out.setCell (p := ⟨h, 0, none⟩) (Nat.le_refl _) (.slice a NL cc)).setCell (p := ⟨h + 1, 0, none⟩) (by simp) (.int .i64 0)).setCell (p := ⟨h + 1 + 1, 0, none⟩) (by simp; omega) (.int .i64 0)
      exact hX.grown (grownBy_putObj' _ W0.heap.size _) (by have := hX.size; rw [HH.out] at this; exact this) (fun k e => by cases e; omega)
  case stop =>
    rintro c pre W' hS ⟨rfl, init, x, ⟨rfl, hall, hbad⟩, ⟨⟨c0, c1⟩, c2⟩, hB⟩ hK
    have hans := progAns_bad ht hS hall hbad
    gi_wp2
    refine ⟨by simp, .inl ⟨_, _, rfl, run_takeDeferred hK, ?_⟩⟩
    have d0 := c0.put (.deferred none) (l := W0.heap.size) (by omega)
    have d1 := c1.put (.deferred none) (l := W0.heap.size) (by omega)
    have d2 := c2.put (.deferred none) (l := W0.heap.size) (by omega)
    have e0 := d0.cell 0
    have e1 := d1.cell 0
    have e2 := d2.cell 0
    simp at e0 e1 e2
    refine ⟨.tuple #[.slice none 0 0, .int .i64 ((init.length : Int) + 1), .int .i64 ((ansB x).2 : Int)], ?_, _, by rw [hans]; rfl, ?_, ?_⟩
    · simp [results, Tryz.f11, go_sem, e0, e1, e2]
    · rw [hans]
      exact World.ownsRow_nil _ _ _ _
    · rw [HH.out]
      exact hB.grown (grownBy_putObj' _ W0.heap.size _) (by have := hB.size; rw [HH.out] at this; exact this) (fun k e => by cases e; omega)

/-- THE CON26ACT. -/
theorem program_any (t : ByteArray) (w : World) (hT : AscT w) : Calls Tryz.prog 11 #[.string t] w fun e w' => ∃ v, e = .returned (.tuple #[v, .int .i64 ((progAns t).2.1 : Int), .int .i64 ((progAns t).2.2 : Int)]) ∧ w'.ownsRow w.heap.size 25 4 v (progAns t).1.length (flatI (progAns t).1) ∧ Below w.heap.size w w' := by
  by_cases h : 65536 < t.size
  · refine (program_long t h w).mono ?_
    rintro e w' ⟨rfl, hb⟩
    rw [progAns_long h]
    exact ⟨_, rfl, World.ownsRow_nil _ _ _ _, hb⟩
  · exact callsIn_wide.1 (program_in 9 (by omega) t (by omega) w hT)
end Go.Proofs.YtokehnclakedeaaGreatDoor
