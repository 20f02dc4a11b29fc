/- lex.Lines: the lines of any text, or which one is wrong. -/
import Derived.Test.YtkgmbogmeppmcaaDoorLexR
import Derived.Maps.AppendAt
namespace Go.Proofs.YtkgmbogmeppmcaaDoor
open Go Go.Proofs Go.RowKit Go.Shelf
attribute [local go_sem] Oper.semAt_some

theorem infoLn : (Tryd.prog.info? 54).map (fun i => (i.zero, i.size, i.bytes)) = some (some (.agg #[.int .i64 0, .slice none 0 0]), 2, 32) := by kernel_rfl
theorem cell_pair_new (w : World) (x y : Value) (t : TypeId) : ∀ j u, [x, y][j]? = some u → (w.alloc (.cells #[x, y] t)).cell? ((⟨w.heap.size, 0, none⟩ : Addr).add j) = some u := by
  intro j u hj
  match j, hj with
  | 0, hj => simp at hj; subst hj; simp [Addr.add]
  | 1, hj => simp at hj; subst hj; simp [Addr.add]
  | (j + 2), hj => simp at hj

/-- Where the loop over the lines stands. -/
def LinesI (h : Nat) (w : World) (pre : List (Nat × ByteArray)) (W : World) : Prop :=
  (((((∃ v, Blk W (h + 3) 41 #[v] ∧ LinesR 54 (h + 14) W v (accOf pre)) ∧ Blk W h 41 #[.slice none 0 0]) ∧ Blk W (h + 1) 3 #[.int .i64 0]) ∧ Blk W (h + 2) 27 #[.int .i64 0]) ∧ Below h w W) ∧ (∀ x ∈ pre, okAll x.2 = true)
def LinesX (h : Nat) (w : World) (c : Code) (pre : List (Nat × ByteArray)) (W : World) : Prop :=
  c = .ret ∧ ∃ init x, (pre = init ++ [x] ∧ (∀ y ∈ init, okAll y.2 = true) ∧ okAll x.2 = false) ∧ ((Blk W h 41 #[.slice none 0 0] ∧ Blk W (h + 1) 3 #[.int .i64 (x.1 : Int)]) ∧ Blk W (h + 2) 27 #[.int .i64 13]) ∧ Below h w W
theorem blk_abides {α : Type} {own : Nat → Prop} {b : Nat} (hb : ¬ own b) (t : TypeId) (f : α → Array Value) : AbidesR own (fun (s : α) W => Blk W b t (f s)) := abidesR_block hb (fun s => .cells (f s) t (0, 0))
theorem linesI_abides {h : Nat} {w : World} (hw : h = w.heap.size) {own : Nat → Prop} (ho : ∀ r, own r → h + 6 ≤ r ∧ r < h + 14) : AbidesR own (LinesI h w) := by
  have hb : ∀ b, b < h + 6 → ¬ own b := fun b hb hc => by have := ho b hc; omega
  refine AbidesR.and (AbidesR.and (AbidesR.and (AbidesR.and (AbidesR.and ?_ (blk_abides (hb _ (by omega)) _ (fun _ => _))) (blk_abides (hb _ (by omega)) _ (fun _ => _))) (blk_abides (hb _ (by omega)) _ (fun _ => _))) (abidesR_below (by omega) (fun r hr => by have := ho r hr; omega))) (abidesR_pure _ _)
  intro s A B row hs hg hr
  obtain ⟨v, h1, h2⟩ := hs
  exact ⟨v, blk_abides (hb _ (by omega)) _ (fun (_ : Unit) => #[v]) () A B row h1 hg hr, h2.grown hg (fun r e => (ho r (hr r e)).2)⟩
theorem linesX_abides {h : Nat} {w : World} (hw : h = w.heap.size) {own : Nat → Prop} (ho : ∀ r, own r → h + 6 ≤ r ∧ r < h + 14) (c : Code) : AbidesR own (LinesX h w c) := by
  have hb : ∀ b, b < h + 6 → ¬ own b := fun b hb hc => by have := ho b hc; omega
  refine AbidesR.and (abidesR_pure _ _) ?_
  intro s A B row hs hg hr
  obtain ⟨init, x, hp, ⟨⟨h1, h2⟩, h3⟩, h4⟩ := hs
  exact ⟨init, x, hp, ⟨⟨blk_abides (hb _ (by omega)) _ (fun (_ : Unit) => _) () A B row h1 hg hr, blk_abides (hb _ (by omega)) _ (fun (_ : Unit) => _) () A B row h2 hg hr⟩, blk_abides (hb _ (by omega)) _ (fun (_ : Unit) => _) () A B row h3 hg hr⟩,
    abidesR_below (β := Unit) (by omega) (fun r hr => by have := ho r hr; omega) () A B row h4 hg hr⟩

set_option maxRecDepth 100000 in
theorem lexLines_long (t : ByteArray) (ht : 65536 < t.size) (w : World) :
    Calls Tryd.prog 22 #[.string t] w fun e w' => e = .returned (.tuple #[.slice none 0 0, .int .i64 0, .int .i64 3]) ∧ Below w.heap.size w w' := by
  have hz : (65536 : Int) < (t.size : Int) := by omega
  go_enter Tryd.func22, Tryd.ntmps22
  go_wp2
  refine bodyPost_ret (v := .tuple #[.slice none 0 0, .int .i64 0, .int .i64 3]) (by simp [results, Tryd.results22, go_sem]) rfl ⟨rfl, ?_⟩
  exact (((Below.refl _ w).alloc (Nat.le_refl _) _).alloc (by simp) _).alloc (by simp; omega) _

set_option maxRecDepth 100000 in
set_option maxHeartbeats 2000000 in
theorem lexLines_in (n : Nat) (hn : 9 ≤ n) (t : ByteArray) (ht : t.size ≤ 65536) (w : World) :
    CallsIn Fence.wide n Tryd.prog 22 #[.string t] w fun e w' => ∃ v, e = .returned (.tuple #[v, .int .i64 ((lexAns t).2.1 : Int), .int .i64 ((lexAns t).2.2 : Int)]) ∧ LinesR 54 w.heap.size w' v (lexAns t).1 ∧ Below w.heap.size w w' := by
  have hz : ¬ (65536 : Int) < (t.size : Int) := by omega
  refine callsIn_of_wp_marks Tryd.func22 rfl trivial ?_ rfl
  simp only [Tryd.ntmps22, List.size_toArray, List.length_cons, List.length_nil, Nat.reduceAdd, Nat.reduceSub, Array.replicate_succ, Array.replicate_zero, List.push_toArray, List.append_toArray, List.nil_append, List.cons_append]
  gi_wp2_with fail
  refine ⟨trivial, fun h => (by cases h), ?_⟩
  refine (callsIn_wide.2 (lines_any t _)).mono ?_
  rintro e w1 ⟨rfl, rfl⟩
  gi_wp2
  have b0 := (((((Blk.new w 41 #[.slice none 0 0]).alloc (.cells #[.int .i64 0] 3)).alloc (.cells #[.int .i64 0] 27)).alloc (.cells #[.slice none 0 0] 41)).alloc (.cells #[.string t] 9))
  have b1 := ((((Blk.new (w.alloc (.cells #[.slice none 0 0] 41)) 3 #[.int .i64 0]).alloc (.cells #[.int .i64 0] 27)).alloc (.cells #[.slice none 0 0] 41)).alloc (.cells #[.string t] 9))
  have b2 := (((Blk.new ((w.alloc (.cells #[.slice none 0 0] 41)).alloc (.cells #[.int .i64 0] 3)) 27 #[.int .i64 0]).alloc (.cells #[.slice none 0 0] 41)).alloc (.cells #[.string t] 9))
  have b3 := ((Blk.new (((w.alloc (.cells #[.slice none 0 0] 41)).alloc (.cells #[.int .i64 0] 3)).alloc (.cells #[.int .i64 0] 27)) 41 #[.slice none 0 0]).alloc (.cells #[.string t] 9))
  have b4 := Blk.new ((((w.alloc (.cells #[.slice none 0 0] 41)).alloc (.cells #[.int .i64 0] 3)).alloc (.cells #[.int .i64 0] 27)).alloc (.cells #[.slice none 0 0] 41)) 9 #[.string t]
  have hsz : (((((w.alloc (.cells #[.slice none 0 0] 41)).alloc (.cells #[.int .i64 0] 3)).alloc (.cells #[.int .i64 0] 27)).alloc (.cells #[.slice none 0 0] 41)).alloc (.cells #[.string t] 9)).heap.size = w.heap.size + 5 := by simp
  have hb0 : Below w.heap.size w (((((w.alloc (.cells #[.slice none 0 0] 41)).alloc (.cells #[.int .i64 0] 3)).alloc (.cells #[.int .i64 0] 27)).alloc (.cells #[.slice none 0 0] 41)).alloc (.cells #[.string t] 9)) := (((((Below.refl _ w).alloc (Nat.le_refl _) _).alloc (by simp) _).alloc (by simp; omega) _).alloc (by simp; omega) _).alloc (by simp; omega) _
  simp only [World.size_alloc] at b1 b2 b3 b4
  generalize (((((w.alloc (.cells #[.slice none 0 0] 41)).alloc (.cells #[.int .i64 0] 3)).alloc (.cells #[.int .i64 0] 27)).alloc (.cells #[.slice none 0 0] 41)).alloc (.cells #[.string t] 9)) = W0 at *
  generalize hh : w.heap.size = h at *
  have HH := Lib.hid hh
  clear hh
  refine wpIn_rangeFunc_ownR (F := Fence.wide) rfl (by omega) (gf := 53) (lb := #[.pointer (some ⟨h + 1 + 1 + 1 + 1, 0, none⟩)]) rfl trivial (enters_of Tryd.func53 (by kernel_rfl) rfl)
    (lines1_in (n - 1) (by omega) t (by omega) (h + 1 + 1 + 1 + 1) W0 b4) (fun r e => by omega) (fun r e => by omega) (Below.refl _ _) (fun _ => rfl)
    (LinesI h w) (LinesX h w)
    (linesI_abides HH.out.symm (fun r e => by rcases e with e | e <;> omega))
    (fun c => linesX_abides HH.out.symm (fun r e => by rcases e with e | e <;> omega) c)
    ⟨⟨⟨⟨⟨⟨.slice none 0 0, b3, LinesR.nil _ _ _⟩, b0⟩, b1⟩, b2⟩, hb0⟩, fun x hx => by simp at hx⟩
    (fun x a' _ => a' = { tmps := #[.string t, undef, .pointer (some ⟨h, 0, none⟩), .pointer (some ⟨h + 1, 0, none⟩), .pointer (some ⟨h + 1 + 1, 0, none⟩), .pointer (some ⟨h + 1 + 1 + 1, 0, none⟩), .int .i64 (x.1 : Int), .string x.2, undef, .string t, .int .i64 (t.size : Int), .bool false, .string t, .func (.func 53) #[] #[.pointer (some ⟨h + 1 + 1 + 1 + 1, 0, none⟩)], .int .i64 (x.1 : Int), .string x.2, undef, undef, undef, undef, undef, undef, undef, undef, undef, undef, undef, undef, undef, undef, undef, undef], defers := [] })
    (fun x a' => abidesR_pure _ _) ?assign ?body ?done ?stop
  case assign =>
    rintro l' pre x W' K hi _ hs' hK
    gi_wp2
    exact hK _ _ (KeepsAt.refl _ _) hi rfl
  case body =>
    rintro l' pre ⟨xn, xs⟩ a' W' hs' hsp hI rfl
    obtain ⟨⟨⟨⟨⟨⟨v, c3, hL⟩, c0⟩, c1⟩, c2⟩, hB⟩, hall⟩ := hI
    obtain ⟨hx1, hx2⟩ := numPieces_size (hsp.subset (show (xn, xs) ∈ pre ++ [(xn, xs)] by simp))
    dsimp only at hx1 hx2
    have hpl := hsp.length_le
    have hW7 : h + 14 ≤ W'.heap.size := by omega
    have hpl2 : pre.length + 1 ≤ 65537 := by
      rw [List.length_append, List.length_singleton, numPieces_length] at hpl
      have := pieces_len t
      omega
    have HP := Lib.hid (plain_any13 xs (by omega))
    have HC0 := Lib.hid c0
    have HC1 := Lib.hid c1
    have HC2 := Lib.hid c2
    have HC3 := Lib.hid c3
    have HL := Lib.hid hL
    have HB := Lib.hid hB
    have HALL := Lib.hid hall
    have HSP := Lib.hid hsp
    clear c0 c1 c2 c3 hL hB hall hsp hpl b0 b1 b2 b3 b4 hb0
    cases ho : okAll xs with
    | false =>
      rw [show xs.data.toList.all okB = false from ho] at HP
      have HO := Lib.hid ho
      clear ho
      gi_wp2_with fail
      refine ⟨trivial, fun h => (by cases h), ?_⟩
      refine (CallsIn.inRound l' (callsIn_wide.2 (HP.out _))).mono ?_
      rintro e w1 ⟨rfl, hb1⟩
      have d0 := HC0.out.below hb1 HC0.out.lt
      have d1 := HC1.out.below hb1 HC1.out.lt
      have d2 := HC2.out.below hb1 HC2.out.lt
      have HB1 := Lib.hid (HB.out.trans (hb1.mono (by omega)))
      have HK1 := Lib.hid (KeepsAt.below (R := roundKeeps (fun h r => h ≤ r ∧ r < h + 7) W0.heap.size) hb1)
      have z0 := d0.cell 0
      have y0 := d0.frozen 0
      have z1 := d1.cell 0
      have y1 := d1.frozen 0
      have z2 := d2.cell 0
      have y2 := d2.frozen 0
      simp only [List.getElem?_toArray, List.getElem?_cons_zero] at z0 z1 z2
      have HD0 := Lib.hid d0
      have HD1 := Lib.hid d1
      have HD2 := Lib.hid d2
      clear hb1 d0 d1 d2 HB HC0 HC1 HC2 HC3 HL HP
      gi_wp2
      refine ⟨HK1.out.trans (((KeepsAt.setCell _ _ _ ?k0).trans (KeepsAt.setCell _ _ _ ?k1)).trans (KeepsAt.setCell _ _ _ ?k2)), rfl, pre, (xn, xs), ⟨rfl, HALL.out, HO.out⟩, ⟨⟨?f0, ?f1⟩, ?f2⟩, ?f3⟩
      case k0 => intro hk; rcases hk with hk | hk | hk <;> simp at hk <;> omega
      case k1 => intro hk; rcases hk with hk | hk | hk <;> simp at hk <;> omega
      case k2 => intro hk; rcases hk with hk | hk | hk <;> simp at hk <;> omega
      case f0 => exact ((HD0.out.set 0 (.slice none 0 0)).other (by omega) 0 _).other (by omega) 0 _
      case f1 => exact ((HD1.out.other (by omega) 0 _).set 0 (.int .i64 (xn : Int))).other (by omega) 0 _
      case f2 => exact (((HD2.out.other (by omega) 0 _).other (by omega) 0 _).set 0 (.int .i64 13))
      case f3 => exact ((HB1.out.setCell (p := ⟨h, 0, none⟩) (Nat.le_refl _) _).setCell (p := ⟨h + 1, 0, none⟩) (by simp) _).setCell (p := ⟨h + 1 + 1, 0, none⟩) (by simp; omega) _
    | true =>
      have HF := Lib.hid (fields_any xs (by omega) ho)
      rw [show xs.data.toList.all okB = true from ho] at HP
      have HO := Lib.hid ho
      clear ho
      gi_wp2_with fail
      refine ⟨trivial, fun h => (by cases h), ?_⟩
      refine (CallsIn.inRound l' (callsIn_wide.2 (HP.out _))).mono ?_
      rintro e w1 ⟨rfl, hb1⟩
      have HC01 := Lib.hid (HC0.out.below hb1 HC0.out.lt)
      have HC11 := Lib.hid (HC1.out.below hb1 HC1.out.lt)
      have HC21 := Lib.hid (HC2.out.below hb1 HC2.out.lt)
      have HC31 := Lib.hid (HC3.out.below hb1 HC3.out.lt)
      have HL1 := Lib.hid (HL.out.below hb1)
      have HB1 := Lib.hid (HB.out.trans (hb1.mono (by omega)))
      have HK1 := Lib.hid (KeepsAt.below (R := roundKeeps (fun h r => h ≤ r ∧ r < h + 7) W0.heap.size) hb1)
      have hW71 : h + 14 ≤ w1.heap.size := Nat.le_trans hW7 hb1.size
      clear hb1 HC0 HC1 HC2 HC3 HL HP HB
      obtain ⟨ws, hws⟩ : ∃ ws, wordsB xs = ws := ⟨_, rfl⟩
      rw [show wordsGo xs.data.toList [] [] = ws from hws] at HF
      obtain ⟨K, hK⟩ : ∃ K, ws.length = K := ⟨_, rfl⟩
      rw [hK] at HF
      have HWS := Lib.hid hws
      have HKW := Lib.hid hK
      clear hws hK
      gi_wp2_with fail
      refine ⟨trivial, fun h => (by cases h), ?_⟩
      refine (CallsIn.inRound l' (callsIn_wide.2 (HF.out _))).mono ?_
      rintro e w2 ⟨A, rfl, hA, hR2, hb2⟩
      have HC02 := Lib.hid (HC01.out.below hb2 HC01.out.lt)
      have HC12 := Lib.hid (HC11.out.below hb2 HC11.out.lt)
      have HC22 := Lib.hid (HC21.out.below hb2 HC21.out.lt)
      have HC32 := Lib.hid (HC31.out.below hb2 HC31.out.lt)
      have HL2 := Lib.hid (HL1.out.below hb2)
      have HB2 := Lib.hid (HB1.out.trans (hb2.mono (by omega)))
      have HK2 := Lib.hid (HK1.out.trans (KeepsAt.below hb2))
      have hW72 : h + 14 ≤ w2.heap.size := Nat.le_trans hW71 hb2.size
      have HU := Lib.hid (ownsRow_mono hR2 hW71)
      clear hb2 hR2 hA HC01 HC11 HC21 HC31 HL1 HB1 HK1 HF
      have hallx : Hid (∀ y ∈ pre ++ [(xn, xs)], okAll y.2 = true) := by
        intro y hy
        rcases List.mem_append.1 hy with hy | hy
        · exact HALL.out y hy
        · simp at hy
          subst hy
          exact HO.out
      by_cases hk0 : 0 < K
      · have hk0z : (0 : Int) < (K : Int) := by omega
        have hne : ¬ ws = [] := fun e => by have := HKW.out; rw [e] at this; simp at this; omega
        have Hacc : Hid (accOf (pre ++ [(xn, xs)]) = accOf pre ++ [(xn, ws)]) := by
          show _ = _
          rw [accOf_snoc]
          show addLn xn (wordsB xs) _ = _
          rw [HWS.out]
          unfold addLn
          rw [if_neg hne]
        obtain ⟨us, hu1, hu2, hu3⟩ := HL2.out
        obtain ⟨i0, hi, hz0, hz1, hz2⟩ := info_parts infoLn
        have hal := accOf_length_le pre
        have c3 := HC32.out.cell 0
        have f3 := HC32.out.frozen 0
        simp only [List.getElem?_toArray, List.getElem?_cons_zero] at c3
        obtain ⟨NL, hNL⟩ : ∃ NL, (accOf pre).length = NL := ⟨_, rfl⟩
        rw [hNL] at hu1 hu2 hal
        have HNL := Lib.hid hNL
        have HU1 := Lib.hid hu1
        have HU2 := Lib.hid hu2
        have HU3 := Lib.hid hu3
        have HA2 := Lib.hid (ownsRow_below hu2 ((Below.refl _ w2).alloc (Nat.le_refl _) (.cells #[.int .i64 (xn : Int), .slice (some ⟨A, 0, none⟩) K K] 54)))
        have hlt3 : h + 3 < w2.heap.size := by omega
        have HV : Hid (∀ r, v.ownBlock = some r → h + 14 ≤ r) := fun r e => (hu2.lt r e).1
        have HV3 : Hid (some (h + 3) ≠ v.ownBlock) := fun e => by have := HV.out _ e.symm; omega
        have HCN := Lib.hid (HC32.out.alloc (.cells #[.int .i64 (xn : Int), .slice (some ⟨A, 0, none⟩) K K] 54))
        clear hNL hu1 hu2 hu3 hne
        gi_wp2_with (gi_at_builtin; refine wpListIn_append_own _ rfl _ _ 41 rfl (h + 14) 54 i0 (.agg #[.int .i64 0, .slice none 0 0]) 2 32 Tryd.underlying41 hi hz0 hz1 hz2 rfl (by decide) v NL _ rfl HA2.out ⟨w2.heap.size, 0, none⟩ 1 1 [.int .i64 (xn : Int), .slice (some ⟨A, 0, none⟩) K K] rfl rfl (cell_pair_new _ _ _ _) (by simp [Value.oneCell']) (by unfold maxLen; omega) (by omega) (by simp; omega) ?_; intro v' w3 hown' hgrow _; obtain ⟨g', cap', rfl⟩ := ownsRow_succ hown'; have d3 := HCN.out.kept hgrow HV3.out; have cc3 := d3.cell 0; have ff3 := d3.frozen 0; simp only [List.getElem?_toArray, List.getElem?_cons_zero] at cc3)
        have hsz2 : (w2.alloc (.cells #[.int .i64 (xn : Int), .slice (some ⟨A, 0, none⟩) K K] 54)).heap.size = w2.heap.size + 1 := by simp
        have hbN : Below h w (w2.alloc (.cells #[.int .i64 (xn : Int), .slice (some ⟨A, 0, none⟩) K K] 54)) := HB2.out.alloc (by omega) _
        have hb3 := hbN.grown hgrow (by omega) (fun k e => by have := HV.out k e; omega)
        have hLN : LinesR 54 (h + 14) w3 (.slice (some ⟨g', 0, none⟩) (NL + 1) cap') (accOf (pre ++ [(xn, xs)])) := by
          rw [Hacc.out]
          refine LinesR.snoc (W1 := w2.alloc (.cells #[.int .i64 (xn : Int), .slice (some ⟨A, 0, none⟩) K K] 54)) (us := us) (by decide) (by rw [HNL.out]; exact HU1.out) (by rw [HNL.out]; exact HA2.out) (fun j u x hu hx => ownsRow_below (HU3.out j u x hu hx) ((Below.refl _ w2).alloc (Nat.le_refl _) _)) ?_ hgrow (by rw [HNL.out]; exact hown')
          rw [HKW.out]
          exact ownsRow_below HU.out ((Below.refl _ w2).alloc (Nat.le_refl _) _)
        refine ⟨(HK2.out.trans (KeepsAt.alloc _ _)).trans ((KeepsAt.grown hgrow ?k4).trans (KeepsAt.setCell _ _ _ ?k5)), ⟨⟨⟨⟨⟨_, d3.set 0 _, hLN.grown (grownBy_set _ _ _ _) (fun r e => by cases e; omega)⟩, ?f0⟩, ?f1⟩, ?f2⟩, ?f3⟩, hallx.out⟩
        case k4 => intro r e hk; have := HV.out r e; rcases hk with hk | hk | hk <;> omega
        case k5 => intro hk; rcases hk with hk | hk | hk <;> simp at hk <;> omega
        case f0 => exact (((HC02.out.alloc _).kept hgrow (fun e => by have := HV.out _ e.symm; omega))).other (by omega) 0 _
        case f1 => exact (((HC12.out.alloc _).kept hgrow (fun e => by have := HV.out _ e.symm; omega))).other (by omega) 0 _
        case f2 => exact (((HC22.out.alloc _).kept hgrow (fun e => by have := HV.out _ e.symm; omega))).other (by omega) 0 _
        case f3 => exact hb3.setCell (p := ⟨h + 1 + 1 + 1, 0, none⟩) (by simp; omega) _
      · have hk0z : ¬ (0 : Int) < (K : Int) := by omega
        have hne : ws = [] := List.eq_nil_of_length_eq_zero (by have := HKW.out; omega)
        have Hacc : Hid (accOf (pre ++ [(xn, xs)]) = accOf pre) := by
          show _ = _
          rw [accOf_snoc]
          show addLn xn (wordsB xs) _ = _
          rw [HWS.out, hne]
          rfl
        clear hne
        gi_wp2
        refine ⟨HK2.out, ⟨⟨⟨⟨⟨v, HC32.out, by rw [Hacc.out]; exact HL2.out⟩, HC02.out⟩, HC12.out⟩, HC22.out⟩, HB2.out⟩, hallx.out⟩
  case done =>
    rintro xs W' rfl hI hK
    obtain ⟨⟨⟨⟨⟨⟨v, c3, hL⟩, c0⟩, c1⟩, c2⟩, hB⟩, hall⟩ := hI
    have hans := lexAns_all ht hall
    have HANS := Lib.hid hans
    have HL := Lib.hid hL
    have HB := Lib.hid hB
    have HKK := Lib.hid hK
    have z3 := c3.cell 0
    have z0 := c0.cell 0
    have y0 := c0.frozen 0
    have z1 := c1.cell 0
    have y1 := c1.frozen 0
    have z2 := c2.cell 0
    have y2 := c2.frozen 0
    simp only [List.getElem?_toArray, List.getElem?_cons_zero] at z0 z1 z2 z3
    obtain ⟨a, cc, hv⟩ := hL.slice
    obtain ⟨NL, hNL⟩ : ∃ NL, (accOf (numPieces 1 (piecesB t))).length = NL := ⟨_, rfl⟩
    rw [hNL] at hv
    subst hv
    have HC0 := Lib.hid c0
    have HC1 := Lib.hid c1
    have HC2 := Lib.hid c2
    clear hans hL hB hK hall c0 c1 c2 c3 b0 b1 b2 b3 b4 hb0 hNL
    gi_wp2
    have hK' := (((KeepsOthers.setCell _ ⟨h, 0, none⟩ (.slice a NL cc)).trans (KeepsOthers.setCell _ ⟨h + 1, 0, none⟩ (.int .i64 0))).trans (KeepsOthers.setCell _ ⟨h + 1 + 1, 0, none⟩ (.int .i64 0))).same _ _ HKK.out rfl
    refine ⟨by simp, .inl ⟨_, _, rfl, run_takeDeferred hK', ?_⟩⟩
    have d0 := (((HC0.out.set 0 (.slice a NL cc)).other (B' := h + 1) (by omega) 0 (.int .i64 0)).other (B' := h + 1 + 1) (by omega) 0 (.int .i64 0)).put (.deferred none) (l := W0.heap.size) (by omega)
    have d1 := (((HC1.out.other (B' := h) (by omega) 0 (.slice a NL cc)).set 0 (.int .i64 0)).other (B' := h + 1 + 1) (by omega) 0 (.int .i64 0)).put (.deferred none) (l := W0.heap.size) (by omega)
    have d2 := (((HC2.out.other (B' := h) (by omega) 0 (.slice a NL cc)).other (B' := h + 1) (by omega) 0 (.int .i64 0)).set 0 (.int .i64 0)).put (.deferred none) (l := W0.heap.size) (by omega)
    have e0 := d0.cell 0
    have e1 := d1.cell 0
    have e2 := d2.cell 0
    simp at e0 e1 e2
    refine ⟨.tuple #[.slice a NL cc, .int .i64 0, .int .i64 0], ?_, _, by rw [HANS.out]; rfl, ?_, ?_⟩
    · simp [results, Tryd.f22, go_sem, e0, e1, e2]
    · rw [HANS.out]
      refine LinesR.mono ((((HL.out.grown (grownBy_set _ _ _ _) ?_).grown (grownBy_set _ _ _ _) ?_).grown (grownBy_set _ _ _ _) ?_).grown (grownBy_putObj' _ W0.heap.size _) ?_) ?_
      · intro r e; cases e; omega
      · intro r e; cases e; omega
      · intro r e; cases e; omega
      · intro r e; cases e; omega
      · rw [HH.out]; omega
    · rw [HH.out]
      have hX := ((HB.out.setCell (p := ⟨h, 0, none⟩) (Nat.le_refl _) (.slice a NL cc)).setCell (p := ⟨h + 1, 0, none⟩) (by simp) (.int .i64 0)).setCell (p := ⟨h + 1 + 1, 0, none⟩) (by simp; omega) (.int .i64 0)
      exact hX.grown (grownBy_putObj' _ W0.heap.size _) (by have := hX.size; rw [HH.out] at this; exact this) (fun k e => by cases e; omega)
  case stop =>
    rintro c pre W' hS ⟨rfl, init, x, ⟨rfl, hall, hbad⟩, ⟨⟨c0, c1⟩, c2⟩, hB⟩ hK
    have hans := lexAns_bad ht hS hall hbad
    gi_wp2
    refine ⟨by simp, .inl ⟨_, _, rfl, run_takeDeferred hK, ?_⟩⟩
    have d0 := c0.put (.deferred none) (l := W0.heap.size) (by omega)
    have d1 := c1.put (.deferred none) (l := W0.heap.size) (by omega)
    have d2 := c2.put (.deferred none) (l := W0.heap.size) (by omega)
    have e0 := d0.cell 0
    have e1 := d1.cell 0
    have e2 := d2.cell 0
    simp at e0 e1 e2
    refine ⟨.tuple #[.slice none 0 0, .int .i64 (x.1 : Int), .int .i64 13], ?_, _, by rw [hans]; rfl, ?_, ?_⟩
    · simp [results, Tryd.f22, go_sem, e0, e1, e2]
    · rw [hans]
      exact LinesR.nil _ _ _
    · rw [HH.out]
      exact hB.grown (grownBy_putObj' _ W0.heap.size _) (by have := hB.size; rw [HH.out] at this; exact this) (fun k e => by cases e; omega)

/-- THE CONTRACT. -/
theorem lexLines_any (t : ByteArray) (w : World) : Calls Tryd.prog 22 #[.string t] w fun e w' => ∃ v, e = .returned (.tuple #[v, .int .i64 ((lexAns t).2.1 : Int), .int .i64 ((lexAns t).2.2 : Int)]) ∧ LinesR 54 w.heap.size w' v (lexAns t).1 ∧ Below w.heap.size w w' := by
  by_cases h : 65536 < t.size
  · refine (lexLines_long t h w).mono ?_
    rintro e w' ⟨rfl, hb⟩
    rw [lexAns_long h]
    exact ⟨_, rfl, LinesR.nil _ _ _, hb⟩
  · exact callsIn_wide.1 (lexLines_in 9 (by omega) t (by omega) w)
end Go.Proofs.YtkgmbogmeppmcaaDoor
