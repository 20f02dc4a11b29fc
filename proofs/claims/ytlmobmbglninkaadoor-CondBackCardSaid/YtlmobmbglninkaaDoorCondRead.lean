/- cond.Read: the condition that words begin with. -/
import Derived.Test.YtlmobmbglninkaaDoorCondArg
import Derived.Test.YtlmobmbglninkaaDoorCondIdx
import Derived.Test.YtlmobmbglninkaaDoorHolds
namespace Go.Proofs.YtlmobmbglninkaaDoor
open Go Go.Proofs Go.RowKit

/-- Words in memory. -/
def WordsV (W : World) (sv : Value) (ws : List ByteArray) : Prop :=
  ∃ a c, sv = .slice a ws.length c ∧ (ws = [] ∨ ∃ b off, a = some ⟨b, off, none⟩ ∧ b < W.heap.size ∧ ∀ j (s : ByteArray), ws[j]? = some s → W.cell? ⟨b, off + j, none⟩ = some (.string s))
/-- An answer of Read: the condition's four numbers, how many words, an error's number. -/
structure RAns where
  (a o m v n e : Int)
def readV (x : RAns) : Value := .tuple #[.agg #[.int .i64 x.a, .int .i64 x.o, .int .u64 x.m, .int .u64 x.v], .int .i64 x.n, .int .i64 x.e]
def readMask (a m : Nat) : List ByteArray → RAns
  | s3 :: s4 :: _ => if (s3.toList == [61, 61]) = true then (match numOf s4.data.toList with | some v => ⟨a, 7, m, v, 5, 0⟩ | none => ⟨0, 0, 0, 0, 0, 13⟩) else ⟨0, 0, 0, 0, 0, 13⟩
  | _ => ⟨0, 0, 0, 0, 0, 13⟩
def readRest (a : Nat) : List ByteArray → RAns
  | s1 :: s2 :: r =>
    if firstO (opB s1) = -1 then ⟨0, 0, 0, 0, 0, 13⟩
    else match numOf s2.data.toList with
      | none => ⟨0, 0, 0, 0, 0, 13⟩
      | some u => if firstO (opB s1) = 6 then readMask a u r else ⟨a, firstO (opB s1) + 1, 0, u, 3, 0⟩
  | _ => ⟨0, 0, 0, 0, 0, 13⟩
/-- What Read answers. -/
def readAns : List ByteArray → RAns
  | [] => ⟨0, 0, 0, 0, 0, 4⟩
  | s :: r => if (argOf s.data.toList).2 = 0 then readRest (argOf s.data.toList).1 r else ⟨0, 0, 0, 0, 0, (argOf s.data.toList).2⟩

theorem readAns_err {s : ByteArray} (r : List ByteArray) {a er : Nat} (h : argOf s.data.toList = (a, er)) (hne : ¬ er = 0) : readAns (s :: r) = ⟨0, 0, 0, 0, 0, er⟩ := by
  show (if (argOf s.data.toList).2 = 0 then _ else _) = _
  rw [h, if_neg hne]
theorem readAns_ok {s : ByteArray} (r : List ByteArray) {a : Nat} (h : argOf s.data.toList = (a, 0)) : readAns (s :: r) = readRest a r := by
  show (if (argOf s.data.toList).2 = 0 then _ else _) = _
  rw [h, if_pos rfl]
theorem readRest_no (a : Nat) (s1 s2 : ByteArray) (r : List ByteArray) (h : firstO (opB s1) = -1 ∨ numOf s2.data.toList = none) : readRest a (s1 :: s2 :: r) = ⟨0, 0, 0, 0, 0, 13⟩ := by
  show (if _ then _ else _) = _
  split
  · rfl
  · rcases h with h | h
    · contradiction
    · rw [h]
theorem readRest_val (a : Nat) (s1 s2 : ByteArray) (r : List ByteArray) {u : Nat} (h1 : ¬ firstO (opB s1) = -1) (h2 : ¬ firstO (opB s1) = 6) (h : numOf s2.data.toList = some u) : readRest a (s1 :: s2 :: r) = ⟨a, firstO (opB s1) + 1, 0, u, 3, 0⟩ := by
  show (if _ then _ else _) = _
  rw [if_neg h1, h]
  dsimp only
  rw [if_neg h2]
theorem readRest_mask (a : Nat) (s1 s2 : ByteArray) (r : List ByteArray) {u : Nat} (h2 : firstO (opB s1) = 6) (h : numOf s2.data.toList = some u) : readRest a (s1 :: s2 :: r) = readMask a u r := by
  show (if _ then _ else _) = _
  rw [if_neg (by omega), h]
  dsimp only
  rw [if_pos h2]
theorem readMask_no (a m : Nat) (s3 s4 : ByteArray) (r : List ByteArray) (h : (s3.toList == [61, 61]) = false ∨ numOf s4.data.toList = none) : readMask a m (s3 :: s4 :: r) = ⟨0, 0, 0, 0, 0, 13⟩ := by
  show (if _ then _ else _) = _
  split
  · rcases h with h | h
    · simp_all
    · rw [h]
  · rfl
theorem readMask_val (a m : Nat) (s3 s4 : ByteArray) (r : List ByteArray) {v : Nat} (h1 : (s3.toList == [61, 61]) = true) (h : numOf s4.data.toList = some v) : readMask a m (s3 :: s4 :: r) = ⟨a, 7, m, v, 5, 0⟩ := by
  show (if _ then _ else _) = _
  rw [if_pos h1, h]
theorem ErrV.lt {w : World} (h : ErrV w) : 1 < w.heap.size := by
  obtain ⟨ev, h1, _⟩ := h
  exact Lib.lt_of_cell h1
theorem ErrV.kept {n : Nat} {w W : World} (h : ErrV w) (hb : Below n w W) (hn : 1 < n) : ErrV W := by
  obtain ⟨ev, h1, h2⟩ := h
  exact ⟨ev, (hb.cell hn).trans h1, h2⟩
theorem number_none (s : ByteArray) (hs : s.size ≤ 281474976710656) (h : numOf s.data.toList = none) (w : World) (hv : ErrV w) :
    Calls Tryd.prog 11 #[.string s] w fun e w' => e = .returned (.tuple #[.int .u64 0, .bool false]) ∧ Below w.heap.size w w' := by
  have hn := number_any s hs w hv
  rw [h] at hn
  exact hn
theorem number_some (s : ByteArray) (hs : s.size ≤ 281474976710656) {u : Nat} (h : numOf s.data.toList = some u) (w : World) (hv : ErrV w) :
    Calls Tryd.prog 11 #[.string s] w fun e w' => e = .returned (.tuple #[.int .u64 (u : Int), .bool true]) ∧ Below w.heap.size w w' := by
  have hn := number_any s hs w hv
  rw [h] at hn
  exact hn
theorem firstO_cases (p : Nat → Bool) : firstO p = -1 ∨ ∃ k : Nat, k < 7 ∧ firstO p = k := by
  unfold firstO
  repeat' split
  all_goals first | exact .inl rfl | exact .inr ⟨_, by decide, rfl⟩ | skip
  all_goals first | exact .inr ⟨0, by decide, rfl⟩ | exact .inr ⟨1, by decide, rfl⟩ | exact .inr ⟨2, by decide, rfl⟩ | exact .inr ⟨3, by decide, rfl⟩ | exact .inr ⟨4, by decide, rfl⟩ | exact .inr ⟨5, by decide, rfl⟩ | exact .inr ⟨6, by decide, rfl⟩
theorem opsI_any (w : World) : Calls Tryd.prog 21 #[] w fun e w' => ∃ g, e = .returned (.slice (some ⟨g, 0, none⟩) 7 7) ∧ Blk w' g 56 opCells ∧ Below w.heap.size w w' :=
  (ops_any w).mono (by
    rintro e w' ⟨rfl, rfl⟩
    exact ⟨_, rfl, Blk.new w _ _, (Below.refl w.heap.size w).alloc (Nat.le_refl _) _⟩)

set_option maxRecDepth 100000 in
set_option maxHeartbeats 4000000 in
theorem read_any (sv : Value) (ws : List ByteArray) (hbig : ws.length ≤ 1000000) (hsz : ∀ s ∈ ws, s.size ≤ 1000000) (w : World) (hE : ErrV w) (hW : WordsV w sv ws) :
    Calls Tryd.prog 9 #[sv] w fun e w' => e = .returned (readV (readAns ws)) ∧ Below w.heap.size w w' := by
  obtain ⟨ad, c, rfl, hx⟩ := hW
  have HER := Lib.hid hE
  have HGL := Lib.hid hE.lt
  clear hE
  have bC := (Blk.new w 22 #[.slice ad ws.length c]).alloc (.cells #[.int .i64 0, .int .i64 0, .int .u64 0, .int .u64 0] 25)
  have bZ := Blk.new (w.alloc (.cells #[.slice ad ws.length c] 22)) 25 #[.int .i64 0, .int .i64 0, .int .u64 0, .int .u64 0]
  have hb1 := ((Below.refl w.heap.size w).alloc (Nat.le_refl _) (.cells #[.slice ad ws.length c] 22)).alloc (by simp) (.cells #[.int .i64 0, .int .i64 0, .int .u64 0, .int .u64 0] 25)
  simp only [World.size_alloc] at bZ
  have HC := Lib.hid bC
  have HZ := Lib.hid bZ
  have HB := Lib.hid hb1
  clear bC bZ hb1
  have c0 := HC.out.cell 0
  simp only [List.getElem?_toArray, List.getElem?_cons_zero] at c0
  cases ws with
  | nil =>
    clear hx HZ
    go_enter Tryd.func9, Tryd.ntmps9
    go_wp2
    refine bodyPost_ret (v := .tuple #[.agg #[.int .i64 0, .int .i64 0, .int .u64 0, .int .u64 0], .int .i64 0, .int .i64 4]) (by simp [results, Tryd.results9, go_sem]) rfl ⟨rfl, ?_⟩
    exact HB.out
  | cons s r =>
    obtain ⟨b, off, rfl, hlt, hcells⟩ := hx.resolve_left (fun h => by cases h)
    have HCE := Lib.hid hcells
    obtain ⟨n, hn⟩ : ∃ n, (s :: r).length = n := ⟨_, rfl⟩
    have hn0 : 0 < n := by rw [← hn]; simp
    rw [hn] at HC HB HZ hbig c0 ⊢
    have hn0z : ¬ (n : Int) = 0 := by omega
    have hn0b : ((n : Int) == 0) = false := by simpa using hn0z
    have hn0p : (0 : Int) < (n : Int) := by omega
    have HN := Lib.hid hn
    have HLT := Lib.hid hlt
    clear hx hcells hlt hn
    have HS : Hid (∀ W, Below ((w.alloc (.cells #[.slice (some ⟨b, off, none⟩) n c] 22)).alloc (.cells #[.int .i64 0, .int .i64 0, .int .u64 0, .int .u64 0] 25)).heap.size ((w.alloc (.cells #[.slice (some ⟨b, off, none⟩) n c] 22)).alloc (.cells #[.int .i64 0, .int .i64 0, .int .u64 0, .int .u64 0] 25)) W → ∀ j t, (s :: r)[j]? = some t → W.cell? ⟨b, off + j, none⟩ = some (.string t)) := fun W hW j t ht => cellLater hW (cellLater HB.out (HCE.out j t ht))
    have HEV : Hid (∀ W, Below ((w.alloc (.cells #[.slice (some ⟨b, off, none⟩) n c] 22)).alloc (.cells #[.int .i64 0, .int .i64 0, .int .u64 0, .int .u64 0] 25)).heap.size ((w.alloc (.cells #[.slice (some ⟨b, off, none⟩) n c] 22)).alloc (.cells #[.int .i64 0, .int .i64 0, .int .u64 0, .int .u64 0] 25)) W → ErrV W) := fun W hW => (HER.out.below HB.out).below hW
    have t0 := HS.out _ (Below.refl _ _) 0 s rfl
    simp only [Nat.add_zero] at t0
    obtain ⟨A, hA⟩ : ∃ A, argOf s.data.toList = A := ⟨_, rfl⟩
    have harg := fun W => arg_any s (by have := hsz s (by simp); omega) W
    rw [hA] at harg
    obtain ⟨a, er⟩ := A
    have harg : ∀ W, Calls Tryd.prog 19 #[.string s] W fun e w' => e = .returned (.tuple #[.int .i64 (a : Int), .int .i64 (er : Int)]) ∧ Below W.heap.size W w' := harg
    have HA := Lib.hid hA
    have Harg := Lib.hid harg
    clear harg hA HCE HER
    go_enter Tryd.func9, Tryd.ntmps9
    go_wp2_with fail
    refine (Harg.out _).mono ?_
    rintro e w1 ⟨rfl, hb1⟩
    have HC1 := blkB HC hb1
    have HZ1 := blkB HZ hb1
    have HB1 := belB HB hb1
    have HS1 : Hid (∀ W, Below w1.heap.size w1 W → ∀ j t, (s :: r)[j]? = some t → W.cell? ⟨b, off + j, none⟩ = some (.string t)) := fun W hW => HS.out W (hb1.trans (hW.mono hb1.size))
    have HEV1 : Hid (∀ W, Below w1.heap.size w1 W → ErrV W) := fun W hW => HEV.out W (hb1.trans (hW.mono hb1.size))
    clear c0 t0 hb1 Harg HC HZ HB HS HEV
    have c1 := HC1.out.cell 0
    simp only [List.getElem?_toArray, List.getElem?_cons_zero] at c1
    have z0 := HZ1.out.frozen 0
    have z1 := HZ1.out.frozen 1
    have z2 := HZ1.out.frozen 2
    have z3 := HZ1.out.frozen 3
    have y0 := HZ1.out.cell 0
    have y1 := HZ1.out.cell 1
    have y2 := HZ1.out.cell 2
    have y3 := HZ1.out.cell 3
    simp only [List.getElem?_toArray, List.getElem?_cons_zero, List.getElem?_cons_succ] at y0 y1 y2 y3
    by_cases her : er = 0
    case neg =>
      have herz : ¬ (er : Int) = 0 := by omega
      have HV : Hid (.tuple #[.agg #[.int .i64 0, .int .i64 0, .int .u64 0, .int .u64 0], .int .i64 0, .int .i64 (er : Int)] = readV (readAns (s :: r))) := by show _ = _; rw [readAns_err r HA.out her]; rfl
      clear her
      go_wp2
      have bF := (((HZ1.out.set 0 (.int .i64 0)).set 1 (.int .i64 0)).set 2 (.int .u64 0)).set 3 (.int .u64 0)
      have e0 := bF.cell 0
      have e1 := bF.cell 1
      have e2 := bF.cell 2
      have e3 := bF.cell 3
      simp at e0 e1 e2 e3
      refine bodyPost_ret (v := .tuple #[.agg #[.int .i64 0, .int .i64 0, .int .u64 0, .int .u64 0], .int .i64 0, .int .i64 (er : Int)]) (by simp [results, Tryd.results9, go_sem, e0, e1, e2, e3]) rfl ⟨congrArg Ending.returned HV.out, ?_⟩
      exact (((HB1.out.setCell (p := ⟨w.heap.size + 1, 0, none⟩) (by simp) _).setCell (p := ⟨w.heap.size + 1, 1, none⟩) (by simp) _).setCell (p := ⟨w.heap.size + 1, 2, none⟩) (by simp) _).setCell (p := ⟨w.heap.size + 1, 3, none⟩) (by simp) _
    subst her
    have HV0 : Hid (readAns (s :: r) = readRest a r) := readAns_ok r HA.out
    clear HA
    rcases r with _ | ⟨s1, _ | ⟨s2, r⟩⟩
    · have hn3 : (n : Int) < 3 := by have := HN.out; simp at this; omega
      have HV : Hid (.tuple #[.agg #[.int .i64 0, .int .i64 0, .int .u64 0, .int .u64 0], .int .i64 0, .int .i64 13] = readV (readAns [s])) := by show _ = _; rw [HV0.out]; rfl
      go_wp2
      have bF := (((HZ1.out.set 0 (.int .i64 0)).set 1 (.int .i64 0)).set 2 (.int .u64 0)).set 3 (.int .u64 0)
      have e0 := bF.cell 0
      have e1 := bF.cell 1
      have e2 := bF.cell 2
      have e3 := bF.cell 3
      simp at e0 e1 e2 e3
      refine bodyPost_ret (v := .tuple #[.agg #[.int .i64 0, .int .i64 0, .int .u64 0, .int .u64 0], .int .i64 0, .int .i64 13]) (by simp [results, Tryd.results9, go_sem, e0, e1, e2, e3]) rfl ⟨congrArg Ending.returned HV.out, ?_⟩
      exact (((HB1.out.setCell (p := ⟨w.heap.size + 1, 0, none⟩) (by simp) _).setCell (p := ⟨w.heap.size + 1, 1, none⟩) (by simp) _).setCell (p := ⟨w.heap.size + 1, 2, none⟩) (by simp) _).setCell (p := ⟨w.heap.size + 1, 3, none⟩) (by simp) _
    · have hn3 : (n : Int) < 3 := by have := HN.out; simp at this; omega
      have HV : Hid (.tuple #[.agg #[.int .i64 0, .int .i64 0, .int .u64 0, .int .u64 0], .int .i64 0, .int .i64 13] = readV (readAns [s, s1])) := by show _ = _; rw [HV0.out]; rfl
      go_wp2
      have bF := (((HZ1.out.set 0 (.int .i64 0)).set 1 (.int .i64 0)).set 2 (.int .u64 0)).set 3 (.int .u64 0)
      have e0 := bF.cell 0
      have e1 := bF.cell 1
      have e2 := bF.cell 2
      have e3 := bF.cell 3
      simp at e0 e1 e2 e3
      refine bodyPost_ret (v := .tuple #[.agg #[.int .i64 0, .int .i64 0, .int .u64 0, .int .u64 0], .int .i64 0, .int .i64 13]) (by simp [results, Tryd.results9, go_sem, e0, e1, e2, e3]) rfl ⟨congrArg Ending.returned HV.out, ?_⟩
      exact (((HB1.out.setCell (p := ⟨w.heap.size + 1, 0, none⟩) (by simp) _).setCell (p := ⟨w.heap.size + 1, 1, none⟩) (by simp) _).setCell (p := ⟨w.heap.size + 1, 2, none⟩) (by simp) _).setCell (p := ⟨w.heap.size + 1, 3, none⟩) (by simp) _
    have hn3 : ¬ (n : Int) < 3 := by have := HN.out; simp at this; omega
    have hn1 : (1 : Int) < (n : Int) := by omega
    have hn2 : (2 : Int) < (n : Int) := by omega
    have hn1N : 1 < n := by omega
    go_wp2_with fail
    refine (opsI_any _).mono ?_
    rintro e w2 ⟨g, rfl, hr, hb2⟩
    have HC2 := blkB HC1 hb2
    have HZ2 := blkB HZ1 hb2
    have HB2 := belB HB1 hb2
    have HS2 : Hid (∀ W, Below w2.heap.size w2 W → ∀ j t, (s :: s1 :: s2 :: r)[j]? = some t → W.cell? ⟨b, off + j, none⟩ = some (.string t)) := fun W hW => HS1.out W (hb2.trans (hW.mono hb2.size))
    have HEV2 : Hid (∀ W, Below w2.heap.size w2 W → ErrV W) := fun W hW => HEV1.out W (hb2.trans (hW.mono hb2.size))
    have hidx := indexFunc_cond (opB s1) 22 #[.pointer (some ⟨w.heap.size, 0, none⟩)] (enters_of Tryd.func22 (by kernel_rfl) rfl) g w2
      (fun W j fv hj hB => read1_any s1 ((j + 1 : Nat) : Int) w.heap.size b off n c fv W hn1N (HC2.out.below hB HC2.out.lt) (HS2.out W hB 1 s1 rfl)) hr
    obtain ⟨F, hF⟩ : ∃ F, firstO (opB s1) = F := ⟨_, rfl⟩
    rw [hF] at hidx
    have hFc := firstO_cases (opB s1)
    rw [hF] at hFc
    have hF0 : -1 ≤ F ∧ F < 7 := by rcases hFc with h | ⟨k, h1, h2⟩ <;> omega
    obtain ⟨G, hG⟩ : ∃ G, F + 1 = G := ⟨_, rfl⟩
    have hFw : IntKind.i64.wrap (1 + F) = G := by rw [IntWalk.i64_in _ (by omega)]; omega
    have hF : firstO (opB s1) = G - 1 := by omega
    clear hG
    have HF := Lib.hid hF
    have Hidx := Lib.hid hidx
    clear hidx hF hFc hF0 hr hb2 c1 HC1 HZ1 HB1 HS1 HEV1 z0 z1 z2 z3 y0 y1 y2 y3
    go_wp2_with fail
    refine Hidx.out.mono ?_
    rintro e w3 ⟨rfl, hb3⟩
    have HC3 := blkB HC2 hb3
    have HZ3 := blkB HZ2 hb3
    have HB3 := belB HB2 hb3
    have HS3 : Hid (∀ W, Below w3.heap.size w3 W → ∀ j t, (s :: s1 :: s2 :: r)[j]? = some t → W.cell? ⟨b, off + j, none⟩ = some (.string t)) := fun W hW => HS2.out W (hb3.trans (hW.mono hb3.size))
    have HEV3 : Hid (∀ W, Below w3.heap.size w3 W → ErrV W) := fun W hW => HEV2.out W (hb3.trans (hW.mono hb3.size))
    clear hb3 Hidx HC2 HZ2 HB2 HS2 HEV2
    go_upto_region 9 with fail
    have HC5 := Lib.hid (HC3.out.alloc (.cells #[.int .i64 (a : Int), .int .i64 G, .int .u64 0, .int .u64 0] 25))
    have HZ5 := Lib.hid (HZ3.out.alloc (.cells #[.int .i64 (a : Int), .int .i64 G, .int .u64 0, .int .u64 0] 25))
    have HB5 := Lib.hid (HB3.out.alloc HB3.out.size (.cells #[.int .i64 (a : Int), .int .i64 G, .int .u64 0, .int .u64 0] 25))
    have HD5 := Lib.hid (Blk.new w3 25 #[.int .i64 (a : Int), .int .i64 G, .int .u64 0, .int .u64 0])
    have HS5 : Hid (∀ W, Below (w3.alloc (.cells #[.int .i64 (a : Int), .int .i64 G, .int .u64 0, .int .u64 0] 25)).heap.size (w3.alloc (.cells #[.int .i64 (a : Int), .int .i64 G, .int .u64 0, .int .u64 0] 25)) W → ∀ j t, (s :: s1 :: s2 :: r)[j]? = some t → W.cell? ⟨b, off + j, none⟩ = some (.string t)) := fun W hW => HS3.out W (((Below.refl w3.heap.size w3).alloc (Nat.le_refl _) _).trans (hW.mono (by simp)))
    have HEV5 : Hid (∀ W, Below (w3.alloc (.cells #[.int .i64 (a : Int), .int .i64 G, .int .u64 0, .int .u64 0] 25)).heap.size (w3.alloc (.cells #[.int .i64 (a : Int), .int .i64 G, .int .u64 0, .int .u64 0] 25)) W → ErrV W) := fun W hW => HEV3.out W (((Below.refl w3.heap.size w3).alloc (Nat.le_refl _) _).trans (hW.mono (by simp)))
    have hDZ : w.heap.size + 1 < w3.heap.size := HZ3.out.lt
    clear HC3 HZ3 HB3 HS3 HEV3
    generalize w3.alloc (.cells #[.int .i64 (a : Int), .int .i64 G, .int .u64 0, .int .u64 0] 25) = W5 at *
    generalize w3.heap.size = D at *
    have HDZ := Lib.hid hDZ
    clear hDZ
    have c0 := HC5.out.cell 0
    simp only [List.getElem?_toArray, List.getElem?_cons_zero] at c0
    have t5 := HS5.out W5 (Below.refl _ W5) 2 s2 rfl
    have hs2 : s2.size ≤ 281474976710656 := by have := hsz s2 (by simp); omega
    obtain ⟨q, hq⟩ : ∃ q, numOf s2.data.toList = q := ⟨_, rfl⟩
    cases q with
    | none =>
      have HV : Hid (.tuple #[.agg #[.int .i64 0, .int .i64 0, .int .u64 0, .int .u64 0], .int .i64 0, .int .i64 13] = readV (readAns (s :: s1 :: s2 :: r))) := by show _ = _; rw [HV0.out, readRest_no a s1 s2 r (.inr hq)]; rfl
      have Hnum := Lib.hid (fun W hW => number_none s2 hs2 hq W hW)
      clear hq
      go_wp2_with fail
      refine (Hnum.out _ (HEV5.out _ (Below.refl _ _))).mono ?_
      rintro e w6 ⟨rfl, hb6⟩
      have HZ6 := blkB HZ5 hb6
      have HB6 := belB HB5 hb6
      have HD6 := blkB HD5 hb6
      clear hb6 Hnum HZ5 HB5 HD5 HS5 HEV5 c0 t5 HC5
      have d1 := HD6.out.cell 1
      simp only [List.getElem?_toArray, List.getElem?_cons_zero, List.getElem?_cons_succ] at d1
      have z0 := HZ6.out.frozen 0
      have z1 := HZ6.out.frozen 1
      have z2 := HZ6.out.frozen 2
      have z3 := HZ6.out.frozen 3
      have y0 := HZ6.out.cell 0
      have y1 := HZ6.out.cell 1
      have y2 := HZ6.out.cell 2
      have y3 := HZ6.out.cell 3
      simp only [List.getElem?_toArray, List.getElem?_cons_zero, List.getElem?_cons_succ] at y0 y1 y2 y3
      by_cases hG : G = 0
      · have hGb : (G == 0) = true := by simpa using hG
        subst hG
        go_wp2
        have bF := (((HZ6.out.set 0 (.int .i64 0)).set 1 (.int .i64 0)).set 2 (.int .u64 0)).set 3 (.int .u64 0)
        have e0 := bF.cell 0
        have e1 := bF.cell 1
        have e2 := bF.cell 2
        have e3 := bF.cell 3
        simp at e0 e1 e2 e3
        refine bodyPost_ret (v := .tuple #[.agg #[.int .i64 0, .int .i64 0, .int .u64 0, .int .u64 0], .int .i64 0, .int .i64 13]) (by simp [results, Tryd.results9, go_sem, e0, e1, e2, e3]) rfl ⟨congrArg Ending.returned HV.out, ?_⟩
        exact (((HB6.out.setCell (p := ⟨w.heap.size + 1, 0, none⟩) (by simp) _).setCell (p := ⟨w.heap.size + 1, 1, none⟩) (by simp) _).setCell (p := ⟨w.heap.size + 1, 2, none⟩) (by simp) _).setCell (p := ⟨w.heap.size + 1, 3, none⟩) (by simp) _
      · have hGb : (G == 0) = false := by simpa using hG
        go_wp2
        have bF := (((HZ6.out.set 0 (.int .i64 0)).set 1 (.int .i64 0)).set 2 (.int .u64 0)).set 3 (.int .u64 0)
        have e0 := bF.cell 0
        have e1 := bF.cell 1
        have e2 := bF.cell 2
        have e3 := bF.cell 3
        simp at e0 e1 e2 e3
        refine bodyPost_ret (v := .tuple #[.agg #[.int .i64 0, .int .i64 0, .int .u64 0, .int .u64 0], .int .i64 0, .int .i64 13]) (by simp [results, Tryd.results9, go_sem, e0, e1, e2, e3]) rfl ⟨congrArg Ending.returned HV.out, ?_⟩
        exact (((HB6.out.setCell (p := ⟨w.heap.size + 1, 0, none⟩) (by simp) _).setCell (p := ⟨w.heap.size + 1, 1, none⟩) (by simp) _).setCell (p := ⟨w.heap.size + 1, 2, none⟩) (by simp) _).setCell (p := ⟨w.heap.size + 1, 3, none⟩) (by simp) _
    | some u =>
      have Hnum := Lib.hid (fun W hW => number_some s2 hs2 hq W hW)
      have HQ := Lib.hid hq
      clear hq
      go_wp2_with fail
      refine (Hnum.out _ (HEV5.out _ (Below.refl _ _))).mono ?_
      rintro e w6 ⟨rfl, hb6⟩
      have HZ6 := blkB HZ5 hb6
      have HB6 := belB HB5 hb6
      have HD6 := blkB HD5 hb6
      have HC6 := blkB HC5 hb6
      have HS6 : Hid (∀ W, Below w6.heap.size w6 W → ∀ j t, (s :: s1 :: s2 :: r)[j]? = some t → W.cell? ⟨b, off + j, none⟩ = some (.string t)) := fun W hW => HS5.out W (hb6.trans (hW.mono hb6.size))
      have HEV6 : Hid (∀ W, Below w6.heap.size w6 W → ErrV W) := fun W hW => HEV5.out W (hb6.trans (hW.mono hb6.size))
      clear hb6 Hnum HZ5 HB5 HD5 HS5 HEV5 c0 t5 HC5
      have d1 := HD6.out.cell 1
      simp only [List.getElem?_toArray, List.getElem?_cons_zero, List.getElem?_cons_succ] at d1
      by_cases hG : G = 0
      · have HV : Hid (.tuple #[.agg #[.int .i64 0, .int .i64 0, .int .u64 0, .int .u64 0], .int .i64 0, .int .i64 13] = readV (readAns (s :: s1 :: s2 :: r))) := by show _ = _; rw [HV0.out, readRest_no a s1 s2 r (.inl (by rw [HF.out]; omega))]; rfl
        have hGb : (G == 0) = true := by simpa using hG
        subst hG
        have z0 := HZ6.out.frozen 0
        have z1 := HZ6.out.frozen 1
        have z2 := HZ6.out.frozen 2
        have z3 := HZ6.out.frozen 3
        have y0 := HZ6.out.cell 0
        have y1 := HZ6.out.cell 1
        have y2 := HZ6.out.cell 2
        have y3 := HZ6.out.cell 3
        simp only [List.getElem?_toArray, List.getElem?_cons_zero, List.getElem?_cons_succ] at y0 y1 y2 y3
        go_wp2
        have bF := (((HZ6.out.set 0 (.int .i64 0)).set 1 (.int .i64 0)).set 2 (.int .u64 0)).set 3 (.int .u64 0)
        have e0 := bF.cell 0
        have e1 := bF.cell 1
        have e2 := bF.cell 2
        have e3 := bF.cell 3
        simp at e0 e1 e2 e3
        refine bodyPost_ret (v := .tuple #[.agg #[.int .i64 0, .int .i64 0, .int .u64 0, .int .u64 0], .int .i64 0, .int .i64 13]) (by simp [results, Tryd.results9, go_sem, e0, e1, e2, e3]) rfl ⟨congrArg Ending.returned HV.out, ?_⟩
        exact (((HB6.out.setCell (p := ⟨w.heap.size + 1, 0, none⟩) (by simp) _).setCell (p := ⟨w.heap.size + 1, 1, none⟩) (by simp) _).setCell (p := ⟨w.heap.size + 1, 2, none⟩) (by simp) _).setCell (p := ⟨w.heap.size + 1, 3, none⟩) (by simp) _
      have hGb : (G == 0) = false := by simpa using hG
      have f3 := HD6.out.frozen 3
      have d3 := HD6.out.cell 3
      simp only [List.getElem?_toArray, List.getElem?_cons_zero, List.getElem?_cons_succ] at d3
      by_cases hG7 : G = 7
      case neg =>
        have hGb7 : (G != 7) = true := by simpa using hG7
        have HV : Hid (.tuple #[.agg #[.int .i64 (a : Int), .int .i64 G, .int .u64 0, .int .u64 (u : Int)], .int .i64 3, .int .i64 0] = readV (readAns (s :: s1 :: s2 :: r))) := by
          show _ = _
          rw [HV0.out, readRest_val a s1 s2 r (by rw [HF.out]; omega) (by rw [HF.out]; omega) HQ.out, HF.out]
          show _ = readV ⟨_, _, _, _, _, _⟩
          unfold readV
          rw [show G - 1 + 1 = G by omega]
        go_upto_region 14 with fail
        have HD7 := Lib.hid (HD6.out.set 3 (.int .u64 (u : Int)))
        have HZ7 := Lib.hid (HZ6.out.other (by have := HDZ.out; omega : w.heap.size + 1 ≠ D) 3 (.int .u64 (u : Int)))
        have HB7 := Lib.hid (HB6.out.setCell (p := ⟨D, 3, none⟩) (by have := HDZ.out; show w.heap.size ≤ D; omega) (.int .u64 (u : Int)))
        clear HZ6 HB6 HD6 HC6 HS6 HEV6 d1 d3 f3
        generalize w6.setCell ⟨D, 3, none⟩ (.int .u64 (u : Int)) = W7 at *
        have d0 := HD7.out.cell 0
        have d1 := HD7.out.cell 1
        have d2 := HD7.out.cell 2
        have d3 := HD7.out.cell 3
        simp at d0 d1 d2 d3
        have z0 := HZ7.out.frozen 0
        have z1 := HZ7.out.frozen 1
        have z2 := HZ7.out.frozen 2
        have z3 := HZ7.out.frozen 3
        have y0 := HZ7.out.cell 0
        have y1 := HZ7.out.cell 1
        have y2 := HZ7.out.cell 2
        have y3 := HZ7.out.cell 3
        simp only [List.getElem?_toArray, List.getElem?_cons_zero, List.getElem?_cons_succ] at y0 y1 y2 y3
        go_wp2
        have bF := (((HZ7.out.set 0 (.int .i64 (a : Int))).set 1 (.int .i64 G)).set 2 (.int .u64 0)).set 3 (.int .u64 (u : Int))
        have e0 := bF.cell 0
        have e1 := bF.cell 1
        have e2 := bF.cell 2
        have e3 := bF.cell 3
        simp at e0 e1 e2 e3
        refine bodyPost_ret (v := .tuple #[.agg #[.int .i64 (a : Int), .int .i64 G, .int .u64 0, .int .u64 (u : Int)], .int .i64 3, .int .i64 0]) (by simp [results, Tryd.results9, go_sem, e0, e1, e2, e3]) rfl ⟨congrArg Ending.returned HV.out, ?_⟩
        exact (((HB7.out.setCell (p := ⟨w.heap.size + 1, 0, none⟩) (by simp) _).setCell (p := ⟨w.heap.size + 1, 1, none⟩) (by simp) _).setCell (p := ⟨w.heap.size + 1, 2, none⟩) (by simp) _).setCell (p := ⟨w.heap.size + 1, 3, none⟩) (by simp) _
      have hGb7 : (G != 7) = false := by rw [hG7]; rfl
      have HVM : Hid (readAns (s :: s1 :: s2 :: r) = readMask a u r) := by show _ = _; rw [HV0.out, readRest_mask a s1 s2 r (by rw [HF.out]; omega) HQ.out]
      subst hG7
      have c6 := HC6.out.cell 0
      simp only [List.getElem?_toArray, List.getElem?_cons_zero] at c6
      go_upto_region 15 with fail
      rcases r with _ | ⟨s3, _ | ⟨s4, r⟩⟩
      · have hn5 : (n : Int) < 5 := by have := HN.out; simp at this; omega
        have HV : Hid (.tuple #[.agg #[.int .i64 0, .int .i64 0, .int .u64 0, .int .u64 0], .int .i64 0, .int .i64 13] = readV (readAns (s :: s1 :: s2 :: []))) := by show _ = _; rw [HVM.out]; rfl
        have z0 := HZ6.out.frozen 0
        have z1 := HZ6.out.frozen 1
        have z2 := HZ6.out.frozen 2
        have z3 := HZ6.out.frozen 3
        have y0 := HZ6.out.cell 0
        have y1 := HZ6.out.cell 1
        have y2 := HZ6.out.cell 2
        have y3 := HZ6.out.cell 3
        simp only [List.getElem?_toArray, List.getElem?_cons_zero, List.getElem?_cons_succ] at y0 y1 y2 y3
        go_wp2
        have bF := (((HZ6.out.set 0 (.int .i64 0)).set 1 (.int .i64 0)).set 2 (.int .u64 0)).set 3 (.int .u64 0)
        have e0 := bF.cell 0
        have e1 := bF.cell 1
        have e2 := bF.cell 2
        have e3 := bF.cell 3
        simp at e0 e1 e2 e3
        refine bodyPost_ret (v := .tuple #[.agg #[.int .i64 0, .int .i64 0, .int .u64 0, .int .u64 0], .int .i64 0, .int .i64 13]) (by simp [results, Tryd.results9, go_sem, e0, e1, e2, e3]) rfl ⟨congrArg Ending.returned HV.out, ?_⟩
        exact (((HB6.out.setCell (p := ⟨w.heap.size + 1, 0, none⟩) (by simp) _).setCell (p := ⟨w.heap.size + 1, 1, none⟩) (by simp) _).setCell (p := ⟨w.heap.size + 1, 2, none⟩) (by simp) _).setCell (p := ⟨w.heap.size + 1, 3, none⟩) (by simp) _
      · have hn5 : (n : Int) < 5 := by have := HN.out; simp at this; omega
        have HV : Hid (.tuple #[.agg #[.int .i64 0, .int .i64 0, .int .u64 0, .int .u64 0], .int .i64 0, .int .i64 13] = readV (readAns (s :: s1 :: s2 :: [s3]))) := by show _ = _; rw [HVM.out]; rfl
        have z0 := HZ6.out.frozen 0
        have z1 := HZ6.out.frozen 1
        have z2 := HZ6.out.frozen 2
        have z3 := HZ6.out.frozen 3
        have y0 := HZ6.out.cell 0
        have y1 := HZ6.out.cell 1
        have y2 := HZ6.out.cell 2
        have y3 := HZ6.out.cell 3
        simp only [List.getElem?_toArray, List.getElem?_cons_zero, List.getElem?_cons_succ] at y0 y1 y2 y3
        go_wp2
        have bF := (((HZ6.out.set 0 (.int .i64 0)).set 1 (.int .i64 0)).set 2 (.int .u64 0)).set 3 (.int .u64 0)
        have e0 := bF.cell 0
        have e1 := bF.cell 1
        have e2 := bF.cell 2
        have e3 := bF.cell 3
        simp at e0 e1 e2 e3
        refine bodyPost_ret (v := .tuple #[.agg #[.int .i64 0, .int .i64 0, .int .u64 0, .int .u64 0], .int .i64 0, .int .i64 13]) (by simp [results, Tryd.results9, go_sem, e0, e1, e2, e3]) rfl ⟨congrArg Ending.returned HV.out, ?_⟩
        exact (((HB6.out.setCell (p := ⟨w.heap.size + 1, 0, none⟩) (by simp) _).setCell (p := ⟨w.heap.size + 1, 1, none⟩) (by simp) _).setCell (p := ⟨w.heap.size + 1, 2, none⟩) (by simp) _).setCell (p := ⟨w.heap.size + 1, 3, none⟩) (by simp) _
      have hn5 : ¬ (n : Int) < 5 := by have := HN.out; simp at this; omega
      have hn33 : (3 : Int) < (n : Int) := by omega
      have hn44 : (4 : Int) < (n : Int) := by omega
      have t3 := HS6.out w6 (Below.refl _ w6) 3 s3 rfl
      have t4 := HS6.out w6 (Below.refl _ w6) 4 s4 rfl
      have hs4 : s4.size ≤ 281474976710656 := by have := hsz s4 (by simp); omega
      cases h3 : s3.toList == [61, 61] with
      | false =>
        have HV : Hid (.tuple #[.agg #[.int .i64 0, .int .i64 0, .int .u64 0, .int .u64 0], .int .i64 0, .int .i64 13] = readV (readAns (s :: s1 :: s2 :: s3 :: s4 :: r))) := by show _ = _; rw [HVM.out, readMask_no a u s3 s4 r (.inl h3)]; rfl
        have h3n : ¬ s3.toList = [61, 61] := by simpa using h3
        have h3b : (s3.toList != [61, 61]) = true := by simpa using h3
        have z0 := HZ6.out.frozen 0
        have z1 := HZ6.out.frozen 1
        have z2 := HZ6.out.frozen 2
        have z3 := HZ6.out.frozen 3
        have y0 := HZ6.out.cell 0
        have y1 := HZ6.out.cell 1
        have y2 := HZ6.out.cell 2
        have y3 := HZ6.out.cell 3
        simp only [List.getElem?_toArray, List.getElem?_cons_zero, List.getElem?_cons_succ] at y0 y1 y2 y3
        go_wp2
        have bF := (((HZ6.out.set 0 (.int .i64 0)).set 1 (.int .i64 0)).set 2 (.int .u64 0)).set 3 (.int .u64 0)
        have e0 := bF.cell 0
        have e1 := bF.cell 1
        have e2 := bF.cell 2
        have e3 := bF.cell 3
        simp at e0 e1 e2 e3
        refine bodyPost_ret (v := .tuple #[.agg #[.int .i64 0, .int .i64 0, .int .u64 0, .int .u64 0], .int .i64 0, .int .i64 13]) (by simp [results, Tryd.results9, go_sem, e0, e1, e2, e3]) rfl ⟨congrArg Ending.returned HV.out, ?_⟩
        exact (((HB6.out.setCell (p := ⟨w.heap.size + 1, 0, none⟩) (by simp) _).setCell (p := ⟨w.heap.size + 1, 1, none⟩) (by simp) _).setCell (p := ⟨w.heap.size + 1, 2, none⟩) (by simp) _).setCell (p := ⟨w.heap.size + 1, 3, none⟩) (by simp) _
      | true =>
        have h3e : s3.toList = [61, 61] := by simpa using h3
        have h3b : (s3.toList != [61, 61]) = false := by simpa using h3
        have H3 := Lib.hid h3
        have f2 := HD6.out.frozen 2
        have d2 := HD6.out.cell 2
        simp only [List.getElem?_toArray, List.getElem?_cons_zero, List.getElem?_cons_succ] at d2
        go_upto_region 18 with fail
        have HD7 := Lib.hid (HD6.out.set 2 (.int .u64 (u : Int)))
        have HZ7 := Lib.hid (HZ6.out.other (by have := HDZ.out; omega : w.heap.size + 1 ≠ D) 2 (.int .u64 (u : Int)))
        have HC7 := Lib.hid (HC6.out.other (by have := HDZ.out; omega : w.heap.size ≠ D) 2 (.int .u64 (u : Int)))
        have HB7 := Lib.hid (HB6.out.setCell (p := ⟨D, 2, none⟩) (by have := HDZ.out; show w.heap.size ≤ D; omega) (.int .u64 (u : Int)))
        have t7 : (w6.setCell ⟨D, 2, none⟩ (.int .u64 (u : Int))).cell? ⟨b, off + 4, none⟩ = some (.string s4) := (((Below.refl w.heap.size w6).setCell (p := ⟨D, 2, none⟩) (by have := HDZ.out; show w.heap.size ≤ D; omega) _).cell (show (⟨b, off + 4, none⟩ : Addr).block < w.heap.size from HLT.out)).trans t4
        have HEV7 : Hid (ErrV (w6.setCell ⟨D, 2, none⟩ (.int .u64 (u : Int)))) := (HEV6.out w6 (Below.refl _ w6)).kept ((Below.refl w.heap.size w6).setCell (p := ⟨D, 2, none⟩) (by have := HDZ.out; show w.heap.size ≤ D; omega) _) HGL.out
        clear HZ6 HB6 HD6 HC6 HS6 HEV6 d1 d2 d3 f3 f2 t3 t4 c6 h3 h3e h3b
        generalize w6.setCell ⟨D, 2, none⟩ (.int .u64 (u : Int)) = W7 at *
        have c7 := HC7.out.cell 0
        simp only [List.getElem?_toArray, List.getElem?_cons_zero] at c7
        obtain ⟨q, hq⟩ : ∃ q, numOf s4.data.toList = q := ⟨_, rfl⟩
        cases q with
        | none =>
          have HV : Hid (.tuple #[.agg #[.int .i64 0, .int .i64 0, .int .u64 0, .int .u64 0], .int .i64 0, .int .i64 13] = readV (readAns (s :: s1 :: s2 :: s3 :: s4 :: r))) := by show _ = _; rw [HVM.out, readMask_no a u s3 s4 r (.inr hq)]; rfl
          have Hnum := Lib.hid (fun W hW => number_none s4 hs4 hq W hW)
          clear hq
          go_wp2_with fail
          refine (Hnum.out _ HEV7.out).mono ?_
          rintro e w8 ⟨rfl, hb8⟩
          have HZ8 := blkB HZ7 hb8
          have HB8 := belB HB7 hb8
          have HD8 := blkB HD7 hb8
          clear hb8 Hnum HZ7 HB7 HD7 HEV7 c7 t7 HC7
          have f3 := HD8.out.frozen 3
          have d3 := HD8.out.cell 3
          simp at d3
          go_upto_region 19 with fail
          have HZ9 := Lib.hid (HZ8.out.other (by have := HDZ.out; omega : w.heap.size + 1 ≠ D) 3 (.int .u64 0))
          have HB9 := Lib.hid (HB8.out.setCell (p := ⟨D, 3, none⟩) (by have := HDZ.out; show w.heap.size ≤ D; omega) (.int .u64 0))
          clear HZ8 HB8 HD8 f3 d3
          generalize w8.setCell ⟨D, 3, none⟩ (.int .u64 0) = W9 at *
          have z0 := HZ9.out.frozen 0
          have z1 := HZ9.out.frozen 1
          have z2 := HZ9.out.frozen 2
          have z3 := HZ9.out.frozen 3
          have y0 := HZ9.out.cell 0
          have y1 := HZ9.out.cell 1
          have y2 := HZ9.out.cell 2
          have y3 := HZ9.out.cell 3
          simp only [List.getElem?_toArray, List.getElem?_cons_zero, List.getElem?_cons_succ] at y0 y1 y2 y3
          go_wp2
          have bF := (((HZ9.out.set 0 (.int .i64 0)).set 1 (.int .i64 0)).set 2 (.int .u64 0)).set 3 (.int .u64 0)
          have e0 := bF.cell 0
          have e1 := bF.cell 1
          have e2 := bF.cell 2
          have e3 := bF.cell 3
          simp at e0 e1 e2 e3
          refine bodyPost_ret (v := .tuple #[.agg #[.int .i64 0, .int .i64 0, .int .u64 0, .int .u64 0], .int .i64 0, .int .i64 13]) (by simp [results, Tryd.results9, go_sem, e0, e1, e2, e3]) rfl ⟨congrArg Ending.returned HV.out, ?_⟩
          exact (((HB9.out.setCell (p := ⟨w.heap.size + 1, 0, none⟩) (by simp) _).setCell (p := ⟨w.heap.size + 1, 1, none⟩) (by simp) _).setCell (p := ⟨w.heap.size + 1, 2, none⟩) (by simp) _).setCell (p := ⟨w.heap.size + 1, 3, none⟩) (by simp) _
        | some v =>
          have HV : Hid (.tuple #[.agg #[.int .i64 (a : Int), .int .i64 7, .int .u64 (u : Int), .int .u64 (v : Int)], .int .i64 5, .int .i64 0] = readV (readAns (s :: s1 :: s2 :: s3 :: s4 :: r))) := by show _ = _; rw [HVM.out, readMask_val a u s3 s4 r H3.out hq]; rfl
          have Hnum := Lib.hid (fun W hW => number_some s4 hs4 hq W hW)
          clear hq
          go_wp2_with fail
          refine (Hnum.out _ HEV7.out).mono ?_
          rintro e w8 ⟨rfl, hb8⟩
          have HZ8 := blkB HZ7 hb8
          have HB8 := belB HB7 hb8
          have HD8 := blkB HD7 hb8
          clear hb8 Hnum HZ7 HB7 HD7 HEV7 c7 t7 HC7
          have f3 := HD8.out.frozen 3
          have d3 := HD8.out.cell 3
          simp at d3
          go_upto_region 19 with fail
          have HD9 := Lib.hid (HD8.out.set 3 (.int .u64 (v : Int)))
          have HZ9 := Lib.hid (HZ8.out.other (by have := HDZ.out; omega : w.heap.size + 1 ≠ D) 3 (.int .u64 (v : Int)))
          have HB9 := Lib.hid (HB8.out.setCell (p := ⟨D, 3, none⟩) (by have := HDZ.out; show w.heap.size ≤ D; omega) (.int .u64 (v : Int)))
          clear HZ8 HB8 HD8 f3 d3
          generalize w8.setCell ⟨D, 3, none⟩ (.int .u64 (v : Int)) = W9 at *
          have d0 := HD9.out.cell 0
          have d1 := HD9.out.cell 1
          have d2 := HD9.out.cell 2
          have d3 := HD9.out.cell 3
          simp at d0 d1 d2 d3
          have z0 := HZ9.out.frozen 0
          have z1 := HZ9.out.frozen 1
          have z2 := HZ9.out.frozen 2
          have z3 := HZ9.out.frozen 3
          have y0 := HZ9.out.cell 0
          have y1 := HZ9.out.cell 1
          have y2 := HZ9.out.cell 2
          have y3 := HZ9.out.cell 3
          simp only [List.getElem?_toArray, List.getElem?_cons_zero, List.getElem?_cons_succ] at y0 y1 y2 y3
          go_wp2
          have bF := (((HZ9.out.set 0 (.int .i64 (a : Int))).set 1 (.int .i64 7)).set 2 (.int .u64 (u : Int))).set 3 (.int .u64 (v : Int))
          have e0 := bF.cell 0
          have e1 := bF.cell 1
          have e2 := bF.cell 2
          have e3 := bF.cell 3
          simp at e0 e1 e2 e3
          refine bodyPost_ret (v := .tuple #[.agg #[.int .i64 (a : Int), .int .i64 7, .int .u64 (u : Int), .int .u64 (v : Int)], .int .i64 5, .int .i64 0]) (by simp [results, Tryd.results9, go_sem, e0, e1, e2, e3]) rfl ⟨congrArg Ending.returned HV.out, ?_⟩
          exact (((HB9.out.setCell (p := ⟨w.heap.size + 1, 0, none⟩) (by simp) _).setCell (p := ⟨w.heap.size + 1, 1, none⟩) (by simp) _).setCell (p := ⟨w.heap.size + 1, 2, none⟩) (by simp) _).setCell (p := ⟨w.heap.size + 1, 3, none⟩) (by simp) _
end Go.Proofs.YtlmobmbglninkaaDoor
