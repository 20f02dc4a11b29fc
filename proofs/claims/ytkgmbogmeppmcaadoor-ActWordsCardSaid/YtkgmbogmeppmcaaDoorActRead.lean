/- act.Read: the action that words begin with. -/
import Derived.Test.YtkgmbogmeppmcaaDoorActRd
import Derived.Deep.Cut
namespace Go.Proofs.YtkgmbogmeppmcaaDoor
open Go Go.Proofs Go.RowKit

/-- Words in memory. -/
def WordsV (W : World) (sv : Value) (ws : List ByteArray) : Prop :=
  ∃ a c, sv = .slice a ws.length c ∧ (ws = [] ∨ ∃ b off, a = some ⟨b, off, none⟩ ∧ b < W.heap.size ∧ ∀ j (s : ByteArray), ws[j]? = some s → W.cell? ⟨b, off + j, none⟩ = some (.string s))
/-- What stands behind a word that takes a number. -/
def readRest (K : Int) : List ByteArray → Int × Int × Int × Int
  | [] => (0, 0, 0, 13)
  | t :: _ =>
    match refNum t with
    | none => (0, 0, 0, 13)
    | some n => if actGreatest K < (n : Int) then (0, 0, 0, 16) else (K, (n : Int), 2, 0)
/-- What Read answers: a kind, a number, how many words, an error's number. -/
def readAns : List ByteArray → Int × Int × Int × Int
  | [] => (0, 0, 0, 4)
  | s :: r =>
    if firstN (wordB s) = -1 then (0, 0, 0, 14)
    else if ¬ (firstN (wordB s) + 1 = 4 ∨ firstN (wordB s) + 1 = 6) then (firstN (wordB s) + 1, 0, 1, 0)
    else readRest (firstN (wordB s) + 1) r
def readV (x : Int × Int × Int × Int) : Value := .tuple #[.agg #[.int .i64 x.1, .int .i64 x.2.1], .int .i64 x.2.2.1, .int .i64 x.2.2.2]

set_option maxRecDepth 100000 in
set_option maxHeartbeats 2000000 in
theorem read_any (sv : Value) (ws : List ByteArray) (hbig : ws.length ≤ 1000000) (hsz : ∀ s ∈ ws, s.size ≤ 1000000) (w : World) (hW : WordsV w sv ws) :
    Calls Tryd.prog 27 #[sv] w fun e w' => e = .returned (readV (readAns ws)) ∧ Below w.heap.size w w' := by
  obtain ⟨ad, c, rfl, hx⟩ := hW
  have bC := (Blk.new w 52 #[.slice ad ws.length c]).alloc (.cells #[.int .i64 0, .int .i64 0] 25)
  have bZ := Blk.new (w.alloc (.cells #[.slice ad ws.length c] 52)) 25 #[.int .i64 0, .int .i64 0]
  have hb1 := ((Below.refl w.heap.size w).alloc (Nat.le_refl _) (.cells #[.slice ad ws.length c] 52)).alloc (by simp) (.cells #[.int .i64 0, .int .i64 0] 25)
  simp only [World.size_alloc] at bZ
  have HC := Lib.hid bC
  have HZ := Lib.hid bZ
  have HB := Lib.hid hb1
  clear bC bZ hb1
  cases ws with
  | nil =>
    clear hx HZ
    have c0 := HC.out.cell 0
    simp only [List.getElem?_toArray, List.getElem?_cons_zero] at c0
    go_enter Tryd.func27, Tryd.ntmps27
    go_wp2
    refine bodyPost_ret (v := .tuple #[.agg #[.int .i64 0, .int .i64 0], .int .i64 0, .int .i64 4]) (by simp [results, Tryd.results27, go_sem]) rfl ⟨rfl, ?_⟩
    exact HB.out
  | cons s r =>
    obtain ⟨b, off, rfl, hlt, hcells⟩ := hx.resolve_left (fun h => by cases h)
    have HCE := Lib.hid hcells
    obtain ⟨n, hn⟩ : ∃ n, (s :: r).length = n := ⟨_, rfl⟩
    have hn0 : 0 < n := by rw [← hn]; simp
    rw [hn] at HC hbig ⊢
    have hn0z : ¬ (n : Int) = 0 := by omega
    have hn0b : ((n : Int) == 0) = false := by simpa using hn0z
    have HN := Lib.hid hn
    have HLT := Lib.hid hlt
    have hbw : Hid (Below w.heap.size w ((w.alloc (.cells #[.slice (some ⟨b, off, none⟩) n c] 52)).alloc (.cells #[.int .i64 0, .int .i64 0] 25))) := ((Below.refl w.heap.size w).alloc (Nat.le_refl _) _).alloc (by simp) _
    clear HB hx hcells hlt
    have c0 := HC.out.cell 0
    simp only [List.getElem?_toArray, List.getElem?_cons_zero] at c0
    clear hn
    have HZ' : Hid (Blk ((w.alloc (.cells #[.slice (some ⟨b, off, none⟩) n c] 52)).alloc (.cells #[.int .i64 0, .int .i64 0] 25)) (w.heap.size + 1) 25 #[.int .i64 0, .int .i64 0]) := by
      have := Blk.new (w.alloc (.cells #[.slice (some ⟨b, off, none⟩) n c] 52)) 25 #[.int .i64 0, .int .i64 0]
      simp only [World.size_alloc] at this
      exact this
    clear HZ
    go_enter Tryd.func27, Tryd.ntmps27
    go_wp2_with fail
    refine (rows_ok _).mono ?_
    rintro e w2 ⟨g, rfl, hr, hb2⟩
    have HC2 := blkB HC hb2
    have HZ2 := blkB HZ' hb2
    have HB2 := Lib.hid (hbw.out.trans (hb2.mono hbw.out.size))
    have HS : Hid (∀ W, Below w2.heap.size w2 W → ∀ j t, (s :: r)[j]? = some t → W.cell? ⟨b, off + j, none⟩ = some (.string t)) := fun W hW j t ht =>
      cellLater hW (cellLater (w := _) (HB2.out.mono (Nat.le_refl _)) (HCE.out j t ht))
    have hidx := indexFunc_act (wordB s) 47 #[.pointer (some ⟨w.heap.size, 0, none⟩)] (enters_of Tryd.func47 (by kernel_rfl) rfl) g w2
      (fun W j mv hj hB hm => read1_any s (j + 1) w.heap.size b off n c mv W hn0 (HC2.out.below hB HC2.out.lt) (HS.out W hB 0 s rfl)) hr
    clear hr hb2 HC HZ' hbw c0 HCE
    rcases firstN_cases (wordB s) with ⟨hF, _⟩ | ⟨k, hk, hF, _, _⟩
    · have hV : readV (readAns (s :: r)) = .tuple #[.agg #[.int .i64 0, .int .i64 0], .int .i64 0, .int .i64 14] := by
        unfold readAns
        dsimp only
        rw [if_pos hF]
        rfl
      rw [hF] at hidx
      have HV := Lib.hid hV
      have Hidx := Lib.hid hidx
      have Hof := Lib.hid (fun W => of_none 0 (by omega) W)
      clear hidx hF hV
      go_wp2_with fail
      refine Hidx.out.mono ?_
      rintro e w3 ⟨rfl, hb3⟩
      go_wp2_with fail
      refine (Hof.out _).mono ?_
      rintro e w4 ⟨rfl, hb4⟩
      have HB4 := Lib.hid ((belB (belB HB2 hb3) hb4).out.alloc (belB (belB HB2 hb3) hb4).out.size (.cells #[.string ⟨#[]⟩, .int .u32 0, .nilFunc] 64))
      have HZ4 := Lib.hid ((blkB (blkB HZ2 hb3) hb4).out.alloc (.cells #[.string ⟨#[]⟩, .int .u32 0, .nilFunc] 64))
      have z0 := HZ4.out.frozen 0
      have z1 := HZ4.out.frozen 1
      have y0 := HZ4.out.cell 0
      have y1 := HZ4.out.cell 1
      simp only [List.getElem?_toArray, List.getElem?_cons_zero, List.getElem?_cons_succ] at y0 y1
      clear hb3 hb4 Hidx Hof HZ2 HB2
      go_wp2
      have bF := ((HZ4.out.set 0 (.int .i64 0)).set 1 (.int .i64 0))
      have e0 := bF.cell 0
      have e1 := bF.cell 1
      simp at e0 e1
      refine bodyPost_ret (v := .tuple #[.agg #[.int .i64 0, .int .i64 0], .int .i64 0, .int .i64 14]) (by simp [results, Tryd.results27, go_sem, e0, e1]) rfl ⟨congrArg Ending.returned HV.out.symm, ?_⟩
      exact (HB4.out.setCell (p := ⟨w.heap.size + 1, 0, none⟩) (by simp) _).setCell (p := ⟨w.heap.size + 1, 1, none⟩) (by simp) _
    · obtain ⟨K, hKe⟩ : ∃ K : Int, K = (k : Int) + 1 := ⟨_, rfl⟩
      have hK1 : 1 ≤ K := by omega
      have hK8 : K ≤ 8 := by omega
      have hKw : IntKind.i64.wrap (1 + (k : Int)) = K := by rw [IntWalk.i64_in _ (by omega)]; omega
      have hne : ¬ firstN (wordB s) = -1 := by rw [hF]; omega
      have hfK : firstN (wordB s) + 1 = K := by rw [hF]; exact hKe.symm
      have HFK := Lib.hid hfK
      have HNE := Lib.hid hne
      rw [hF] at hidx
      have Hidx := Lib.hid hidx
      clear hidx hF hfK hne hKe
      by_cases h46 : K = 4 ∨ K = 6
      case neg =>
        have hV : readV (readAns (s :: r)) = .tuple #[.agg #[.int .i64 K, .int .i64 0], .int .i64 1, .int .i64 0] := by
          unfold readAns
          dsimp only
          rw [if_neg HNE.out, HFK.out, if_pos h46]
          rfl
        have HV := Lib.hid hV
        have Hof := Lib.hid (fun W => of_plain K hK1 hK8 (fun h => h46 (.inl h)) (fun h => h46 (.inr h)) W)
        have hq := fun W => run_eql_nilFunc (P := Tryd.prog) W 62 Tryd.underlying62
        clear hV h46
        go_wp2_with fail
        refine Hidx.out.mono ?_
        rintro e w3 ⟨rfl, hb3⟩
        go_wp2_with fail
        refine (Hof.out _).mono ?_
        rintro e w4 ⟨rfl, hb4⟩
        have HB4 := Lib.hid ((belB (belB HB2 hb3) hb4).out.alloc (belB (belB HB2 hb3) hb4).out.size (.cells #[.string (actWord K), .int .u32 (actCode K), .nilFunc] 64))
        have HZ4 := Lib.hid ((blkB (blkB HZ2 hb3) hb4).out.alloc (.cells #[.string (actWord K), .int .u32 (actCode K), .nilFunc] 64))
        have hR4 := Blk.new w4 64 #[.string (actWord K), .int .u32 (actCode K), .nilFunc]
        have r2 := hR4.cell 2
        simp only [List.getElem?_toArray, List.getElem?_cons_zero, List.getElem?_cons_succ] at r2
        have z0 := HZ4.out.frozen 0
        have z1 := HZ4.out.frozen 1
        have y0 := HZ4.out.cell 0
        have y1 := HZ4.out.cell 1
        simp only [List.getElem?_toArray, List.getElem?_cons_zero, List.getElem?_cons_succ] at y0 y1
        clear hb3 hb4 Hidx Hof HZ2 HB2 hR4
        go_wp2
        have bF := ((HZ4.out.set 0 (.int .i64 K)).set 1 (.int .i64 0))
        have e0 := bF.cell 0
        have e1 := bF.cell 1
        simp at e0 e1
        refine bodyPost_ret (v := .tuple #[.agg #[.int .i64 K, .int .i64 0], .int .i64 1, .int .i64 0]) (by simp [results, Tryd.results27, go_sem, e0, e1]) rfl ⟨congrArg Ending.returned HV.out.symm, ?_⟩
        exact (HB4.out.setCell (p := ⟨w.heap.size + 1, 0, none⟩) (by simp) _).setCell (p := ⟨w.heap.size + 1, 1, none⟩) (by simp) _
      case pos =>
        have hq := fun W fn a c => run_eql_func_nil (P := Tryd.prog) W 62 fn a c Tryd.underlying62
        have hV0 : readAns (s :: r) = readRest K r := by
          unfold readAns
          dsimp only
          rw [if_neg HNE.out, HFK.out, if_neg (fun h => h h46)]
        have HV0 := Lib.hid hV0
        have g0 : 0 ≤ actGreatest K ∧ actGreatest K ≤ 100000 := by rcases h46 with rfl | rfl <;> decide
        have Hof := Lib.hid (fun W => of_num K h46 W)
        clear hV0 h46
        go_wp2_with fail
        refine Hidx.out.mono ?_
        rintro e w3 ⟨rfl, hb3⟩
        go_wp2_with fail
        refine (Hof.out _).mono ?_
        rintro e w4 ⟨B, rfl, hBB, hb4⟩
        have HB5 := Lib.hid ((belB (belB HB2 hb3) hb4).out.alloc (belB (belB HB2 hb3) hb4).out.size (.cells #[.string (actWord K), .int .u32 (actCode K), .func (.func 61) #[] #[.pointer (some ⟨B, 0, none⟩)]] 64))
        have HZ5 := Lib.hid ((blkB (blkB HZ2 hb3) hb4).out.alloc (.cells #[.string (actWord K), .int .u32 (actCode K), .func (.func 61) #[] #[.pointer (some ⟨B, 0, none⟩)]] 64))
        have HC5 := Lib.hid ((blkB (blkB HC2 hb3) hb4).out.alloc (.cells #[.string (actWord K), .int .u32 (actCode K), .func (.func 61) #[] #[.pointer (some ⟨B, 0, none⟩)]] 64))
        have HG5 := Lib.hid (hBB.alloc (.cells #[.string (actWord K), .int .u32 (actCode K), .func (.func 61) #[] #[.pointer (some ⟨B, 0, none⟩)]] 64))
        have HR5 := Lib.hid (Blk.new w4 64 #[.string (actWord K), .int .u32 (actCode K), .func (.func 61) #[] #[.pointer (some ⟨B, 0, none⟩)]])
        have HS5 : Hid (∀ W, Below (w4.alloc (.cells #[.string (actWord K), .int .u32 (actCode K), .func (.func 61) #[] #[.pointer (some ⟨B, 0, none⟩)]] 64)).heap.size (w4.alloc (.cells #[.string (actWord K), .int .u32 (actCode K), .func (.func 61) #[] #[.pointer (some ⟨B, 0, none⟩)]] 64)) W → ∀ j t, (s :: r)[j]? = some t → W.cell? ⟨b, off + j, none⟩ = some (.string t)) := fun W hW j t ht =>
          cellLater hW (HS.out _ (((hb3.trans (hb4.mono hb3.size))).alloc (Nat.le_trans hb3.size hb4.size) _) j t ht)
        clear hb3 hb4 Hidx Hof HZ2 HB2 HC2 hBB HS
        go_upto_region 7 with fail
        generalize w4.alloc (.cells #[.string (actWord K), .int .u32 (actCode K), .func (.func 61) #[] #[.pointer (some ⟨B, 0, none⟩)]] 64) = W5 at *
        generalize w4.heap.size = BR at *
        have c0 := HC5.out.cell 0
        have r2 := HR5.out.cell 2
        simp only [List.getElem?_toArray, List.getElem?_cons_zero, List.getElem?_cons_succ] at c0 r2
        cases r with
        | nil =>
          have hn1 : (n : Int) < 2 := by have := HN.out; simp at this; omega
          have HV : Hid (readV (readAns [s]) = .tuple #[.agg #[.int .i64 0, .int .i64 0], .int .i64 0, .int .i64 13]) := by show readV (readAns [s]) = _; rw [HV0.out]; rfl
          have z0 := HZ5.out.frozen 0
          have z1 := HZ5.out.frozen 1
          have y0 := HZ5.out.cell 0
          have y1 := HZ5.out.cell 1
          simp only [List.getElem?_toArray, List.getElem?_cons_zero, List.getElem?_cons_succ] at y0 y1
          go_wp2
          have bF := ((HZ5.out.set 0 (.int .i64 0)).set 1 (.int .i64 0))
          have e0 := bF.cell 0
          have e1 := bF.cell 1
          simp at e0 e1
          refine bodyPost_ret (v := .tuple #[.agg #[.int .i64 0, .int .i64 0], .int .i64 0, .int .i64 13]) (by simp [results, Tryd.results27, go_sem, e0, e1]) rfl ⟨congrArg Ending.returned HV.out.symm, ?_⟩
          exact (HB5.out.setCell (p := ⟨w.heap.size + 1, 0, none⟩) (by simp) _).setCell (p := ⟨w.heap.size + 1, 1, none⟩) (by simp) _
        | cons t r' =>
          have hn1 : ¬ (n : Int) < 2 := by have := HN.out; simp at this; omega
          have hn2 : (1 : Int) < (n : Int) := by omega
          have t0 := HS5.out W5 (Below.refl _ W5) 1 t rfl
          cases hm : refNum t with
          | none =>
            have HV : Hid (readV (readAns (s :: t :: r')) = .tuple #[.agg #[.int .i64 0, .int .i64 0], .int .i64 0, .int .i64 13]) := by show readV (readAns (s :: t :: r')) = _; rw [HV0.out]; unfold readRest; dsimp only; rw [hm]; rfl
            have Hpl := Lib.hid (fun W => plain_any t (by have := hsz t (by simp); omega) W)
            rw [hm] at Hpl
            clear hm
            go_wp2_with fail
            refine (Hpl.out _).mono ?_
            rintro e w6 ⟨rfl, hb6⟩
            have HZ6 := blkB HZ5 hb6
            have HB6 := belB HB5 hb6
            have z0 := HZ6.out.frozen 0
            have z1 := HZ6.out.frozen 1
            have y0 := HZ6.out.cell 0
            have y1 := HZ6.out.cell 1
            simp only [List.getElem?_toArray, List.getElem?_cons_zero, List.getElem?_cons_succ] at y0 y1
            clear t0 c0 r2 hb6
            go_wp2
            have bF := ((HZ6.out.set 0 (.int .i64 0)).set 1 (.int .i64 0))
            have e0 := bF.cell 0
            have e1 := bF.cell 1
            simp at e0 e1
            refine bodyPost_ret (v := .tuple #[.agg #[.int .i64 0, .int .i64 0], .int .i64 0, .int .i64 13]) (by simp [results, Tryd.results27, go_sem, e0, e1]) rfl ⟨congrArg Ending.returned HV.out.symm, ?_⟩
            exact (HB6.out.setCell (p := ⟨w.heap.size + 1, 0, none⟩) (by simp) _).setCell (p := ⟨w.heap.size + 1, 1, none⟩) (by simp) _
          | some m =>
            have Hpl := Lib.hid (fun W => plain_any t (by have := hsz t (by simp); omega) W)
            rw [hm] at Hpl
            have Hat := Lib.hid (fun W => atoi_any t m hm W)
            have HM := Lib.hid hm
            clear hm
            go_wp2_with fail
            refine (Hpl.out _).mono ?_
            rintro e w6 ⟨rfl, hb6⟩
            have HZ6 := blkB HZ5 hb6
            have HB6 := belB HB5 hb6
            have HC6 := blkB HC5 hb6
            have HR6 := blkB HR5 hb6
            have HG6 := blkB HG5 hb6
            have t6 := HS5.out w6 hb6 1 t rfl
            have c6 := HC6.out.cell 0
            simp only [List.getElem?_toArray, List.getElem?_cons_zero] at c6
            clear t0 c0 r2 hb6 Hpl HZ5 HB5 HC5 HR5 HG5
            go_wp2_with fail
            refine (Hat.out _).mono ?_
            rintro e w7 ⟨rfl, hb7⟩
            have HZ7 := blkB HZ6 hb7
            have HB7 := belB HB6 hb7
            have HR7 := blkB HR6 hb7
            have HG7 := blkB HG6 hb7
            have p0 := HR7.out.cell 0
            have p1 := HR7.out.cell 1
            have p2 := HR7.out.cell 2
            simp only [List.getElem?_toArray, List.getElem?_cons_zero, List.getElem?_cons_succ] at p0 p1 p2
            have Hgr := Lib.hid (greatest_some (actWord K) (actCode K) (actGreatest K) B w7 HG7.out g0.1 g0.2)
            clear t6 c6 hb7 Hat HZ6 HB6 HR6 HG6 HG7
            go_wp2_with fail
            refine Hgr.out.mono ?_
            rintro e w8 ⟨rfl, hb8⟩
            have HZ8 := blkB HZ7 hb8
            have HB8 := belB HB7 hb8
            have z0 := HZ8.out.frozen 0
            have z1 := HZ8.out.frozen 1
            have y0 := HZ8.out.cell 0
            have y1 := HZ8.out.cell 1
            simp only [List.getElem?_toArray, List.getElem?_cons_zero, List.getElem?_cons_succ] at y0 y1
            clear p0 p1 p2 hb8 Hgr HZ7 HB7 HR7
            by_cases hgt : actGreatest K < (m : Int)
            · have HV : Hid (readV (readAns (s :: t :: r')) = .tuple #[.agg #[.int .i64 0, .int .i64 0], .int .i64 0, .int .i64 16]) := by show readV (readAns (s :: t :: r')) = _; rw [HV0.out]; unfold readRest; dsimp only; rw [HM.out]; dsimp only; rw [if_pos hgt]; rfl
              go_wp2
              have bF := ((HZ8.out.set 0 (.int .i64 0)).set 1 (.int .i64 0))
              have e0 := bF.cell 0
              have e1 := bF.cell 1
              simp at e0 e1
              refine bodyPost_ret (v := .tuple #[.agg #[.int .i64 0, .int .i64 0], .int .i64 0, .int .i64 16]) (by simp [results, Tryd.results27, go_sem, e0, e1]) rfl ⟨congrArg Ending.returned HV.out.symm, ?_⟩
              exact (HB8.out.setCell (p := ⟨w.heap.size + 1, 0, none⟩) (by simp) _).setCell (p := ⟨w.heap.size + 1, 1, none⟩) (by simp) _
            · have HV : Hid (readV (readAns (s :: t :: r')) = .tuple #[.agg #[.int .i64 K, .int .i64 (m : Int)], .int .i64 2, .int .i64 0]) := by show readV (readAns (s :: t :: r')) = _; rw [HV0.out]; unfold readRest; dsimp only; rw [HM.out]; dsimp only; rw [if_neg hgt]; rfl
              go_wp2
              have bF := ((HZ8.out.set 0 (.int .i64 K)).set 1 (.int .i64 (m : Int)))
              have e0 := bF.cell 0
              have e1 := bF.cell 1
              simp at e0 e1
              refine bodyPost_ret (v := .tuple #[.agg #[.int .i64 K, .int .i64 (m : Int)], .int .i64 2, .int .i64 0]) (by simp [results, Tryd.results27, go_sem, e0, e1]) rfl ⟨congrArg Ending.returned HV.out.symm, ?_⟩
              exact (HB8.out.setCell (p := ⟨w.heap.size + 1, 0, none⟩) (by simp) _).setCell (p := ⟨w.heap.size + 1, 1, none⟩) (by simp) _
end Go.Proofs.YtkgmbogmeppmcaaDoor
