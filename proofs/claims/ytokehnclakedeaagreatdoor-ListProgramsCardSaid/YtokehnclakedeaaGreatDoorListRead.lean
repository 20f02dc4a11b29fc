/- list.Read: what a line says. -/
import Derived.Test.YtokehnclakedeaaGreatDoorListCatch
namespace Go.Proofs.YtokehnclakedeaaGreatDoor
open Go Go.Proofs Go.RowKit Go.Shelf

theorem wordsGo_sz : ∀ (l w : List UInt8) (out : List ByteArray), ∀ x ∈ wordsGo l w out, x ∈ out ∨ x.size ≤ w.length + l.length
  | [], w, out, x, hx => by
    have hx' : x ∈ flush w out := hx
    unfold flush at hx'
    split at hx'
    · exact .inl hx'
    · rcases List.mem_append.1 hx' with h | h
      · exact .inl h
      · simp at h
        subst h
        right
        show w.toArray.size ≤ _
        simp
  | c :: r, w, out, x, hx => by
    have hx' : x ∈ (if blkB c then wordsGo r [] (flush w out) else wordsGo r (w ++ [c]) out) := hx
    split at hx'
    · rcases wordsGo_sz r [] _ x hx' with h | h
      · unfold flush at h
        split at h
        · exact .inl h
        · rcases List.mem_append.1 h with h | h
          · exact .inl h
          · simp at h
            subst h
            right
            show w.toArray.size ≤ _
            simp
      · right; simp at h ⊢; omega
    · rcases wordsGo_sz r (w ++ [c]) out x hx' with h | h
      · exact .inl h
      · right; simp at h ⊢; omega
theorem wordsGo_ct : ∀ (l w : List UInt8) (out : List ByteArray), (wordsGo l w out).length ≤ out.length + l.length + (if w = [] then 0 else 1) := by
  intro l
  induction l with
  | nil =>
    intro w out
    show (flush w out).length ≤ _
    unfold flush
    split <;> simp
  | cons c r ih =>
    intro w out
    show (if blkB c then wordsGo r [] (flush w out) else wordsGo r (w ++ [c]) out).length ≤ _
    split
    · have := ih [] (flush w out)
      rw [if_pos rfl] at this
      unfold flush at this ⊢
      split at this
      · rename_i e; rw [if_pos e] at *; simp at this ⊢; omega
      · rename_i e; rw [if_neg e] at *; simp at this ⊢; omega
    · have := ih (w ++ [c]) out
      rw [if_neg (by simp)] at this
      simp at this ⊢
      split <;> omega
theorem lineWords_sz {l : List UInt8} (h : l.length ≤ 1000000) : ∀ x ∈ lineWords l, x.size ≤ 1000000 := by
  intro x hx
  have hc : (noteCut l).length ≤ l.length := cutV_len 59 l
  rcases wordsGo_sz (noteCut l) [] [] x hx with h1 | h1
  · cases h1
  · simp only [List.length_nil, Nat.zero_add] at h1
    omega
theorem lineWords_ct {l : List UInt8} (h : l.length ≤ 1000000) : (lineWords l).length ≤ 1000000 := by
  have hc : (noteCut l).length ≤ l.length := cutV_len 59 l
  have h1 := wordsGo_ct (noteCut l) [] []
  rw [if_pos rfl] at h1
  simp only [List.length_nil, Nat.zero_add, Nat.add_zero] at h1
  exact Nat.le_trans h1 (by omega)
def readL (o : Option (Nat × Nat × Nat × Nat)) : (Nat × Nat × Nat × Nat) × Nat :=
  match o with
  | none => ((0, 0, 0, 0), 13)
  | some x => (x, 0)
/-- What a line says: an instruction's four numbers, an error's number. -/
def listAnsW (ws : List ByteArray) : (Nat × Nat × Nat × Nat) × Nat :=
  match ws with
  | [] => ((0, 0, 0, 0), 4)
  | w0 :: r => readL (lineV w0 r)
def listAns (l : List UInt8) : (Nat × Nat × Nat × Nat) × Nat := listAnsW (lineWords l)
def insV (x : Nat × Nat × Nat × Nat) : Value := .agg #[.int .u16 (x.1 : Int), .int .u8 (x.2.1 : Int), .int .u8 (x.2.2.1 : Int), .int .u32 (x.2.2.2 : Int)]
def ansV (x : (Nat × Nat × Nat × Nat) × Nat) : Value := .tuple #[insV x.1, .int .i64 (x.2 : Int)]

set_option maxRecDepth 100000 in
set_option maxHeartbeats 8000000 in
theorem read3_any (s : ByteArray) (hs : s.size ≤ 1000000) (w : World) (hT : AscT w) :
    Calls Tryz.prog 7 #[.string s] w fun e w' => e = .returned (ansV (listAns s.data.toList)) ∧ Below w.heap.size w w' := by
  have hmf : ∀ (fn : Fn) (first cap : Array Value) (w : World), (Instr.makeFunc fn first cap).run Tryz.prog w = .ok (.func fn first cap) w := fun _ _ _ _ => rfl
  have hbP := (Blk.new w 25 #[.int .u16 0, .int .u8 0, .int .u8 0, .int .u32 0]).alloc (.cells #[.int .i64 0] 26)
  have hbQ := Blk.new (w.alloc (.cells #[.int .u16 0, .int .u8 0, .int .u8 0, .int .u32 0] 25)) 26 #[.int .i64 0]
  have hb := ((Below.refl w.heap.size w).alloc (Nat.le_refl _) (.cells #[.int .u16 0, .int .u8 0, .int .u8 0, .int .u32 0] 25)).alloc (by simp) (.cells #[.int .i64 0] 26)
  simp only [World.size_alloc] at hbQ
  have HP := Lib.hid hbP
  have HQ := Lib.hid hbQ
  have HB := Lib.hid hb
  have HT := Lib.hid hT
  have HSZ := Lib.hid (lineWords_sz (l := s.data.toList) (by have e : s.data.toList.length = s.size := Array.length_toList; omega))
  have HCT := Lib.hid (lineWords_ct (l := s.data.toList) (by have e : s.data.toList.length = s.size := Array.length_toList; omega))
  have HWD := Lib.hid (fun W => words3_any s hs W)
  obtain ⟨V3, hV3⟩ : ∃ V3, ansV (listAns s.data.toList) = V3 := ⟨_, rfl⟩
  rw [hV3]
  have HA : Hid (ansV (listAnsW (lineWords s.data.toList)) = V3) := hV3
  clear hV3
  generalize lineWords s.data.toList = ws at *
  clear hbP hbQ hb hT hs
  go_enter_defers Tryz.func7, Tryz.ntmps7
  go_wp2_with fail
  refine (HWD.out _).mono ?_
  rintro e w1 ⟨A, n, rfl, HW, HB1⟩
  have HP1 := blkH HP HB1.out
  have HQ1 := blkH HQ HB1.out
  have HBw := belB HB HB1.out
  clear HP HQ HB HB1 HWD
  match ws, HW, HSZ, HCT, HA with
  | [], HW, HSZ, HCT, HA =>
    obtain rfl : n = 0 := HW.out.1
    have HV : Hid (Ending.returned (.tuple #[.agg #[.int .u16 0, .int .u8 0, .int .u8 0, .int .u32 0], .int .i64 4]) = .returned V3) := congrArg Ending.returned HA.out
    clear HW HSZ HCT HT
    have z0 := HP1.out.frozen 0
    have z1 := HP1.out.frozen 1
    have z2 := HP1.out.frozen 2
    have z3 := HP1.out.frozen 3
    have z4 := HQ1.out.frozen 0
    have y0 := HP1.out.cell 0
    have y1 := HP1.out.cell 1
    have y2 := HP1.out.cell 2
    have y3 := HP1.out.cell 3
    have y4 := HQ1.out.cell 0
    simp only [List.getElem?_toArray, List.getElem?_cons_zero, List.getElem?_cons_succ] at y0 y1 y2 y3 y4
    go_wp2
    have bF := (((((HP1.out.set 0 (.int .u16 0)).set 1 (.int .u8 0)).set 2 (.int .u8 0)).set 3 (.int .u32 0)).other (Nat.ne_of_lt (Nat.lt_succ_self _)) 0 (.int .i64 4))
    have qF := ((((HQ1.out.other (Ne.symm (Nat.ne_of_lt (Nat.lt_succ_self _))) 0 (.int .u16 0)).other (Ne.symm (Nat.ne_of_lt (Nat.lt_succ_self _))) 1 (.int .u8 0)).other (Ne.symm (Nat.ne_of_lt (Nat.lt_succ_self _))) 2 (.int .u8 0)).other (Ne.symm (Nat.ne_of_lt (Nat.lt_succ_self _))) 3 (.int .u32 0)).set 0 (.int .i64 4)
    have hF := ((((HBw.out.setCell (p := ⟨w.heap.size, 0, none⟩) (Nat.le_refl _) (.int .u16 0)).setCell (p := ⟨w.heap.size, 1, none⟩) (Nat.le_refl _) (.int .u8 0)).setCell (p := ⟨w.heap.size, 2, none⟩) (Nat.le_refl _) (.int .u8 0)).setCell (p := ⟨w.heap.size, 3, none⟩) (Nat.le_refl _) (.int .u32 0)).setCell (p := ⟨w.heap.size + 1, 0, none⟩) (Nat.le_succ _) (.int .i64 4)
    have e0 := bF.cell 0
    have e1 := bF.cell 1
    have e2 := bF.cell 2
    have e3 := bF.cell 3
    have e4 := qF.cell 0
    simp at e0 e1 e2 e3 e4
    refine leaves_cons (f := 15) (args := #[.pointer (some ⟨w.heap.size, 0, none⟩), .pointer (some ⟨w.heap.size + 1, 0, none⟩)]) (by simp) (by simp [go_sem]) ?_
    refine (catch_idle ⟨w.heap.size, 0, none⟩ ⟨w.heap.size + 1, 0, none⟩ _).mono ?_
    rintro e u' w'' ⟨rfl, rfl, rfl⟩
    exact ⟨.tuple #[.agg #[.int .u16 0, .int .u8 0, .int .u8 0, .int .u32 0], .int .i64 4], by simp [results, Tryz.results7, go_sem, e0, e1, e2, e3, e4], HV.out, hF⟩
  | w0 :: r, HW, HSZ, HCT, HA =>
    have hn : n = r.length + 1 := HW.out.1
    have hn0 : ¬ (n : Int) = 0 := by omega
    have hnb : ((n : Int) == 0) = false := by simpa using hn0
    have HN := Lib.hid hn
    clear hn
    go_wp2_with fail
    clear hn0 hnb
    obtain rfl : n = r.length + 1 := HN.out
    have hbg : r.length ≤ 1000000 := by have := HCT.out; simp at this; omega
    refine (lineR_any w0 r HSZ.out hbg A 0 (r.length + 1) w1 (HT.out.below HBw.out) HW.out.2.1 HW.out.2.2).mono ?_
    rintro e w2 ⟨hne, hb2⟩
    have HP2 := blkH HP1 hb2
    have HQ2 := blkH HQ1 hb2
    have HB2 := belB HBw hb2
    clear hb2 HP1 HQ1 HBw HW HSZ HCT HT HN hbg
    obtain ⟨V, hV⟩ : ∃ V, lineV w0 r = V := ⟨_, rfl⟩
    rw [hV] at hne
    have HAV : Hid (ansV (readL V) = V3) := by show _ = _; rw [← hV]; exact HA.out
    clear hV
    match V, hne, HAV with
    | none, hne, HAV =>
      obtain rfl : e = .panicked wrongP := hne
      have HV : Hid (Ending.returned (.tuple #[.agg #[.int .u16 0, .int .u8 0, .int .u8 0, .int .u32 0], .int .i64 13]) = .returned V3) := congrArg Ending.returned HAV.out
      go_wp2
      refine leaves_cons (f := 15) (args := #[.pointer (some ⟨w.heap.size, 0, none⟩), .pointer (some ⟨w.heap.size + 1, 0, none⟩)]) (by simp) (by simp [go_sem]) ?_
      refine (catch_wrong w.heap.size (w.heap.size + 1) _ _ _ _ _ _ HP2.out HQ2.out (Nat.ne_of_lt (Nat.lt_succ_self _))).mono ?_
      rintro e u' w'' ⟨rfl, rfl, HP3, HQ3, hb3⟩
      have e0 := HP3.out.cell 0
      have e1 := HP3.out.cell 1
      have e2 := HP3.out.cell 2
      have e3 := HP3.out.cell 3
      have e4 := HQ3.out.cell 0
      simp at e0 e1 e2 e3 e4
      exact ⟨.tuple #[.agg #[.int .u16 0, .int .u8 0, .int .u8 0, .int .u32 0], .int .i64 13], by simp [results, Tryz.results7, go_sem, e0, e1, e2, e3, e4], HV.out, HB2.out.trans (hb3 _ (Nat.le_refl _) (Nat.le_succ _) HB2.out.size)⟩
    | some (c, a, b, k), hne, HAV =>
      obtain rfl : e = .returned (.agg #[.int .u16 (c : Int), .int .u8 (a : Int), .int .u8 (b : Int), .int .u32 (k : Int)]) := hne
      have HV : Hid (Ending.returned (.tuple #[.agg #[.int .u16 (c : Int), .int .u8 (a : Int), .int .u8 (b : Int), .int .u32 (k : Int)], .int .i64 0]) = .returned V3) := congrArg Ending.returned HAV.out
      have z0 := HP2.out.frozen 0
      have z1 := HP2.out.frozen 1
      have z2 := HP2.out.frozen 2
      have z3 := HP2.out.frozen 3
      have z4 := HQ2.out.frozen 0
      have y0 := HP2.out.cell 0
      have y1 := HP2.out.cell 1
      have y2 := HP2.out.cell 2
      have y3 := HP2.out.cell 3
      have y4 := HQ2.out.cell 0
      simp only [List.getElem?_toArray, List.getElem?_cons_zero, List.getElem?_cons_succ] at y0 y1 y2 y3 y4
      go_wp2
      have bF := (((((HP2.out.set 0 (.int .u16 (c : Int))).set 1 (.int .u8 (a : Int))).set 2 (.int .u8 (b : Int))).set 3 (.int .u32 (k : Int))).other (Nat.ne_of_lt (Nat.lt_succ_self _)) 0 (.int .i64 0))
      have qF := ((((HQ2.out.other (Ne.symm (Nat.ne_of_lt (Nat.lt_succ_self _))) 0 (.int .u16 (c : Int))).other (Ne.symm (Nat.ne_of_lt (Nat.lt_succ_self _))) 1 (.int .u8 (a : Int))).other (Ne.symm (Nat.ne_of_lt (Nat.lt_succ_self _))) 2 (.int .u8 (b : Int))).other (Ne.symm (Nat.ne_of_lt (Nat.lt_succ_self _))) 3 (.int .u32 (k : Int))).set 0 (.int .i64 0)
      have hF := ((((HB2.out.setCell (p := ⟨w.heap.size, 0, none⟩) (Nat.le_refl _) (.int .u16 (c : Int))).setCell (p := ⟨w.heap.size, 1, none⟩) (Nat.le_refl _) (.int .u8 (a : Int))).setCell (p := ⟨w.heap.size, 2, none⟩) (Nat.le_refl _) (.int .u8 (b : Int))).setCell (p := ⟨w.heap.size, 3, none⟩) (Nat.le_refl _) (.int .u32 (k : Int))).setCell (p := ⟨w.heap.size + 1, 0, none⟩) (Nat.le_succ _) (.int .i64 0)
      have e0 := bF.cell 0
      have e1 := bF.cell 1
      have e2 := bF.cell 2
      have e3 := bF.cell 3
      have e4 := qF.cell 0
      simp at e0 e1 e2 e3 e4
      refine leaves_cons (f := 15) (args := #[.pointer (some ⟨w.heap.size, 0, none⟩), .pointer (some ⟨w.heap.size + 1, 0, none⟩)]) (by simp) (by simp [go_sem]) ?_
      refine (catch_idle ⟨w.heap.size, 0, none⟩ ⟨w.heap.size + 1, 0, none⟩ _).mono ?_
      rintro e u' w'' ⟨rfl, rfl, rfl⟩
      exact ⟨.tuple #[.agg #[.int .u16 (c : Int), .int .u8 (a : Int), .int .u8 (b : Int), .int .u32 (k : Int)], .int .i64 0], by simp [results, Tryz.results7, go_sem, e0, e1, e2, e3, e4], HV.out, hF⟩
end Go.Proofs.YtokehnclakedeaaGreatDoor
