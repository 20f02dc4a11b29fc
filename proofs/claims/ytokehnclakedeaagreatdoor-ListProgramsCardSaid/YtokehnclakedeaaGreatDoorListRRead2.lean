/- The document's Read (strainerref03) at every text: the walk. -/
import Derived.Test.YtokehnclakedeaaGreatDoorListRRead
namespace Go.Proofs.YtokehnclakedeaaGreatDoor
open Go Go.Proofs Go.RowKit

def numE (N : Option Nat) (e : Ending) : Prop := ∃ v : Int, e = .returned (.tuple #[.int .i64 v, .bool N.isSome]) ∧ Hid (∀ n : Nat, N = some n → v = (n : Int))
theorem rnum16 (s : ByteArray) (N : Option Nat) (h : numV s.data.toList 16 = N) : ∀ W, Calls Tryz.prog 19 #[.string s, .int .i64 65536] W fun e w' => numE N e ∧ W = w' := fun W => by subst h; exact rnumber3_any s 16 (by decide) W
theorem rnum8 (s : ByteArray) (N : Option Nat) (h : numV s.data.toList 8 = N) : ∀ W, Calls Tryz.prog 19 #[.string s, .int .i64 256] W fun e w' => numE N e ∧ W = w' := fun W => by subst h; exact rnumber3_any s 8 (by decide) W
theorem rnum32 (s : ByteArray) (N : Option Nat) (h : numV s.data.toList 32 = N) : ∀ W, Calls Tryz.prog 19 #[.string s, .int .i64 4294967296] W fun e w' => numE N e ∧ W = w' := fun W => by subst h; exact rnumber3_any s 32 (by decide) W

set_option maxRecDepth 100000 in
set_option maxHeartbeats 16000000 in
theorem rread_codeN (s : ByteArray) (hs : s.size ≤ 1000000) (w0 : ByteArray) (r : List ByteArray) (hws : lineWords s.data.toList = w0 :: r) (hq : (w0.toList == dotCode) = true) (h5 : r.length + 1 ≠ 5) (w : World) :
    Calls Tryz.prog 8 #[.string s] w fun e w' => e = .returned (.tuple #[.agg #[.int .u16 0, .int .u8 0, .int .u8 0, .int .u32 0], .int .i64 13]) ∧ Below w.heap.size w w' := by
  have HP := Lib.hid (Blk.new w 29 #[.int .u16 0, .int .u8 0, .int .u8 0, .int .u32 0])
  have HB := Lib.hid ((Below.refl w.heap.size w).alloc (Nat.le_refl _) (.cells #[.int .u16 0, .int .u8 0, .int .u8 0, .int .u32 0] 29))
  have hwd := fun W => rwords3_any s hs W
  rw [hws] at hwd
  have HWD := Lib.hid hwd
  have hct := lineWords_ct (l := s.data.toList) (by have e : s.data.toList.length = s.size := Array.length_toList; omega)
  have hsz := lineWords_sz (l := s.data.toList) (by have e : s.data.toList.length = s.size := Array.length_toList; omega)
  rw [hws] at hct hsz
  have HCT := Lib.hid hct
  have HSZ := Lib.hid hsz
  have hq1 : (w0.toList == [46, 99, 111, 100, 101]) = true := hq
  have hq2 : w0.toList = [46, 99, 111, 100, 101] := by simpa using hq1
  obtain ⟨n, hn⟩ : ∃ n, r.length + 1 = n := ⟨_, rfl⟩
  have hn5 : ¬ (n : Int) = 5 := by omega
  have hn5b : ((n : Int) == 5) = false := by simpa using hn5
  have hn0 : ¬ (n : Int) = 0 := by omega
  have hn0b : ((n : Int) == 0) = false := by simpa using hn0
  have HN := Lib.hid hn
  have hnp : 0 < n := by omega
  clear hwd hct hsz hws hs hq h5 hn
  go_enter Tryz.func8, Tryz.ntmps8
  go_wp2_with fail
  refine (HWD.out _).mono ?_
  rintro e w1 ⟨v, rfl, HR, HB1⟩
  obtain ⟨g, cap, rfl⟩ := ownsRow_succ (k := r.length) HR.out
  have HC := Lib.hid (words_cells (ws := w0 :: r) HR.out rfl)
  have HP1 := blkH HP HB1.out
  have HBw := belB HB HB1.out
  clear HP HB HR HWD
  have t0 := HC.out 0 w0 rfl
  rw [HN.out]
  have z0 := HP1.out.frozen 0
  have z1 := HP1.out.frozen 1
  have z2 := HP1.out.frozen 2
  have z3 := HP1.out.frozen 3
  have y0 := HP1.out.cell 0
  have y1 := HP1.out.cell 1
  have y2 := HP1.out.cell 2
  have y3 := HP1.out.cell 3
  simp only [List.getElem?_toArray, List.getElem?_cons_zero, List.getElem?_cons_succ] at y0 y1 y2 y3
  go_wp2
  have bF := ((((HP1.out.set 0 (.int .u16 0)).set 1 (.int .u8 0)).set 2 (.int .u8 0)).set 3 (.int .u32 0))
  have hF := (((HBw.out.setCell (p := ⟨w.heap.size, 0, none⟩) (Nat.le_refl _) (.int .u16 0)).setCell (p := ⟨w.heap.size, 1, none⟩) (Nat.le_refl _) (.int .u8 0)).setCell (p := ⟨w.heap.size, 2, none⟩) (Nat.le_refl _) (.int .u8 0)).setCell (p := ⟨w.heap.size, 3, none⟩) (Nat.le_refl _) (.int .u32 0)
  have e0 := bF.cell 0
  have e1 := bF.cell 1
  have e2 := bF.cell 2
  have e3 := bF.cell 3
  simp at e0 e1 e2 e3
  exact bodyPost_ret (v := .tuple #[.agg #[.int .u16 0, .int .u8 0, .int .u8 0, .int .u32 0], .int .i64 13]) (by simp [results, Tryz.results8, go_sem, e0, e1, e2, e3]) rfl ⟨rfl, hF⟩

set_option maxRecDepth 100000 in
set_option maxHeartbeats 16000000 in
theorem rread_code1 (s : ByteArray) (hs : s.size ≤ 1000000) (w0 s1 s2 s3 s4 : ByteArray) (hws : lineWords s.data.toList = [w0, s1, s2, s3, s4]) (hq : (w0.toList == dotCode) = true) (h1 : numV s1.data.toList 16 = none) (w : World) :
    Calls Tryz.prog 8 #[.string s] w fun e w' => e = .returned (.tuple #[.agg #[.int .u16 0, .int .u8 0, .int .u8 0, .int .u32 0], .int .i64 13]) ∧ Below w.heap.size w w' := by
  have HP := Lib.hid (Blk.new w 29 #[.int .u16 0, .int .u8 0, .int .u8 0, .int .u32 0])
  have HB := Lib.hid ((Below.refl w.heap.size w).alloc (Nat.le_refl _) (.cells #[.int .u16 0, .int .u8 0, .int .u8 0, .int .u32 0] 29))
  have hwd := fun W => rwords3_any s hs W
  rw [hws] at hwd
  have HWD := Lib.hid hwd
  have hct := lineWords_ct (l := s.data.toList) (by have e : s.data.toList.length = s.size := Array.length_toList; omega)
  have hsz := lineWords_sz (l := s.data.toList) (by have e : s.data.toList.length = s.size := Array.length_toList; omega)
  rw [hws] at hct hsz
  have HCT := Lib.hid hct
  have HSZ := Lib.hid hsz
  have hq1 : (w0.toList == [46, 99, 111, 100, 101]) = true := hq
  have hq2 : w0.toList = [46, 99, 111, 100, 101] := by simpa using hq1
  have K1 := Lib.hid (rnum16 s1 none h1)
  obtain ⟨N2, hN2⟩ : ∃ N, numV s2.data.toList 8 = N := ⟨_, rfl⟩
  have K2 := Lib.hid (rnum8 s2 N2 hN2)
  obtain ⟨N3, hN3⟩ : ∃ N, numV s3.data.toList 8 = N := ⟨_, rfl⟩
  have K3 := Lib.hid (rnum8 s3 N3 hN3)
  obtain ⟨N4, hN4⟩ : ∃ N, numV s4.data.toList 32 = N := ⟨_, rfl⟩
  have K4 := Lib.hid (rnum32 s4 N4 hN4)
  clear hwd hct hsz hws hs hq h1 hN2 hN3 hN4
  go_enter Tryz.func8, Tryz.ntmps8
  go_wp2_with fail
  refine (HWD.out _).mono ?_
  rintro e w1 ⟨v, rfl, HR, HB1⟩
  obtain ⟨g, cap, rfl⟩ := ownsRow_succ (k := 4) HR.out
  have HC := Lib.hid (words_cells (ws := [w0, s1, s2, s3, s4]) HR.out rfl)
  have HP1 := blkH HP HB1.out
  have HBw := belB HB HB1.out
  clear HP HB HR HWD
  have t0 := HC.out 0 w0 rfl
  have t1 := HC.out 1 s1 rfl
  have t2 := HC.out 2 s2 rfl
  have t3 := HC.out 3 s3 rfl
  have t4 := HC.out 4 s4 rfl
  have z0 := HP1.out.frozen 0
  have z1 := HP1.out.frozen 1
  have z2 := HP1.out.frozen 2
  have z3 := HP1.out.frozen 3
  have y0 := HP1.out.cell 0
  have y1 := HP1.out.cell 1
  have y2 := HP1.out.cell 2
  have y3 := HP1.out.cell 3
  simp only [List.getElem?_toArray, List.getElem?_cons_zero, List.getElem?_cons_succ] at y0 y1 y2 y3
  go_wp2_with fail
  refine (K1.out _).mono ?_
  rintro e _ ⟨⟨v1, rfl, H1⟩, rfl⟩
  clear K1 H1
  go_wp2_with fail
  refine (K2.out _).mono ?_
  rintro e _ ⟨⟨v2, rfl, H2⟩, rfl⟩
  clear K2 H2
  go_wp2_with fail
  refine (K3.out _).mono ?_
  rintro e _ ⟨⟨v3, rfl, H3⟩, rfl⟩
  clear K3 H3
  go_wp2_with fail
  refine (K4.out _).mono ?_
  rintro e _ ⟨⟨v4, rfl, H4⟩, rfl⟩
  clear K4 H4
  go_wp2
  have bF := ((((HP1.out.set 0 (.int .u16 0)).set 1 (.int .u8 0)).set 2 (.int .u8 0)).set 3 (.int .u32 0))
  have hF := (((HBw.out.setCell (p := ⟨w.heap.size, 0, none⟩) (Nat.le_refl _) (.int .u16 0)).setCell (p := ⟨w.heap.size, 1, none⟩) (Nat.le_refl _) (.int .u8 0)).setCell (p := ⟨w.heap.size, 2, none⟩) (Nat.le_refl _) (.int .u8 0)).setCell (p := ⟨w.heap.size, 3, none⟩) (Nat.le_refl _) (.int .u32 0)
  have e0 := bF.cell 0
  have e1 := bF.cell 1
  have e2 := bF.cell 2
  have e3 := bF.cell 3
  simp at e0 e1 e2 e3
  exact bodyPost_ret (v := .tuple #[.agg #[.int .u16 0, .int .u8 0, .int .u8 0, .int .u32 0], .int .i64 13]) (by simp [results, Tryz.results8, go_sem, e0, e1, e2, e3]) rfl ⟨rfl, hF⟩

set_option maxRecDepth 100000 in
set_option maxHeartbeats 16000000 in
theorem rread_code2 (s : ByteArray) (hs : s.size ≤ 1000000) (w0 s1 s2 s3 s4 : ByteArray) (hws : lineWords s.data.toList = [w0, s1, s2, s3, s4]) (hq : (w0.toList == dotCode) = true) (n1 : Nat) (h1 : numV s1.data.toList 16 = some n1) (h2 : numV s2.data.toList 8 = none) (w : World) :
    Calls Tryz.prog 8 #[.string s] w fun e w' => e = .returned (.tuple #[.agg #[.int .u16 0, .int .u8 0, .int .u8 0, .int .u32 0], .int .i64 13]) ∧ Below w.heap.size w w' := by
  have HP := Lib.hid (Blk.new w 29 #[.int .u16 0, .int .u8 0, .int .u8 0, .int .u32 0])
  have HB := Lib.hid ((Below.refl w.heap.size w).alloc (Nat.le_refl _) (.cells #[.int .u16 0, .int .u8 0, .int .u8 0, .int .u32 0] 29))
  have hwd := fun W => rwords3_any s hs W
  rw [hws] at hwd
  have HWD := Lib.hid hwd
  have hct := lineWords_ct (l := s.data.toList) (by have e : s.data.toList.length = s.size := Array.length_toList; omega)
  have hsz := lineWords_sz (l := s.data.toList) (by have e : s.data.toList.length = s.size := Array.length_toList; omega)
  rw [hws] at hct hsz
  have HCT := Lib.hid hct
  have HSZ := Lib.hid hsz
  have hq1 : (w0.toList == [46, 99, 111, 100, 101]) = true := hq
  have hq2 : w0.toList = [46, 99, 111, 100, 101] := by simpa using hq1
  have K1 := Lib.hid (rnum16 s1 (some n1) h1)
  have b1 : IntKind.u16.wrap (n1 : Int) = (n1 : Int) := by have := numV_lt h1; exact IntWalk.u16_in _ ⟨by omega, by omega⟩
  have K2 := Lib.hid (rnum8 s2 none h2)
  obtain ⟨N3, hN3⟩ : ∃ N, numV s3.data.toList 8 = N := ⟨_, rfl⟩
  have K3 := Lib.hid (rnum8 s3 N3 hN3)
  obtain ⟨N4, hN4⟩ : ∃ N, numV s4.data.toList 32 = N := ⟨_, rfl⟩
  have K4 := Lib.hid (rnum32 s4 N4 hN4)
  clear hwd hct hsz hws hs hq h1 h2 hN3 hN4
  go_enter Tryz.func8, Tryz.ntmps8
  go_wp2_with fail
  refine (HWD.out _).mono ?_
  rintro e w1 ⟨v, rfl, HR, HB1⟩
  obtain ⟨g, cap, rfl⟩ := ownsRow_succ (k := 4) HR.out
  have HC := Lib.hid (words_cells (ws := [w0, s1, s2, s3, s4]) HR.out rfl)
  have HP1 := blkH HP HB1.out
  have HBw := belB HB HB1.out
  clear HP HB HR HWD
  have t0 := HC.out 0 w0 rfl
  have t1 := HC.out 1 s1 rfl
  have t2 := HC.out 2 s2 rfl
  have t3 := HC.out 3 s3 rfl
  have t4 := HC.out 4 s4 rfl
  have z0 := HP1.out.frozen 0
  have z1 := HP1.out.frozen 1
  have z2 := HP1.out.frozen 2
  have z3 := HP1.out.frozen 3
  have y0 := HP1.out.cell 0
  have y1 := HP1.out.cell 1
  have y2 := HP1.out.cell 2
  have y3 := HP1.out.cell 3
  simp only [List.getElem?_toArray, List.getElem?_cons_zero, List.getElem?_cons_succ] at y0 y1 y2 y3
  go_wp2_with fail
  refine (K1.out _).mono ?_
  rintro e _ ⟨⟨v1, rfl, H1⟩, rfl⟩
  obtain rfl : v1 = (n1 : Int) := H1.out n1 rfl
  clear K1 H1
  go_wp2_with fail
  refine (K2.out _).mono ?_
  rintro e _ ⟨⟨v2, rfl, H2⟩, rfl⟩
  clear K2 H2
  go_wp2_with fail
  refine (K3.out _).mono ?_
  rintro e _ ⟨⟨v3, rfl, H3⟩, rfl⟩
  clear K3 H3
  go_wp2_with fail
  refine (K4.out _).mono ?_
  rintro e _ ⟨⟨v4, rfl, H4⟩, rfl⟩
  clear K4 H4
  go_wp2
  have bF := ((((HP1.out.set 0 (.int .u16 0)).set 1 (.int .u8 0)).set 2 (.int .u8 0)).set 3 (.int .u32 0))
  have hF := (((HBw.out.setCell (p := ⟨w.heap.size, 0, none⟩) (Nat.le_refl _) (.int .u16 0)).setCell (p := ⟨w.heap.size, 1, none⟩) (Nat.le_refl _) (.int .u8 0)).setCell (p := ⟨w.heap.size, 2, none⟩) (Nat.le_refl _) (.int .u8 0)).setCell (p := ⟨w.heap.size, 3, none⟩) (Nat.le_refl _) (.int .u32 0)
  have e0 := bF.cell 0
  have e1 := bF.cell 1
  have e2 := bF.cell 2
  have e3 := bF.cell 3
  simp at e0 e1 e2 e3
  exact bodyPost_ret (v := .tuple #[.agg #[.int .u16 0, .int .u8 0, .int .u8 0, .int .u32 0], .int .i64 13]) (by simp [results, Tryz.results8, go_sem, e0, e1, e2, e3]) rfl ⟨rfl, hF⟩

set_option maxRecDepth 100000 in
set_option maxHeartbeats 16000000 in
theorem rread_code3 (s : ByteArray) (hs : s.size ≤ 1000000) (w0 s1 s2 s3 s4 : ByteArray) (hws : lineWords s.data.toList = [w0, s1, s2, s3, s4]) (hq : (w0.toList == dotCode) = true) (n1 : Nat) (h1 : numV s1.data.toList 16 = some n1) (n2 : Nat) (h2 : numV s2.data.toList 8 = some n2) (h3 : numV s3.data.toList 8 = none) (w : World) :
    Calls Tryz.prog 8 #[.string s] w fun e w' => e = .returned (.tuple #[.agg #[.int .u16 0, .int .u8 0, .int .u8 0, .int .u32 0], .int .i64 13]) ∧ Below w.heap.size w w' := by
  have HP := Lib.hid (Blk.new w 29 #[.int .u16 0, .int .u8 0, .int .u8 0, .int .u32 0])
  have HB := Lib.hid ((Below.refl w.heap.size w).alloc (Nat.le_refl _) (.cells #[.int .u16 0, .int .u8 0, .int .u8 0, .int .u32 0] 29))
  have hwd := fun W => rwords3_any s hs W
  rw [hws] at hwd
  have HWD := Lib.hid hwd
  have hct := lineWords_ct (l := s.data.toList) (by have e : s.data.toList.length = s.size := Array.length_toList; omega)
  have hsz := lineWords_sz (l := s.data.toList) (by have e : s.data.toList.length = s.size := Array.length_toList; omega)
  rw [hws] at hct hsz
  have HCT := Lib.hid hct
  have HSZ := Lib.hid hsz
  have hq1 : (w0.toList == [46, 99, 111, 100, 101]) = true := hq
  have hq2 : w0.toList = [46, 99, 111, 100, 101] := by simpa using hq1
  have K1 := Lib.hid (rnum16 s1 (some n1) h1)
  have b1 : IntKind.u16.wrap (n1 : Int) = (n1 : Int) := by have := numV_lt h1; exact IntWalk.u16_in _ ⟨by omega, by omega⟩
  have K2 := Lib.hid (rnum8 s2 (some n2) h2)
  have b2 : IntKind.u8.wrap (n2 : Int) = (n2 : Int) := by have := numV_lt h2; exact IntWalk.u8_in _ ⟨by omega, by omega⟩
  have K3 := Lib.hid (rnum8 s3 none h3)
  obtain ⟨N4, hN4⟩ : ∃ N, numV s4.data.toList 32 = N := ⟨_, rfl⟩
  have K4 := Lib.hid (rnum32 s4 N4 hN4)
  clear hwd hct hsz hws hs hq h1 h2 h3 hN4
  go_enter Tryz.func8, Tryz.ntmps8
  go_wp2_with fail
  refine (HWD.out _).mono ?_
  rintro e w1 ⟨v, rfl, HR, HB1⟩
  obtain ⟨g, cap, rfl⟩ := ownsRow_succ (k := 4) HR.out
  have HC := Lib.hid (words_cells (ws := [w0, s1, s2, s3, s4]) HR.out rfl)
  have HP1 := blkH HP HB1.out
  have HBw := belB HB HB1.out
  clear HP HB HR HWD
  have t0 := HC.out 0 w0 rfl
  have t1 := HC.out 1 s1 rfl
  have t2 := HC.out 2 s2 rfl
  have t3 := HC.out 3 s3 rfl
  have t4 := HC.out 4 s4 rfl
  have z0 := HP1.out.frozen 0
  have z1 := HP1.out.frozen 1
  have z2 := HP1.out.frozen 2
  have z3 := HP1.out.frozen 3
  have y0 := HP1.out.cell 0
  have y1 := HP1.out.cell 1
  have y2 := HP1.out.cell 2
  have y3 := HP1.out.cell 3
  simp only [List.getElem?_toArray, List.getElem?_cons_zero, List.getElem?_cons_succ] at y0 y1 y2 y3
  go_wp2_with fail
  refine (K1.out _).mono ?_
  rintro e _ ⟨⟨v1, rfl, H1⟩, rfl⟩
  obtain rfl : v1 = (n1 : Int) := H1.out n1 rfl
  clear K1 H1
  go_wp2_with fail
  refine (K2.out _).mono ?_
  rintro e _ ⟨⟨v2, rfl, H2⟩, rfl⟩
  obtain rfl : v2 = (n2 : Int) := H2.out n2 rfl
  clear K2 H2
  go_wp2_with fail
  refine (K3.out _).mono ?_
  rintro e _ ⟨⟨v3, rfl, H3⟩, rfl⟩
  clear K3 H3
  go_wp2_with fail
  refine (K4.out _).mono ?_
  rintro e _ ⟨⟨v4, rfl, H4⟩, rfl⟩
  clear K4 H4
  go_wp2
  have bF := ((((HP1.out.set 0 (.int .u16 0)).set 1 (.int .u8 0)).set 2 (.int .u8 0)).set 3 (.int .u32 0))
  have hF := (((HBw.out.setCell (p := ⟨w.heap.size, 0, none⟩) (Nat.le_refl _) (.int .u16 0)).setCell (p := ⟨w.heap.size, 1, none⟩) (Nat.le_refl _) (.int .u8 0)).setCell (p := ⟨w.heap.size, 2, none⟩) (Nat.le_refl _) (.int .u8 0)).setCell (p := ⟨w.heap.size, 3, none⟩) (Nat.le_refl _) (.int .u32 0)
  have e0 := bF.cell 0
  have e1 := bF.cell 1
  have e2 := bF.cell 2
  have e3 := bF.cell 3
  simp at e0 e1 e2 e3
  exact bodyPost_ret (v := .tuple #[.agg #[.int .u16 0, .int .u8 0, .int .u8 0, .int .u32 0], .int .i64 13]) (by simp [results, Tryz.results8, go_sem, e0, e1, e2, e3]) rfl ⟨rfl, hF⟩

set_option maxRecDepth 100000 in
set_option maxHeartbeats 16000000 in
theorem rread_code4 (s : ByteArray) (hs : s.size ≤ 1000000) (w0 s1 s2 s3 s4 : ByteArray) (hws : lineWords s.data.toList = [w0, s1, s2, s3, s4]) (hq : (w0.toList == dotCode) = true) (n1 : Nat) (h1 : numV s1.data.toList 16 = some n1) (n2 : Nat) (h2 : numV s2.data.toList 8 = some n2) (n3 : Nat) (h3 : numV s3.data.toList 8 = some n3) (h4 : numV s4.data.toList 32 = none) (w : World) :
    Calls Tryz.prog 8 #[.string s] w fun e w' => e = .returned (.tuple #[.agg #[.int .u16 0, .int .u8 0, .int .u8 0, .int .u32 0], .int .i64 13]) ∧ Below w.heap.size w w' := by
  have HP := Lib.hid (Blk.new w 29 #[.int .u16 0, .int .u8 0, .int .u8 0, .int .u32 0])
  have HB := Lib.hid ((Below.refl w.heap.size w).alloc (Nat.le_refl _) (.cells #[.int .u16 0, .int .u8 0, .int .u8 0, .int .u32 0] 29))
  have hwd := fun W => rwords3_any s hs W
  rw [hws] at hwd
  have HWD := Lib.hid hwd
  have hct := lineWords_ct (l := s.data.toList) (by have e : s.data.toList.length = s.size := Array.length_toList; omega)
  have hsz := lineWords_sz (l := s.data.toList) (by have e : s.data.toList.length = s.size := Array.length_toList; omega)
  rw [hws] at hct hsz
  have HCT := Lib.hid hct
  have HSZ := Lib.hid hsz
  have hq1 : (w0.toList == [46, 99, 111, 100, 101]) = true := hq
  have hq2 : w0.toList = [46, 99, 111, 100, 101] := by simpa using hq1
  have K1 := Lib.hid (rnum16 s1 (some n1) h1)
  have b1 : IntKind.u16.wrap (n1 : Int) = (n1 : Int) := by have := numV_lt h1; exact IntWalk.u16_in _ ⟨by omega, by omega⟩
  have K2 := Lib.hid (rnum8 s2 (some n2) h2)
  have b2 : IntKind.u8.wrap (n2 : Int) = (n2 : Int) := by have := numV_lt h2; exact IntWalk.u8_in _ ⟨by omega, by omega⟩
  have K3 := Lib.hid (rnum8 s3 (some n3) h3)
  have b3 : IntKind.u8.wrap (n3 : Int) = (n3 : Int) := by have := numV_lt h3; exact IntWalk.u8_in _ ⟨by omega, by omega⟩
  have K4 := Lib.hid (rnum32 s4 none h4)
  clear hwd hct hsz hws hs hq h1 h2 h3 h4 
  go_enter Tryz.func8, Tryz.ntmps8
  go_wp2_with fail
  refine (HWD.out _).mono ?_
  rintro e w1 ⟨v, rfl, HR, HB1⟩
  obtain ⟨g, cap, rfl⟩ := ownsRow_succ (k := 4) HR.out
  have HC := Lib.hid (words_cells (ws := [w0, s1, s2, s3, s4]) HR.out rfl)
  have HP1 := blkH HP HB1.out
  have HBw := belB HB HB1.out
  clear HP HB HR HWD
  have t0 := HC.out 0 w0 rfl
  have t1 := HC.out 1 s1 rfl
  have t2 := HC.out 2 s2 rfl
  have t3 := HC.out 3 s3 rfl
  have t4 := HC.out 4 s4 rfl
  have z0 := HP1.out.frozen 0
  have z1 := HP1.out.frozen 1
  have z2 := HP1.out.frozen 2
  have z3 := HP1.out.frozen 3
  have y0 := HP1.out.cell 0
  have y1 := HP1.out.cell 1
  have y2 := HP1.out.cell 2
  have y3 := HP1.out.cell 3
  simp only [List.getElem?_toArray, List.getElem?_cons_zero, List.getElem?_cons_succ] at y0 y1 y2 y3
  go_wp2_with fail
  refine (K1.out _).mono ?_
  rintro e _ ⟨⟨v1, rfl, H1⟩, rfl⟩
  obtain rfl : v1 = (n1 : Int) := H1.out n1 rfl
  clear K1 H1
  go_wp2_with fail
  refine (K2.out _).mono ?_
  rintro e _ ⟨⟨v2, rfl, H2⟩, rfl⟩
  obtain rfl : v2 = (n2 : Int) := H2.out n2 rfl
  clear K2 H2
  go_wp2_with fail
  refine (K3.out _).mono ?_
  rintro e _ ⟨⟨v3, rfl, H3⟩, rfl⟩
  obtain rfl : v3 = (n3 : Int) := H3.out n3 rfl
  clear K3 H3
  go_wp2_with fail
  refine (K4.out _).mono ?_
  rintro e _ ⟨⟨v4, rfl, H4⟩, rfl⟩
  clear K4 H4
  go_wp2
  have bF := ((((HP1.out.set 0 (.int .u16 0)).set 1 (.int .u8 0)).set 2 (.int .u8 0)).set 3 (.int .u32 0))
  have hF := (((HBw.out.setCell (p := ⟨w.heap.size, 0, none⟩) (Nat.le_refl _) (.int .u16 0)).setCell (p := ⟨w.heap.size, 1, none⟩) (Nat.le_refl _) (.int .u8 0)).setCell (p := ⟨w.heap.size, 2, none⟩) (Nat.le_refl _) (.int .u8 0)).setCell (p := ⟨w.heap.size, 3, none⟩) (Nat.le_refl _) (.int .u32 0)
  have e0 := bF.cell 0
  have e1 := bF.cell 1
  have e2 := bF.cell 2
  have e3 := bF.cell 3
  simp at e0 e1 e2 e3
  exact bodyPost_ret (v := .tuple #[.agg #[.int .u16 0, .int .u8 0, .int .u8 0, .int .u32 0], .int .i64 13]) (by simp [results, Tryz.results8, go_sem, e0, e1, e2, e3]) rfl ⟨rfl, hF⟩

set_option maxRecDepth 100000 in
set_option maxHeartbeats 16000000 in
theorem rread_code5 (s : ByteArray) (hs : s.size ≤ 1000000) (w0 s1 s2 s3 s4 : ByteArray) (hws : lineWords s.data.toList = [w0, s1, s2, s3, s4]) (hq : (w0.toList == dotCode) = true) (n1 : Nat) (h1 : numV s1.data.toList 16 = some n1) (n2 : Nat) (h2 : numV s2.data.toList 8 = some n2) (n3 : Nat) (h3 : numV s3.data.toList 8 = some n3) (n4 : Nat) (h4 : numV s4.data.toList 32 = some n4) (w : World) :
    Calls Tryz.prog 8 #[.string s] w fun e w' => e = .returned (.tuple #[.agg #[.int .u16 (n1 : Int), .int .u8 (n2 : Int), .int .u8 (n3 : Int), .int .u32 (n4 : Int)], .int .i64 0]) ∧ Below w.heap.size w w' := by
  have HP := Lib.hid (Blk.new w 29 #[.int .u16 0, .int .u8 0, .int .u8 0, .int .u32 0])
  have HB := Lib.hid ((Below.refl w.heap.size w).alloc (Nat.le_refl _) (.cells #[.int .u16 0, .int .u8 0, .int .u8 0, .int .u32 0] 29))
  have hwd := fun W => rwords3_any s hs W
  rw [hws] at hwd
  have HWD := Lib.hid hwd
  have hct := lineWords_ct (l := s.data.toList) (by have e : s.data.toList.length = s.size := Array.length_toList; omega)
  have hsz := lineWords_sz (l := s.data.toList) (by have e : s.data.toList.length = s.size := Array.length_toList; omega)
  rw [hws] at hct hsz
  have HCT := Lib.hid hct
  have HSZ := Lib.hid hsz
  have hq1 : (w0.toList == [46, 99, 111, 100, 101]) = true := hq
  have hq2 : w0.toList = [46, 99, 111, 100, 101] := by simpa using hq1
  have K1 := Lib.hid (rnum16 s1 (some n1) h1)
  have b1 : IntKind.u16.wrap (n1 : Int) = (n1 : Int) := by have := numV_lt h1; exact IntWalk.u16_in _ ⟨by omega, by omega⟩
  have K2 := Lib.hid (rnum8 s2 (some n2) h2)
  have b2 : IntKind.u8.wrap (n2 : Int) = (n2 : Int) := by have := numV_lt h2; exact IntWalk.u8_in _ ⟨by omega, by omega⟩
  have K3 := Lib.hid (rnum8 s3 (some n3) h3)
  have b3 : IntKind.u8.wrap (n3 : Int) = (n3 : Int) := by have := numV_lt h3; exact IntWalk.u8_in _ ⟨by omega, by omega⟩
  have K4 := Lib.hid (rnum32 s4 (some n4) h4)
  have b4 : IntKind.u32.wrap (n4 : Int) = (n4 : Int) := by have := numV_lt h4; exact IntWalk.u32_in _ ⟨by omega, by omega⟩
  clear hwd hct hsz hws hs hq h1 h2 h3 h4 
  go_enter Tryz.func8, Tryz.ntmps8
  go_wp2_with fail
  refine (HWD.out _).mono ?_
  rintro e w1 ⟨v, rfl, HR, HB1⟩
  obtain ⟨g, cap, rfl⟩ := ownsRow_succ (k := 4) HR.out
  have HC := Lib.hid (words_cells (ws := [w0, s1, s2, s3, s4]) HR.out rfl)
  have HP1 := blkH HP HB1.out
  have HBw := belB HB HB1.out
  clear HP HB HR HWD
  have t0 := HC.out 0 w0 rfl
  have t1 := HC.out 1 s1 rfl
  have t2 := HC.out 2 s2 rfl
  have t3 := HC.out 3 s3 rfl
  have t4 := HC.out 4 s4 rfl
  have z0 := HP1.out.frozen 0
  have z1 := HP1.out.frozen 1
  have z2 := HP1.out.frozen 2
  have z3 := HP1.out.frozen 3
  have y0 := HP1.out.cell 0
  have y1 := HP1.out.cell 1
  have y2 := HP1.out.cell 2
  have y3 := HP1.out.cell 3
  simp only [List.getElem?_toArray, List.getElem?_cons_zero, List.getElem?_cons_succ] at y0 y1 y2 y3
  go_wp2_with fail
  refine (K1.out _).mono ?_
  rintro e _ ⟨⟨v1, rfl, H1⟩, rfl⟩
  obtain rfl : v1 = (n1 : Int) := H1.out n1 rfl
  clear K1 H1
  go_wp2_with fail
  refine (K2.out _).mono ?_
  rintro e _ ⟨⟨v2, rfl, H2⟩, rfl⟩
  obtain rfl : v2 = (n2 : Int) := H2.out n2 rfl
  clear K2 H2
  go_wp2_with fail
  refine (K3.out _).mono ?_
  rintro e _ ⟨⟨v3, rfl, H3⟩, rfl⟩
  obtain rfl : v3 = (n3 : Int) := H3.out n3 rfl
  clear K3 H3
  go_wp2_with fail
  refine (K4.out _).mono ?_
  rintro e _ ⟨⟨v4, rfl, H4⟩, rfl⟩
  obtain rfl : v4 = (n4 : Int) := H4.out n4 rfl
  clear K4 H4
  go_wp2
  have bF := ((((HP1.out.set 0 (.int .u16 (n1 : Int))).set 1 (.int .u8 (n2 : Int))).set 2 (.int .u8 (n3 : Int))).set 3 (.int .u32 (n4 : Int)))
  have hF := (((HBw.out.setCell (p := ⟨w.heap.size, 0, none⟩) (Nat.le_refl _) (.int .u16 (n1 : Int))).setCell (p := ⟨w.heap.size, 1, none⟩) (Nat.le_refl _) (.int .u8 (n2 : Int))).setCell (p := ⟨w.heap.size, 2, none⟩) (Nat.le_refl _) (.int .u8 (n3 : Int))).setCell (p := ⟨w.heap.size, 3, none⟩) (Nat.le_refl _) (.int .u32 (n4 : Int))
  have e0 := bF.cell 0
  have e1 := bF.cell 1
  have e2 := bF.cell 2
  have e3 := bF.cell 3
  simp at e0 e1 e2 e3
  exact bodyPost_ret (v := .tuple #[.agg #[.int .u16 (n1 : Int), .int .u8 (n2 : Int), .int .u8 (n3 : Int), .int .u32 (n4 : Int)], .int .i64 0]) (by simp [results, Tryz.results8, go_sem, e0, e1, e2, e3]) rfl ⟨rfl, hF⟩
end Go.Proofs.YtokehnclakedeaaGreatDoor
