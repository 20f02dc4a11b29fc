/- list.formed: does a line have this form? -/
import Derived.Test.YtokehnclakedeaaGreatDoorListInner
import Derived.Test.YtokehnclakedeaaGreatDoorListLine
import Derived.Deep.RegionHeld3
import Derived.Deep.RegionHeldLaw
namespace Go.Proofs.YtokehnclakedeaaGreatDoor
open Go Go.Proofs Go.RowKit Go.Shelf

def countF (o : ByteArray) (j : Bool) : Nat := 1 + (if o.toList.isEmpty = true then 0 else 1) + (if j = true then 2 else 0)
def formedJ (f : Frm) (k : Nat) (r : List ByteArray) : Option (Option (Nat × Nat × Nat × Nat)) :=
  if f.jumps = true then (match numV (r.getD 0 ⟨#[]⟩).data.toList 8 with | none => none | some a => (match numV (r.getD 1 ⟨#[]⟩).data.toList 8 with | none => none | some b => some (some (f.code, a, b, k)))) else some (some (f.code, 0, 0, k))
def formedU (f : Frm) (r : List ByteArray) : Option (Option (Nat × Nat × Nat × Nat)) :=
  if (innerV (formTag f.other) f.other.data.toList (r.getD 0 ⟨#[]⟩).data.toList).2 = true then
    (match (if tagB (formTag f.other) = true then numV (innerV (formTag f.other) f.other.data.toList (r.getD 0 ⟨#[]⟩).data.toList).1 32 else some 0) with | none => none | some k => formedJ f k (r.drop 1))
  else some none
/-- What a line of these words says by this form: `none`: it is wrong; `some none`: it has not this form. -/
def formedV (f : Frm) (ws : List ByteArray) : Option (Option (Nat × Nat × Nat × Nat)) :=
  match ws with
  | [] => some none
  | w0 :: r => if (w0.toList == f.word.toList) = true then (if r.length + 1 = countF f.other f.jumps then (if f.other.toList.isEmpty = true then some (some (f.code, 0, 0, 0)) else formedU f r) else some none) else some none
def formEnd (o : Option (Option (Nat × Nat × Nat × Nat))) (e : Ending) : Prop :=
  match o with
  | none => e = .panicked wrongP
  | some none => e = .returned (.tuple #[.agg #[.int .u16 0, .int .u8 0, .int .u8 0, .int .u32 0], .bool false])
  | some (some (c, a, b, k)) => e = .returned (.tuple #[.agg #[.int .u16 (c : Int), .int .u8 (a : Int), .int .u8 (b : Int), .int .u32 (k : Int)], .bool true])
theorem lcellF {w W : World} {a : Addr} {u : Value} (hb : Below w.heap.size w W) (h : w.cell? a = some u) : W.cell? a = some u := by
  rw [hb.cell (w.block_lt_of_cell? a h)]; exact h
theorem belDN {n : Nat} {w W : World} (k : Nat) (h : Below n w W) : Below n w (W.drewN k) := ⟨h.os, h.tape, h.output, h.size, h.block⟩
theorem keepL6 {a W wx : World} {p0 p1 p2 p3 p4 p5 : Addr} {u0 u1 u2 u3 u4 u5 : Value}
    (h : W.cell? p0 = some u0 ∧ W.cell? p1 = some u1 ∧ W.cell? p2 = some u2 ∧ W.cell? p3 = some u3 ∧ W.cell? p4 = some u4 ∧ W.cell? p5 = some u5 ∧ Below a.heap.size a W) (hb : Below W.heap.size W wx) :
    wx.cell? p0 = some u0 ∧ wx.cell? p1 = some u1 ∧ wx.cell? p2 = some u2 ∧ wx.cell? p3 = some u3 ∧ wx.cell? p4 = some u4 ∧ wx.cell? p5 = some u5 ∧ Below a.heap.size a wx :=
  ⟨lcellF hb h.1, lcellF hb h.2.1, lcellF hb h.2.2.1, lcellF hb h.2.2.2.1, lcellF hb h.2.2.2.2.1, lcellF hb h.2.2.2.2.2.1, h.2.2.2.2.2.2.trans (hb.mono h.2.2.2.2.2.2.size)⟩
theorem len1 {α : Type} {r : List α} (h : r.length + 1 = 1) : r = [] := List.eq_nil_of_length_eq_zero (by omega)
theorem len2 {α : Type} {r : List α} (h : r.length + 1 = 2) : ∃ a, r = [a] := by
  match r, h with
  | [a], _ => exact ⟨a, rfl⟩
theorem len4 {α : Type} {r : List α} (h : r.length + 1 = 4) : ∃ a b c, r = [a, b, c] := by
  match r, h with
  | [a, b, c], _ => exact ⟨a, b, c, rfl⟩
theorem numV_lt {l : List UInt8} {bits n : Nat} (h : numV l bits = some n) : n < 2 ^ bits := by
  unfold numV at h
  split at h
  · cases hq : numRest 10 l with
    | none => rw [hq] at h; cases h
    | some m =>
      rw [hq] at h
      dsimp only [Option.bind] at h
      split at h
      · cases h; assumption
      · cases h
  · cases h

set_option maxRecDepth 100000 in
set_option maxHeartbeats 16000000 in
theorem formed_e (fw fo : ByteArray) (fc : Nat) (fx : Bool) (he : fo.toList.isEmpty = true) (hfc : fc < 65536) (ht : formTag fo ≤ 7) (hn : numberedF fo = tagB (formTag fo)) (ho : fo.size ≤ 3) (has : ∀ b ∈ fo.data.toList, b.toNat < 128)
    (w0 : ByteArray) (r : List ByteArray) (hsz : ∀ s ∈ w0 :: r, s.size ≤ 1000000) (B off cp : Nat) (w : World) (hB : B < w.heap.size) (hcells : ∀ (j : Nat) (s : ByteArray), (w0 :: r)[j]? = some s → w.cell? ⟨B, off + j, none⟩ = some (.string s)) :
    Calls Tryz.prog 35 #[.agg #[.string fw, .string fo, .int .u16 (fc : Int), .bool fx, .bool false], .slice (some ⟨B, off, none⟩) (r.length + 1) cp] w fun e w' => formEnd (formedV ⟨fw, fo, fc, fx, false⟩ (w0 :: r)) e ∧ Below w.heap.size w w' := by
  have hbA := (Blk.new w 62 #[.string fw, .string fo, .int .u16 (fc : Int), .bool fx, .bool false]).alloc (.cells #[.int .u16 0, .int .u8 0, .int .u8 0, .int .u32 0] 25)
  have hbZ := Blk.new (w.alloc (.cells #[.string fw, .string fo, .int .u16 (fc : Int), .bool fx, .bool false] 62)) 25 #[.int .u16 0, .int .u8 0, .int .u8 0, .int .u32 0]
  have hb := ((Below.refl w.heap.size w).alloc (Nat.le_refl _) (.cells #[.string fw, .string fo, .int .u16 (fc : Int), .bool fx, .bool false] 62)).alloc (by simp) (.cells #[.int .u16 0, .int .u8 0, .int .u8 0, .int .u32 0] 25)
  simp only [World.size_alloc] at hbZ
  have HS : Hid (∀ W, Below w.heap.size w W → ∀ (j : Nat) (s : ByteArray), (w0 :: r)[j]? = some s → W.cell? ⟨B, off + j, none⟩ = some (.string s)) := fun W hW j s hj => lcellF hW (hcells j s hj)
  have HK := Lib.hid hbA
  have HZ := Lib.hid hbZ
  have HB := Lib.hid hb
  clear hbA hbZ hb hcells
  have k0 := HK.out.cell 0
  have k1 := HK.out.cell 1
  have k2 := HK.out.cell 2
  have k3 := HK.out.cell 3
  have k4 := HK.out.cell 4
  have z0 := HZ.out.frozen 0
  have z1 := HZ.out.frozen 1
  have z2 := HZ.out.frozen 2
  have z3 := HZ.out.frozen 3
  have y0 := HZ.out.cell 0
  have y1 := HZ.out.cell 1
  have y2 := HZ.out.cell 2
  have y3 := HZ.out.cell 3
  simp only [List.getElem?_toArray, List.getElem?_cons_zero, List.getElem?_cons_succ] at k0 k1 k2 k3 k4 y0 y1 y2 y3
  have t0 := HS.out _ HB.out 0 w0 rfl
  simp only [Nat.add_zero] at t0
  obtain ⟨m, hm⟩ : ∃ m, r.length + 1 = m := ⟨_, rfl⟩
  rw [hm]
  have hm0 : (0 : Int) < (m : Int) := by omega
  by_cases hq : (w0.toList == fw.toList) = true
  case neg =>
    have hqf : (w0.toList == fw.toList) = false := by simpa using hq
    have hq2 : ¬ w0.toList = fw.toList := by simpa using hqf
    have hv : formedV ⟨fw, fo, fc, fx, false⟩ (w0 :: r) = some none := by show (if _ then _ else _) = _; rw [if_neg hq]
    rw [hv]
    have HQ := Lib.hid hq
    clear hq hv HS hsz has ho hn ht hm HQ hB
    go_enter Tryz.func35, Tryz.ntmps35
    go_upto_region 6 with fail
    go_quiet (fail)
    go_wp2
    have HZq := blkH HZ (belDN nq (Below.refl _ _))
    have bF := (((HZq.out.set 0 (.int .u16 0)).set 1 (.int .u8 0)).set 2 (.int .u8 0)).set 3 (.int .u32 0)
    have e0 := bF.cell 0
    have e1 := bF.cell 1
    have e2 := bF.cell 2
    have e3 := bF.cell 3
    simp at e0 e1 e2 e3
    refine bodyPost_ret (v := .tuple #[.agg #[.int .u16 0, .int .u8 0, .int .u8 0, .int .u32 0], .bool false]) (by simp [results, Tryz.results35, go_sem, e0, e1, e2, e3]) rfl ⟨rfl, ?_⟩
    exact ((((belDN nq HB.out).setCell (p := ⟨w.heap.size + 1, 0, none⟩) (by simp) _).setCell (p := ⟨w.heap.size + 1, 1, none⟩) (by simp) _).setCell (p := ⟨w.heap.size + 1, 2, none⟩) (by simp) _).setCell (p := ⟨w.heap.size + 1, 3, none⟩) (by simp) _
  have hv : formedV ⟨fw, fo, fc, fx, false⟩ (w0 :: r) = if r.length + 1 = 1 then some (some (fc, 0, 0, 0)) else some none := by
    show (if _ then (if _ = countF fo false then (if fo.toList.isEmpty = true then _ else _) else _) else _) = _
    rw [if_pos hq, countF, he]
    rfl
  have hw0 : w0 = fw := bytes_eqT (by simpa using hq)
  subst hw0
  rw [hv, hm]
  clear hv hq
  by_cases hmn : m = 1
  case neg =>
    rw [if_neg hmn]
    have hmz : ¬ (m : Int) = 1 := by omega
    have hmb : ((m : Int) == 1) = false := by simpa using hmz
    clear HS hsz has ho hn ht hm hB hmn
    go_enter Tryz.func35, Tryz.ntmps35
    go_upto_region 6 with fail
    go_quiet (fail)
    go_wp2
    have HZq := blkH HZ (belDN nq (Below.refl _ _))
    have bF := (((HZq.out.set 0 (.int .u16 0)).set 1 (.int .u8 0)).set 2 (.int .u8 0)).set 3 (.int .u32 0)
    have e0 := bF.cell 0
    have e1 := bF.cell 1
    have e2 := bF.cell 2
    have e3 := bF.cell 3
    simp at e0 e1 e2 e3
    refine bodyPost_ret (v := .tuple #[.agg #[.int .u16 0, .int .u8 0, .int .u8 0, .int .u32 0], .bool false]) (by simp [results, Tryz.results35, go_sem, e0, e1, e2, e3]) rfl ⟨rfl, ?_⟩
    exact ((((belDN nq HB.out).setCell (p := ⟨w.heap.size + 1, 0, none⟩) (by simp) _).setCell (p := ⟨w.heap.size + 1, 1, none⟩) (by simp) _).setCell (p := ⟨w.heap.size + 1, 2, none⟩) (by simp) _).setCell (p := ⟨w.heap.size + 1, 3, none⟩) (by simp) _
  subst hmn
  rw [if_pos rfl]
  clear hm0
  obtain rfl := len1 hm
  clear HS hsz has ho hn ht hm hB
  go_enter Tryz.func35, Tryz.ntmps35
  go_upto_region 6 with fail
  go_quiet (fail)
  have HZq := blkH HZ (belDN nq (Below.refl _ _))
  have HBq := Lib.hid (belDN nq HB.out)
  go_wp2
  have bF := ((((HZq.out.set 0 (.int .u16 (fc : Int))).set 1 (.int .u8 0)).set 2 (.int .u8 0)).set 3 (.int .u32 0)).alloc (.cells #[.int .u16 (fc : Int), .int .u8 0, .int .u8 0, .int .u32 0] 25)
  have e0 := bF.cell 0
  have e1 := bF.cell 1
  have e2 := bF.cell 2
  have e3 := bF.cell 3
  simp at e0 e1 e2 e3
  have hB4 := (((HBq.out.setCell (p := ⟨w.heap.size + 1, 0, none⟩) (by simp) (.int .u16 (fc : Int))).setCell (p := ⟨w.heap.size + 1, 1, none⟩) (by simp) (.int .u8 0)).setCell (p := ⟨w.heap.size + 1, 2, none⟩) (by simp) (.int .u8 0)).setCell (p := ⟨w.heap.size + 1, 3, none⟩) (by simp) (.int .u32 0)
  have hB5 := hB4.alloc hB4.size (.cells #[.int .u16 (fc : Int), .int .u8 0, .int .u8 0, .int .u32 0] 25)
  first
    | (refine bodyPost_ret (v := .tuple #[.agg #[.int .u16 (fc : Int), .int .u8 0, .int .u8 0, .int .u32 0], .bool true]) (by simp [results, Tryz.results35, go_sem, e0, e1, e2, e3]) rfl ⟨rfl, ?_⟩; exact hB5)


set_option maxRecDepth 100000 in
set_option maxHeartbeats 16000000 in
theorem formed_o (fw fo : ByteArray) (fc : Nat) (fx : Bool) (he : fo.toList.isEmpty = false) (hfc : fc < 65536) (ht : formTag fo ≤ 7) (hn : numberedF fo = tagB (formTag fo)) (ho : fo.size ≤ 3) (has : ∀ b ∈ fo.data.toList, b.toNat < 128)
    (w0 : ByteArray) (r : List ByteArray) (hsz : ∀ s ∈ w0 :: r, s.size ≤ 1000000) (B off cp : Nat) (w : World) (hB : B < w.heap.size) (hcells : ∀ (j : Nat) (s : ByteArray), (w0 :: r)[j]? = some s → w.cell? ⟨B, off + j, none⟩ = some (.string s)) :
    Calls Tryz.prog 35 #[.agg #[.string fw, .string fo, .int .u16 (fc : Int), .bool fx, .bool false], .slice (some ⟨B, off, none⟩) (r.length + 1) cp] w fun e w' => formEnd (formedV ⟨fw, fo, fc, fx, false⟩ (w0 :: r)) e ∧ Below w.heap.size w w' := by
  have hbA := (Blk.new w 62 #[.string fw, .string fo, .int .u16 (fc : Int), .bool fx, .bool false]).alloc (.cells #[.int .u16 0, .int .u8 0, .int .u8 0, .int .u32 0] 25)
  have hbZ := Blk.new (w.alloc (.cells #[.string fw, .string fo, .int .u16 (fc : Int), .bool fx, .bool false] 62)) 25 #[.int .u16 0, .int .u8 0, .int .u8 0, .int .u32 0]
  have hb := ((Below.refl w.heap.size w).alloc (Nat.le_refl _) (.cells #[.string fw, .string fo, .int .u16 (fc : Int), .bool fx, .bool false] 62)).alloc (by simp) (.cells #[.int .u16 0, .int .u8 0, .int .u8 0, .int .u32 0] 25)
  simp only [World.size_alloc] at hbZ
  have HS : Hid (∀ W, Below w.heap.size w W → ∀ (j : Nat) (s : ByteArray), (w0 :: r)[j]? = some s → W.cell? ⟨B, off + j, none⟩ = some (.string s)) := fun W hW j s hj => lcellF hW (hcells j s hj)
  have HK := Lib.hid hbA
  have HZ := Lib.hid hbZ
  have HB := Lib.hid hb
  clear hbA hbZ hb hcells
  have k0 := HK.out.cell 0
  have k1 := HK.out.cell 1
  have k2 := HK.out.cell 2
  have k3 := HK.out.cell 3
  have k4 := HK.out.cell 4
  have z0 := HZ.out.frozen 0
  have z1 := HZ.out.frozen 1
  have z2 := HZ.out.frozen 2
  have z3 := HZ.out.frozen 3
  have y0 := HZ.out.cell 0
  have y1 := HZ.out.cell 1
  have y2 := HZ.out.cell 2
  have y3 := HZ.out.cell 3
  simp only [List.getElem?_toArray, List.getElem?_cons_zero, List.getElem?_cons_succ] at k0 k1 k2 k3 k4 y0 y1 y2 y3
  have t0 := HS.out _ HB.out 0 w0 rfl
  simp only [Nat.add_zero] at t0
  obtain ⟨m, hm⟩ : ∃ m, r.length + 1 = m := ⟨_, rfl⟩
  rw [hm]
  have hm0 : (0 : Int) < (m : Int) := by omega
  by_cases hq : (w0.toList == fw.toList) = true
  case neg =>
    have hqf : (w0.toList == fw.toList) = false := by simpa using hq
    have hq2 : ¬ w0.toList = fw.toList := by simpa using hqf
    have hv : formedV ⟨fw, fo, fc, fx, false⟩ (w0 :: r) = some none := by show (if _ then _ else _) = _; rw [if_neg hq]
    rw [hv]
    have HQ := Lib.hid hq
    clear hq hv HS hsz has ho hn ht hm HQ hB
    go_enter Tryz.func35, Tryz.ntmps35
    go_upto_region 6 with fail
    go_quiet (fail)
    go_wp2
    have HZq := blkH HZ (belDN nq (Below.refl _ _))
    have bF := (((HZq.out.set 0 (.int .u16 0)).set 1 (.int .u8 0)).set 2 (.int .u8 0)).set 3 (.int .u32 0)
    have e0 := bF.cell 0
    have e1 := bF.cell 1
    have e2 := bF.cell 2
    have e3 := bF.cell 3
    simp at e0 e1 e2 e3
    refine bodyPost_ret (v := .tuple #[.agg #[.int .u16 0, .int .u8 0, .int .u8 0, .int .u32 0], .bool false]) (by simp [results, Tryz.results35, go_sem, e0, e1, e2, e3]) rfl ⟨rfl, ?_⟩
    exact ((((belDN nq HB.out).setCell (p := ⟨w.heap.size + 1, 0, none⟩) (by simp) _).setCell (p := ⟨w.heap.size + 1, 1, none⟩) (by simp) _).setCell (p := ⟨w.heap.size + 1, 2, none⟩) (by simp) _).setCell (p := ⟨w.heap.size + 1, 3, none⟩) (by simp) _
  have hv : formedV ⟨fw, fo, fc, fx, false⟩ (w0 :: r) = if r.length + 1 = 2 then formedU ⟨fw, fo, fc, fx, false⟩ r else some none := by
    show (if _ then (if _ = countF fo false then (if fo.toList.isEmpty = true then _ else _) else _) else _) = _
    rw [if_pos hq, countF, he]
    rfl
  have hw0 : w0 = fw := bytes_eqT (by simpa using hq)
  subst hw0
  rw [hv, hm]
  clear hv hq
  by_cases hmn : m = 2
  case neg =>
    rw [if_neg hmn]
    have hmz : ¬ (m : Int) = 2 := by omega
    have hmb : ((m : Int) == 2) = false := by simpa using hmz
    clear HS hsz has ho hn ht hm hB hmn
    go_enter Tryz.func35, Tryz.ntmps35
    go_upto_region 6 with fail
    go_quiet (fail)
    go_wp2
    have HZq := blkH HZ (belDN nq (Below.refl _ _))
    have bF := (((HZq.out.set 0 (.int .u16 0)).set 1 (.int .u8 0)).set 2 (.int .u8 0)).set 3 (.int .u32 0)
    have e0 := bF.cell 0
    have e1 := bF.cell 1
    have e2 := bF.cell 2
    have e3 := bF.cell 3
    simp at e0 e1 e2 e3
    refine bodyPost_ret (v := .tuple #[.agg #[.int .u16 0, .int .u8 0, .int .u8 0, .int .u32 0], .bool false]) (by simp [results, Tryz.results35, go_sem, e0, e1, e2, e3]) rfl ⟨rfl, ?_⟩
    exact ((((belDN nq HB.out).setCell (p := ⟨w.heap.size + 1, 0, none⟩) (by simp) _).setCell (p := ⟨w.heap.size + 1, 1, none⟩) (by simp) _).setCell (p := ⟨w.heap.size + 1, 2, none⟩) (by simp) _).setCell (p := ⟨w.heap.size + 1, 3, none⟩) (by simp) _
  subst hmn
  rw [if_pos rfl]
  clear hm0
  obtain ⟨s1, rfl⟩ := len2 hm
  have hsx : s1.size ≤ 1000000 := hsz s1 (by simp)
  have t1 := HS.out _ HB.out 1 s1 rfl
  have hFU : formedU ⟨w0, fo, fc, fx, false⟩ [s1] = if (innerV (formTag fo) fo.data.toList s1.data.toList).2 = true then (match (if tagB (formTag fo) = true then numV (innerV (formTag fo) fo.data.toList s1.data.toList).1 32 else some 0) with | none => none | some k => formedJ ⟨w0, fo, fc, fx, false⟩ k []) else some none := rfl
  rw [hFU]
  have hin := fun W => inner_any w0 fo s1 (fc : Int) fx false ht hn (by omega) has hsx W
  have hnu := fun W => numbered_any w0 fo (fc : Int) fx false (by omega) has W
  rw [hn] at hnu
  have hnl : (innerV (formTag fo) fo.data.toList s1.data.toList).1.length ≤ 1000000 := by
    unfold innerV
    have e : s1.data.toList.length = s1.size := Array.length_toList
    split
    · have h1 := trimSuffix_len (Lib.trimPrefix s1.data.toList (preT (formTag fo))) (postT (formTag fo))
      have h2 := trimPrefix_len s1.data.toList (preT (formTag fo))
      show (innerK _ _).length ≤ _
      unfold innerK
      omega
    · simp
  obtain ⟨NX, NB, hNX⟩ : ∃ a b, innerV (formTag fo) fo.data.toList s1.data.toList = (a, b) := ⟨_, _, rfl⟩
  rw [hNX] at hin hnl ⊢
  dsimp only at hin hnl ⊢
  obtain ⟨X, hX⟩ : ∃ X : ByteArray, (⟨NX.toArray⟩ : ByteArray) = X := ⟨_, rfl⟩
  have hXl : NX = X.data.toList := by rw [← hX]
  rw [hX] at hin
  subst hXl
  have hXs : X.size ≤ 1000000 := by have e : X.data.toList.length = X.size := Array.length_toList; omega
  have hJ : ∀ k, formedJ ⟨w0, fo, fc, fx, false⟩ k [] = some (some (fc, 0, 0, k)) := fun _ => rfl
  simp only [hJ]
  have hnum := fun W => number3_any X 32 (.inr (.inr rfl)) (by omega) W
  obtain ⟨N5, hN5⟩ : ∃ N5, numV X.data.toList 32 = N5 := ⟨_, rfl⟩
  rw [hN5] at hnum ⊢
  have HNM := Lib.hid hnum
  generalize tagB (formTag fo) = TB at *
  have HIN := Lib.hid hin
  have HNU := Lib.hid hnu
  have HXS := Lib.hid hXs
  clear hin hnu hNX hX hnl hXs hFU hJ hnum hN5
  clear hsz has ho hn ht hm hB hsx
  go_enter Tryz.func35, Tryz.ntmps35
  go_upto_region 6 with fail
  go_quiet (fail)
  go_upto_region 11 with fail
  have HK1 : Hid (Blk ((((w.alloc (.cells #[.string w0, .string fo, .int .u16 (fc : Int), .bool fx, .bool false] 62)).alloc (.cells #[.int .u16 0, .int .u8 0, .int .u8 0, .int .u32 0] 25)).drewN nq).alloc (.cells #[.int .u16 (fc : Int), .int .u8 0, .int .u8 0, .int .u32 0] 25)) w.heap.size 62 #[.string w0, .string fo, .int .u16 (fc : Int), .bool fx, .bool false]) := (HK.out.below (belDN nq (Below.refl _ _)) HK.out.lt).alloc _
  have HZ1 : Hid (Blk ((((w.alloc (.cells #[.string w0, .string fo, .int .u16 (fc : Int), .bool fx, .bool false] 62)).alloc (.cells #[.int .u16 0, .int .u8 0, .int .u8 0, .int .u32 0] 25)).drewN nq).alloc (.cells #[.int .u16 (fc : Int), .int .u8 0, .int .u8 0, .int .u32 0] 25)) (w.heap.size + 1) 25 #[.int .u16 0, .int .u8 0, .int .u8 0, .int .u32 0]) := (HZ.out.below (belDN nq (Below.refl _ _)) HZ.out.lt).alloc _
  have HB1 : Hid (Below w.heap.size w ((((w.alloc (.cells #[.string w0, .string fo, .int .u16 (fc : Int), .bool fx, .bool false] 62)).alloc (.cells #[.int .u16 0, .int .u8 0, .int .u8 0, .int .u32 0] 25)).drewN nq).alloc (.cells #[.int .u16 (fc : Int), .int .u8 0, .int .u8 0, .int .u32 0] 25))) := (belDN nq HB.out).alloc (belDN nq HB.out).size _
  have h7 := Blk.new (((w.alloc (.cells #[.string w0, .string fo, .int .u16 (fc : Int), .bool fx, .bool false] 62)).alloc (.cells #[.int .u16 0, .int .u8 0, .int .u8 0, .int .u32 0] 25)).drewN nq) 25 #[.int .u16 (fc : Int), .int .u8 0, .int .u8 0, .int .u32 0]
  have h7e : (((w.alloc (.cells #[.string w0, .string fo, .int .u16 (fc : Int), .bool fx, .bool false] 62)).alloc (.cells #[.int .u16 0, .int .u8 0, .int .u8 0, .int .u32 0] 25)).drewN nq).heap.size = w.heap.size + 1 + 1 := by simp
  rw [h7e] at h7
  have H7 := Lib.hid h7
  clear h7 h7e HK HZ HB k0 k1 k2 k3 k4 z0 z1 z2 z3 y0 y1 y2 y3 t0 t1
  generalize (((w.alloc (.cells #[.string w0, .string fo, .int .u16 (fc : Int), .bool fx, .bool false] 62)).alloc (.cells #[.int .u16 0, .int .u8 0, .int .u8 0, .int .u32 0] 25)).drewN nq).alloc (.cells #[.int .u16 (fc : Int), .int .u8 0, .int .u8 0, .int .u32 0] 25) = W1 at *
  obtain ⟨B7, hB7⟩ : ∃ B7, w.heap.size + 1 + 1 = B7 := ⟨_, rfl⟩
  rw [hB7] at H7 ⊢
  have HN7 : Hid (w.heap.size + 1 + 1 = B7) := hB7
  clear hB7
  have k0 := HK1.out.cell 0
  have k1 := HK1.out.cell 1
  have k2 := HK1.out.cell 2
  have k3 := HK1.out.cell 3
  have k4 := HK1.out.cell 4
  simp only [List.getElem?_toArray, List.getElem?_cons_zero, List.getElem?_cons_succ] at k0 k1 k2 k3 k4
  have t1 := HS.out _ HB1.out 1 s1 rfl
  go_region_held3 (fun w' => w'.cell? ⟨w.heap.size, 0, none⟩ = some (.string w0) ∧ w'.cell? ⟨w.heap.size, 1, none⟩ = some (.string fo) ∧ w'.cell? ⟨w.heap.size, 2, none⟩ = some (.int .u16 (fc : Int)) ∧ w'.cell? ⟨w.heap.size, 3, none⟩ = some (.bool fx) ∧ w'.cell? ⟨w.heap.size, 4, none⟩ = some (.bool false) ∧ w'.cell? ⟨B, off + 1, none⟩ = some (.string s1) ∧ Below W1.heap.size W1 w') (first | exact ⟨k0, k1, k2, k3, k4, t1, (Below.refl _ W1).drew⟩ | exact keepL6 (by assumption) hbx | go_keep) ((go_at_call 49; refine (HIN.out _).mono ?_; rintro e wx ⟨rfl, hbx⟩))
  have hfin : Below W1.heap.size W1 wx := (show wx.cell? ⟨w.heap.size, 0, none⟩ = some (.string w0) ∧ wx.cell? ⟨w.heap.size, 1, none⟩ = some (.string fo) ∧ wx.cell? ⟨w.heap.size, 2, none⟩ = some (.int .u16 (fc : Int)) ∧ wx.cell? ⟨w.heap.size, 3, none⟩ = some (.bool fx) ∧ wx.cell? ⟨w.heap.size, 4, none⟩ = some (.bool false) ∧ wx.cell? ⟨B, off + 1, none⟩ = some (.string s1) ∧ Below W1.heap.size W1 wx by assumption).2.2.2.2.2.2
  have HK2 := blkH HK1 hfin
  have HZ2 := blkH HZ1 hfin
  have HB2 := belB HB1 hfin
  have H72 := blkH H7 hfin
  clear k0 k1 k2 k3 k4 t1 hfin HK1 HZ1 HB1 H7
  have z0 := HZ2.out.frozen 0
  have z1 := HZ2.out.frozen 1
  have z2 := HZ2.out.frozen 2
  have z3 := HZ2.out.frozen 3
  have y0 := HZ2.out.cell 0
  have y1 := HZ2.out.cell 1
  have y2 := HZ2.out.cell 2
  have y3 := HZ2.out.cell 3
  simp only [List.getElem?_toArray, List.getElem?_cons_zero, List.getElem?_cons_succ] at y0 y1 y2 y3
  cases NB with
  | false =>
    go_wp2
    have bF := (((HZ2.out.set 0 (.int .u16 0)).set 1 (.int .u8 0)).set 2 (.int .u8 0)).set 3 (.int .u32 0)
    have e0 := bF.cell 0
    have e1 := bF.cell 1
    have e2 := bF.cell 2
    have e3 := bF.cell 3
    simp at e0 e1 e2 e3
    refine bodyPost_ret (v := .tuple #[.agg #[.int .u16 0, .int .u8 0, .int .u8 0, .int .u32 0], .bool false]) (by simp [results, Tryz.results35, go_sem, e0, e1, e2, e3]) rfl ⟨rfl, ?_⟩
    exact (((HB2.out.setCell (p := ⟨w.heap.size + 1, 0, none⟩) (by simp) _).setCell (p := ⟨w.heap.size + 1, 1, none⟩) (by simp) _).setCell (p := ⟨w.heap.size + 1, 2, none⟩) (by simp) _).setCell (p := ⟨w.heap.size + 1, 3, none⟩) (by simp) _
  | true =>
    have k0 := HK2.out.cell 0
    have k1 := HK2.out.cell 1
    have k2 := HK2.out.cell 2
    have k3 := HK2.out.cell 3
    have k4 := HK2.out.cell 4
    simp only [List.getElem?_toArray, List.getElem?_cons_zero, List.getElem?_cons_succ] at k0 k1 k2 k3 k4
    go_wp2_with fail
    refine (HNU.out _).mono ?_
    rintro e w4 ⟨rfl, hb4⟩
    have HK4 := blkH HK2 hb4
    have HZ4 := blkH HZ2 hb4
    have HB4 := belB HB2 hb4
    have H74 := blkH H72 hb4
    clear k0 k1 k2 k3 k4 z0 z1 z2 z3 y0 y1 y2 y3 hb4 HK2 HZ2 HB2 H72
    cases TB with
    | false =>
      dsimp only [if_true, Bool.false_eq_true, if_false]
      have k4 := HK4.out.cell 4
      have z0 := HZ4.out.frozen 0
      have z1 := HZ4.out.frozen 1
      have z2 := HZ4.out.frozen 2
      have z3 := HZ4.out.frozen 3
      have y0 := HZ4.out.cell 0
      have y1 := HZ4.out.cell 1
      have y2 := HZ4.out.cell 2
      have y3 := HZ4.out.cell 3
      have p0 := H74.out.cell 0
      have p1 := H74.out.cell 1
      have p2 := H74.out.cell 2
      have p3 := H74.out.cell 3
      simp at k4 y0 y1 y2 y3 p0 p1 p2 p3
      have hne7 : w.heap.size + 1 ≠ B7 := by have := HN7.out; omega
      go_wp2
      have bF := (((HZ4.out.set 0 (.int .u16 (fc : Int))).set 1 (.int .u8 0)).set 2 (.int .u8 0)).set 3 (.int .u32 0)
      have e0 := bF.cell 0
      have e1 := bF.cell 1
      have e2 := bF.cell 2
      have e3 := bF.cell 3
      simp at e0 e1 e2 e3
      refine bodyPost_ret (v := .tuple #[.agg #[.int .u16 (fc : Int), .int .u8 0, .int .u8 0, .int .u32 0], .bool true]) (by simp [results, Tryz.results35, go_sem, e0, e1, e2, e3]) rfl ⟨rfl, ?_⟩
      exact (((HB4.out.setCell (p := ⟨w.heap.size + 1, 0, none⟩) (by simp) _).setCell (p := ⟨w.heap.size + 1, 1, none⟩) (by simp) _).setCell (p := ⟨w.heap.size + 1, 2, none⟩) (by simp) _).setCell (p := ⟨w.heap.size + 1, 3, none⟩) (by simp) _
    | true =>
      cases N5 with
      | none =>
        go_wp2_with fail
        refine (HNM.out _).mono ?_
        rintro e w5 ⟨hne, hb5⟩
        obtain rfl : e = .panicked wrongP := hne
        have HB5 := belB HB4 hb5
        go_wp2
        exact ⟨rfl, rfl, HB5.out⟩
      | some k =>
        go_wp2_with fail
        refine (HNM.out _).mono ?_
        rintro e w5 ⟨hne, hb5⟩
        obtain rfl : e = .returned (.int .u32 (k : Int)) := hne
        have HK5 := blkH HK4 hb5
        have HZ5 := blkH HZ4 hb5
        have HB5 := belB HB4 hb5
        have H75 := blkH H74 hb5
        clear hb5 HK4 HZ4 HB4 H74
        have q0 := H75.out.frozen 3
        have p3 := H75.out.cell 3
        simp only [List.getElem?_toArray, List.getElem?_cons_zero, List.getElem?_cons_succ] at p3
        have HKs := Lib.hid (HK5.out.other (B' := B7) (by have := HN7.out; omega) 3 (.int .u32 (k : Int)))
        have HZs := Lib.hid (HZ5.out.other (B' := B7) (by have := HN7.out; omega) 3 (.int .u32 (k : Int)))
        have HBs := Lib.hid (HB5.out.setCell (p := ⟨B7, 3, none⟩) (by have := HN7.out; show w.heap.size ≤ B7; omega) (.int .u32 (k : Int)))
        have H7s := Lib.hid (H75.out.set 3 (.int .u32 (k : Int)))
        go_upto_region 16 with fail
        clear q0 p3 HK5 HZ5 HB5 H75
        generalize w5.setCell ⟨B7, 3, none⟩ (.int .u32 (k : Int)) = w6 at *
        have k4 := HKs.out.cell 4
        have z0 := HZs.out.frozen 0
        have z1 := HZs.out.frozen 1
        have z2 := HZs.out.frozen 2
        have z3 := HZs.out.frozen 3
        have y0 := HZs.out.cell 0
        have y1 := HZs.out.cell 1
        have y2 := HZs.out.cell 2
        have y3 := HZs.out.cell 3
        have p0 := H7s.out.cell 0
        have p1 := H7s.out.cell 1
        have p2 := H7s.out.cell 2
        have p3 := H7s.out.cell 3
        simp at k4 y0 y1 y2 y3 p0 p1 p2 p3
        have hne7 : w.heap.size + 1 ≠ B7 := by have := HN7.out; omega
        go_wp2
        have bF := (((HZs.out.set 0 (.int .u16 (fc : Int))).set 1 (.int .u8 0)).set 2 (.int .u8 0)).set 3 (.int .u32 (k : Int))
        have e0 := bF.cell 0
        have e1 := bF.cell 1
        have e2 := bF.cell 2
        have e3 := bF.cell 3
        simp at e0 e1 e2 e3
        refine bodyPost_ret (v := .tuple #[.agg #[.int .u16 (fc : Int), .int .u8 0, .int .u8 0, .int .u32 (k : Int)], .bool true]) (by simp [results, Tryz.results35, go_sem, e0, e1, e2, e3]) rfl ⟨rfl, ?_⟩
        exact (((HBs.out.setCell (p := ⟨w.heap.size + 1, 0, none⟩) (by simp) _).setCell (p := ⟨w.heap.size + 1, 1, none⟩) (by simp) _).setCell (p := ⟨w.heap.size + 1, 2, none⟩) (by simp) _).setCell (p := ⟨w.heap.size + 1, 3, none⟩) (by simp) _

set_option maxRecDepth 100000 in
set_option maxHeartbeats 16000000 in
theorem formed_j (fw fo : ByteArray) (fc : Nat) (fx : Bool) (he : fo.toList.isEmpty = false) (hfc : fc < 65536) (ht : formTag fo ≤ 7) (hn : numberedF fo = tagB (formTag fo)) (ho : fo.size ≤ 3) (has : ∀ b ∈ fo.data.toList, b.toNat < 128)
    (w0 : ByteArray) (r : List ByteArray) (hsz : ∀ s ∈ w0 :: r, s.size ≤ 1000000) (B off cp : Nat) (w : World) (hB : B < w.heap.size) (hcells : ∀ (j : Nat) (s : ByteArray), (w0 :: r)[j]? = some s → w.cell? ⟨B, off + j, none⟩ = some (.string s)) :
    Calls Tryz.prog 35 #[.agg #[.string fw, .string fo, .int .u16 (fc : Int), .bool fx, .bool true], .slice (some ⟨B, off, none⟩) (r.length + 1) cp] w fun e w' => formEnd (formedV ⟨fw, fo, fc, fx, true⟩ (w0 :: r)) e ∧ Below w.heap.size w w' := by
  have hbA := (Blk.new w 62 #[.string fw, .string fo, .int .u16 (fc : Int), .bool fx, .bool true]).alloc (.cells #[.int .u16 0, .int .u8 0, .int .u8 0, .int .u32 0] 25)
  have hbZ := Blk.new (w.alloc (.cells #[.string fw, .string fo, .int .u16 (fc : Int), .bool fx, .bool true] 62)) 25 #[.int .u16 0, .int .u8 0, .int .u8 0, .int .u32 0]
  have hb := ((Below.refl w.heap.size w).alloc (Nat.le_refl _) (.cells #[.string fw, .string fo, .int .u16 (fc : Int), .bool fx, .bool true] 62)).alloc (by simp) (.cells #[.int .u16 0, .int .u8 0, .int .u8 0, .int .u32 0] 25)
  simp only [World.size_alloc] at hbZ
  have HS : Hid (∀ W, Below w.heap.size w W → ∀ (j : Nat) (s : ByteArray), (w0 :: r)[j]? = some s → W.cell? ⟨B, off + j, none⟩ = some (.string s)) := fun W hW j s hj => lcellF hW (hcells j s hj)
  have HK := Lib.hid hbA
  have HZ := Lib.hid hbZ
  have HB := Lib.hid hb
  clear hbA hbZ hb hcells
  have k0 := HK.out.cell 0
  have k1 := HK.out.cell 1
  have k2 := HK.out.cell 2
  have k3 := HK.out.cell 3
  have k4 := HK.out.cell 4
  have z0 := HZ.out.frozen 0
  have z1 := HZ.out.frozen 1
  have z2 := HZ.out.frozen 2
  have z3 := HZ.out.frozen 3
  have y0 := HZ.out.cell 0
  have y1 := HZ.out.cell 1
  have y2 := HZ.out.cell 2
  have y3 := HZ.out.cell 3
  simp only [List.getElem?_toArray, List.getElem?_cons_zero, List.getElem?_cons_succ] at k0 k1 k2 k3 k4 y0 y1 y2 y3
  have t0 := HS.out _ HB.out 0 w0 rfl
  simp only [Nat.add_zero] at t0
  obtain ⟨m, hm⟩ : ∃ m, r.length + 1 = m := ⟨_, rfl⟩
  rw [hm]
  have hm0 : (0 : Int) < (m : Int) := by omega
  by_cases hq : (w0.toList == fw.toList) = true
  case neg =>
    have hqf : (w0.toList == fw.toList) = false := by simpa using hq
    have hq2 : ¬ w0.toList = fw.toList := by simpa using hqf
    have hv : formedV ⟨fw, fo, fc, fx, true⟩ (w0 :: r) = some none := by show (if _ then _ else _) = _; rw [if_neg hq]
    rw [hv]
    have HQ := Lib.hid hq
    clear hq hv HS hsz has ho hn ht hm HQ hB
    go_enter Tryz.func35, Tryz.ntmps35
    go_upto_region 6 with fail
    go_quiet (fail)
    go_wp2
    have HZq := blkH HZ (belDN nq (Below.refl _ _))
    have bF := (((HZq.out.set 0 (.int .u16 0)).set 1 (.int .u8 0)).set 2 (.int .u8 0)).set 3 (.int .u32 0)
    have e0 := bF.cell 0
    have e1 := bF.cell 1
    have e2 := bF.cell 2
    have e3 := bF.cell 3
    simp at e0 e1 e2 e3
    refine bodyPost_ret (v := .tuple #[.agg #[.int .u16 0, .int .u8 0, .int .u8 0, .int .u32 0], .bool false]) (by simp [results, Tryz.results35, go_sem, e0, e1, e2, e3]) rfl ⟨rfl, ?_⟩
    exact ((((belDN nq HB.out).setCell (p := ⟨w.heap.size + 1, 0, none⟩) (by simp) _).setCell (p := ⟨w.heap.size + 1, 1, none⟩) (by simp) _).setCell (p := ⟨w.heap.size + 1, 2, none⟩) (by simp) _).setCell (p := ⟨w.heap.size + 1, 3, none⟩) (by simp) _
  have hv : formedV ⟨fw, fo, fc, fx, true⟩ (w0 :: r) = if r.length + 1 = 4 then formedU ⟨fw, fo, fc, fx, true⟩ r else some none := by
    show (if _ then (if _ = countF fo true then (if fo.toList.isEmpty = true then _ else _) else _) else _) = _
    rw [if_pos hq, countF, he]
    rfl
  have hw0 : w0 = fw := bytes_eqT (by simpa using hq)
  subst hw0
  rw [hv, hm]
  clear hv hq
  by_cases hmn : m = 4
  case neg =>
    rw [if_neg hmn]
    have hmz : ¬ (m : Int) = 4 := by omega
    have hmb : ((m : Int) == 4) = false := by simpa using hmz
    clear HS hsz has ho hn ht hm hB hmn
    go_enter Tryz.func35, Tryz.ntmps35
    go_upto_region 6 with fail
    go_quiet (fail)
    go_wp2
    have HZq := blkH HZ (belDN nq (Below.refl _ _))
    have bF := (((HZq.out.set 0 (.int .u16 0)).set 1 (.int .u8 0)).set 2 (.int .u8 0)).set 3 (.int .u32 0)
    have e0 := bF.cell 0
    have e1 := bF.cell 1
    have e2 := bF.cell 2
    have e3 := bF.cell 3
    simp at e0 e1 e2 e3
    refine bodyPost_ret (v := .tuple #[.agg #[.int .u16 0, .int .u8 0, .int .u8 0, .int .u32 0], .bool false]) (by simp [results, Tryz.results35, go_sem, e0, e1, e2, e3]) rfl ⟨rfl, ?_⟩
    exact ((((belDN nq HB.out).setCell (p := ⟨w.heap.size + 1, 0, none⟩) (by simp) _).setCell (p := ⟨w.heap.size + 1, 1, none⟩) (by simp) _).setCell (p := ⟨w.heap.size + 1, 2, none⟩) (by simp) _).setCell (p := ⟨w.heap.size + 1, 3, none⟩) (by simp) _
  subst hmn
  rw [if_pos rfl]
  clear hm0
  obtain ⟨s1, s2, s3, rfl⟩ := len4 hm
  have hsx : s1.size ≤ 1000000 := hsz s1 (by simp)
  have hs2 : s2.size ≤ 1000000 := hsz s2 (by simp)
  have hs3 : s3.size ≤ 1000000 := hsz s3 (by simp)
  have t1 := HS.out _ HB.out 1 s1 rfl
  have hFU : formedU ⟨w0, fo, fc, fx, true⟩ [s1, s2, s3] = if (innerV (formTag fo) fo.data.toList s1.data.toList).2 = true then (match (if tagB (formTag fo) = true then numV (innerV (formTag fo) fo.data.toList s1.data.toList).1 32 else some 0) with | none => none | some k => formedJ ⟨w0, fo, fc, fx, true⟩ k [s2, s3]) else some none := rfl
  rw [hFU]
  have hin := fun W => inner_any w0 fo s1 (fc : Int) fx true ht hn (by omega) has hsx W
  have hnu := fun W => numbered_any w0 fo (fc : Int) fx true (by omega) has W
  rw [hn] at hnu
  have hnl : (innerV (formTag fo) fo.data.toList s1.data.toList).1.length ≤ 1000000 := by
    unfold innerV
    have e : s1.data.toList.length = s1.size := Array.length_toList
    split
    · have h1 := trimSuffix_len (Lib.trimPrefix s1.data.toList (preT (formTag fo))) (postT (formTag fo))
      have h2 := trimPrefix_len s1.data.toList (preT (formTag fo))
      show (innerK _ _).length ≤ _
      unfold innerK
      omega
    · simp
  obtain ⟨NX, NB, hNX⟩ : ∃ a b, innerV (formTag fo) fo.data.toList s1.data.toList = (a, b) := ⟨_, _, rfl⟩
  rw [hNX] at hin hnl ⊢
  dsimp only at hin hnl ⊢
  obtain ⟨X, hX⟩ : ∃ X : ByteArray, (⟨NX.toArray⟩ : ByteArray) = X := ⟨_, rfl⟩
  have hXl : NX = X.data.toList := by rw [← hX]
  rw [hX] at hin
  subst hXl
  have hXs : X.size ≤ 1000000 := by have e : X.data.toList.length = X.size := Array.length_toList; omega
  have hJ : ∀ k, formedJ ⟨w0, fo, fc, fx, true⟩ k [s2, s3] = (match numV s2.data.toList 8 with | none => none | some a => (match numV s3.data.toList 8 with | none => none | some b => some (some (fc, a, b, k)))) := fun _ => rfl
  simp only [hJ]
  have hnum := fun W => number3_any X 32 (.inr (.inr rfl)) (by omega) W
  obtain ⟨N5, hN5⟩ : ∃ N5, numV X.data.toList 32 = N5 := ⟨_, rfl⟩
  rw [hN5] at hnum ⊢
  have HNM := Lib.hid hnum
  have hnum2 := fun W => number3_any s2 8 (.inl rfl) (by omega) W
  obtain ⟨N2, hN2⟩ : ∃ N2, numV s2.data.toList 8 = N2 := ⟨_, rfl⟩
  have HL2 : Hid (∀ a, N2 = some a → a < 256) := fun a h => numV_lt (hN2.trans h)
  rw [hN2] at hnum2 ⊢
  have HNM2 := Lib.hid hnum2
  have hnum3 := fun W => number3_any s3 8 (.inl rfl) (by omega) W
  obtain ⟨N3, hN3⟩ : ∃ N3, numV s3.data.toList 8 = N3 := ⟨_, rfl⟩
  have HL3 : Hid (∀ a, N3 = some a → a < 256) := fun a h => numV_lt (hN3.trans h)
  rw [hN3] at hnum3 ⊢
  have HNM3 := Lib.hid hnum3
  generalize tagB (formTag fo) = TB at *
  have HIN := Lib.hid hin
  have HNU := Lib.hid hnu
  have HXS := Lib.hid hXs
  clear hin hnu hNX hX hnl hXs hFU hJ hnum hN5 hnum2 hN2 hnum3 hN3
  clear hsz has ho hn ht hm hB hsx
  go_enter Tryz.func35, Tryz.ntmps35
  go_upto_region 6 with fail
  go_quiet (fail)
  go_upto_region 11 with fail
  have HK1 : Hid (Blk ((((w.alloc (.cells #[.string w0, .string fo, .int .u16 (fc : Int), .bool fx, .bool true] 62)).alloc (.cells #[.int .u16 0, .int .u8 0, .int .u8 0, .int .u32 0] 25)).drewN nq).alloc (.cells #[.int .u16 (fc : Int), .int .u8 0, .int .u8 0, .int .u32 0] 25)) w.heap.size 62 #[.string w0, .string fo, .int .u16 (fc : Int), .bool fx, .bool true]) := (HK.out.below (belDN nq (Below.refl _ _)) HK.out.lt).alloc _
  have HZ1 : Hid (Blk ((((w.alloc (.cells #[.string w0, .string fo, .int .u16 (fc : Int), .bool fx, .bool true] 62)).alloc (.cells #[.int .u16 0, .int .u8 0, .int .u8 0, .int .u32 0] 25)).drewN nq).alloc (.cells #[.int .u16 (fc : Int), .int .u8 0, .int .u8 0, .int .u32 0] 25)) (w.heap.size + 1) 25 #[.int .u16 0, .int .u8 0, .int .u8 0, .int .u32 0]) := (HZ.out.below (belDN nq (Below.refl _ _)) HZ.out.lt).alloc _
  have HB1 : Hid (Below w.heap.size w ((((w.alloc (.cells #[.string w0, .string fo, .int .u16 (fc : Int), .bool fx, .bool true] 62)).alloc (.cells #[.int .u16 0, .int .u8 0, .int .u8 0, .int .u32 0] 25)).drewN nq).alloc (.cells #[.int .u16 (fc : Int), .int .u8 0, .int .u8 0, .int .u32 0] 25))) := (belDN nq HB.out).alloc (belDN nq HB.out).size _
  have h7 := Blk.new (((w.alloc (.cells #[.string w0, .string fo, .int .u16 (fc : Int), .bool fx, .bool true] 62)).alloc (.cells #[.int .u16 0, .int .u8 0, .int .u8 0, .int .u32 0] 25)).drewN nq) 25 #[.int .u16 (fc : Int), .int .u8 0, .int .u8 0, .int .u32 0]
  have h7e : (((w.alloc (.cells #[.string w0, .string fo, .int .u16 (fc : Int), .bool fx, .bool true] 62)).alloc (.cells #[.int .u16 0, .int .u8 0, .int .u8 0, .int .u32 0] 25)).drewN nq).heap.size = w.heap.size + 1 + 1 := by simp
  rw [h7e] at h7
  have H7 := Lib.hid h7
  clear h7 h7e HK HZ HB k0 k1 k2 k3 k4 z0 z1 z2 z3 y0 y1 y2 y3 t0 t1
  generalize (((w.alloc (.cells #[.string w0, .string fo, .int .u16 (fc : Int), .bool fx, .bool true] 62)).alloc (.cells #[.int .u16 0, .int .u8 0, .int .u8 0, .int .u32 0] 25)).drewN nq).alloc (.cells #[.int .u16 (fc : Int), .int .u8 0, .int .u8 0, .int .u32 0] 25) = W1 at *
  obtain ⟨B7, hB7⟩ : ∃ B7, w.heap.size + 1 + 1 = B7 := ⟨_, rfl⟩
  rw [hB7] at H7 ⊢
  have HN7 : Hid (w.heap.size + 1 + 1 = B7) := hB7
  clear hB7
  have k0 := HK1.out.cell 0
  have k1 := HK1.out.cell 1
  have k2 := HK1.out.cell 2
  have k3 := HK1.out.cell 3
  have k4 := HK1.out.cell 4
  simp only [List.getElem?_toArray, List.getElem?_cons_zero, List.getElem?_cons_succ] at k0 k1 k2 k3 k4
  have t1 := HS.out _ HB1.out 1 s1 rfl
  go_region_held3 (fun w' => w'.cell? ⟨w.heap.size, 0, none⟩ = some (.string w0) ∧ w'.cell? ⟨w.heap.size, 1, none⟩ = some (.string fo) ∧ w'.cell? ⟨w.heap.size, 2, none⟩ = some (.int .u16 (fc : Int)) ∧ w'.cell? ⟨w.heap.size, 3, none⟩ = some (.bool fx) ∧ w'.cell? ⟨w.heap.size, 4, none⟩ = some (.bool true) ∧ w'.cell? ⟨B, off + 1, none⟩ = some (.string s1) ∧ Below W1.heap.size W1 w') (first | exact ⟨k0, k1, k2, k3, k4, t1, (Below.refl _ W1).drew⟩ | exact keepL6 (by assumption) hbx | go_keep) ((go_at_call 49; refine (HIN.out _).mono ?_; rintro e wx ⟨rfl, hbx⟩))
  have hfin : Below W1.heap.size W1 wx := (show wx.cell? ⟨w.heap.size, 0, none⟩ = some (.string w0) ∧ wx.cell? ⟨w.heap.size, 1, none⟩ = some (.string fo) ∧ wx.cell? ⟨w.heap.size, 2, none⟩ = some (.int .u16 (fc : Int)) ∧ wx.cell? ⟨w.heap.size, 3, none⟩ = some (.bool fx) ∧ wx.cell? ⟨w.heap.size, 4, none⟩ = some (.bool true) ∧ wx.cell? ⟨B, off + 1, none⟩ = some (.string s1) ∧ Below W1.heap.size W1 wx by assumption).2.2.2.2.2.2
  have HK2 := blkH HK1 hfin
  have HZ2 := blkH HZ1 hfin
  have HB2 := belB HB1 hfin
  have H72 := blkH H7 hfin
  clear k0 k1 k2 k3 k4 t1 hfin HK1 HZ1 HB1 H7
  have z0 := HZ2.out.frozen 0
  have z1 := HZ2.out.frozen 1
  have z2 := HZ2.out.frozen 2
  have z3 := HZ2.out.frozen 3
  have y0 := HZ2.out.cell 0
  have y1 := HZ2.out.cell 1
  have y2 := HZ2.out.cell 2
  have y3 := HZ2.out.cell 3
  simp only [List.getElem?_toArray, List.getElem?_cons_zero, List.getElem?_cons_succ] at y0 y1 y2 y3
  cases NB with
  | false =>
    go_wp2
    have bF := (((HZ2.out.set 0 (.int .u16 0)).set 1 (.int .u8 0)).set 2 (.int .u8 0)).set 3 (.int .u32 0)
    have e0 := bF.cell 0
    have e1 := bF.cell 1
    have e2 := bF.cell 2
    have e3 := bF.cell 3
    simp at e0 e1 e2 e3
    refine bodyPost_ret (v := .tuple #[.agg #[.int .u16 0, .int .u8 0, .int .u8 0, .int .u32 0], .bool false]) (by simp [results, Tryz.results35, go_sem, e0, e1, e2, e3]) rfl ⟨rfl, ?_⟩
    exact (((HB2.out.setCell (p := ⟨w.heap.size + 1, 0, none⟩) (by simp) _).setCell (p := ⟨w.heap.size + 1, 1, none⟩) (by simp) _).setCell (p := ⟨w.heap.size + 1, 2, none⟩) (by simp) _).setCell (p := ⟨w.heap.size + 1, 3, none⟩) (by simp) _
  | true =>
    have k0 := HK2.out.cell 0
    have k1 := HK2.out.cell 1
    have k2 := HK2.out.cell 2
    have k3 := HK2.out.cell 3
    have k4 := HK2.out.cell 4
    simp only [List.getElem?_toArray, List.getElem?_cons_zero, List.getElem?_cons_succ] at k0 k1 k2 k3 k4
    go_wp2_with fail
    refine (HNU.out _).mono ?_
    rintro e w4 ⟨rfl, hb4⟩
    have HK4 := blkH HK2 hb4
    have HZ4 := blkH HZ2 hb4
    have HB4 := belB HB2 hb4
    have H74 := blkH H72 hb4
    clear k0 k1 k2 k3 k4 z0 z1 z2 z3 y0 y1 y2 y3 hb4 HK2 HZ2 HB2 H72
    cases TB with
    | false =>
      dsimp only [if_true, Bool.false_eq_true, if_false]
      have k4 := HK4.out.cell 4
      simp only [List.getElem?_toArray, List.getElem?_cons_zero, List.getElem?_cons_succ] at k4
      go_upto_region 17 with fail
      clear k4
      have SOK : Hid (∀ w', Below w.heap.size w w' → (w'.cell? ⟨B, off + 2, none⟩ = some (.string s2) ∧ w'.cell? ⟨B, off + 3, none⟩ = some (.string s3))) := fun w' hb => ⟨HS.out _ hb 2 s2 rfl, HS.out _ hb 3 s3 rfl⟩
      refine wp_region_held_drew (S := fun w' => w'.cell? ⟨B, off + 2, none⟩ = some (.string s2) ∧ w'.cell? ⟨B, off + 3, none⟩ = some (.string s3)) (by kernel_rfl) (SOK.out _ HB4.out.drew) (fun hHeld => ?_)
      have HK7 := blkH HK4 (Below.refl _ w4).drew
      have HZ7 := blkH HZ4 (Below.refl _ w4).drew
      have HB7 := Lib.hid HB4.out.drew
      have H77 := blkH H74 (Below.refl _ w4).drew
      clear HK4 HZ4 HB4 H74
      generalize w4.drew = w7 at *
      refine wpAnyH_take (i := 0) (oi := { dst := some 57, op := Op.move (Operand.tmp 1), type := 35, pos := "list.go:135", after := #[], guard := none }) (v := ?vaw40) rfl (by kernel_rfl) (by kernel_rfl) (by kernel_rfl) (fun _ _ _ h => h) (Or.inl ⟨by rfl, ?hyaw40⟩) (by assumption) ?restaw40
      case hyaw40 =>
        intro w hSw
        try dsimp only at hSw
        try obtain ⟨hSw, hSw2⟩ := hSw
        try go_split_ands
        go_simp
        try with_reducible rfl
      try simp only [Act.put, List.setIfInBounds_toArray, List.set_cons_zero, List.set_cons_succ]
      refine wpAnyH_take (i := 1) (oi := { dst := some 58, op := Op.indexAddr 35 (Operand.tmp 57) (Operand.const (Value.int IntKind.i64 2)), type := 0, pos := "list.go:135", after := #[{ on := 0, ground := Ground.data }], guard := none }) (v := ?vaw41) rfl (by kernel_rfl) (by kernel_rfl) (by kernel_rfl) (fun _ _ _ h => h) (Or.inl ⟨by rfl, ?hyaw41⟩) (by assumption) ?restaw41
      case hyaw41 =>
        intro w hSw
        try dsimp only at hSw
        try obtain ⟨hSw, hSw2⟩ := hSw
        try go_split_ands
        go_simp
        try with_reducible rfl
      try simp only [Act.put, List.setIfInBounds_toArray, List.set_cons_zero, List.set_cons_succ]
      refine wpAnyH_take (i := 2) (oi := { dst := some 59, op := Op.load 9 (Operand.tmp 58), type := 9, pos := "list.go:135", after := #[{ on := 1, ground := Ground.data }], guard := none }) (v := ?vaw42) rfl (by kernel_rfl) (by kernel_rfl) (by kernel_rfl) (fun _ _ _ h => h) (Or.inl ⟨by rfl, ?hyaw42⟩) (by assumption) ?restaw42
      case hyaw42 =>
        intro w hSw
        try dsimp only at hSw
        try obtain ⟨hSw, hSw2⟩ := hSw
        try go_split_ands
        go_simp
        try with_reducible rfl
      try simp only [Act.put, List.setIfInBounds_toArray, List.set_cons_zero, List.set_cons_succ]
      refine wpAnyH_take (i := 5) (oi := { dst := some 62, op := Op.move (Operand.tmp 1), type := 35, pos := "list.go:135", after := #[], guard := none }) (v := ?vaw45) rfl (by kernel_rfl) (by kernel_rfl) (by kernel_rfl) (fun _ _ _ h => h) (Or.inl ⟨by rfl, ?hyaw45⟩) (by assumption) ?restaw45
      case hyaw45 =>
        intro w hSw
        try dsimp only at hSw
        try obtain ⟨hSw, hSw2⟩ := hSw
        try go_split_ands
        go_simp
        try with_reducible rfl
      try simp only [Act.put, List.setIfInBounds_toArray, List.set_cons_zero, List.set_cons_succ]
      refine wpAnyH_take (i := 6) (oi := { dst := some 63, op := Op.indexAddr 35 (Operand.tmp 62) (Operand.const (Value.int IntKind.i64 3)), type := 0, pos := "list.go:135", after := #[{ on := 5, ground := Ground.data }], guard := none }) (v := ?vaw46) rfl (by kernel_rfl) (by kernel_rfl) (by kernel_rfl) (fun _ _ _ h => h) (Or.inl ⟨by rfl, ?hyaw46⟩) (by assumption) ?restaw46
      case hyaw46 =>
        intro w hSw
        try dsimp only at hSw
        try obtain ⟨hSw, hSw2⟩ := hSw
        try go_split_ands
        go_simp
        try with_reducible rfl
      try simp only [Act.put, List.setIfInBounds_toArray, List.set_cons_zero, List.set_cons_succ]
      refine wpAnyH_take (i := 7) (oi := { dst := some 64, op := Op.load 9 (Operand.tmp 63), type := 9, pos := "list.go:135", after := #[{ on := 6, ground := Ground.data }], guard := none }) (v := ?vaw47) rfl (by kernel_rfl) (by kernel_rfl) (by kernel_rfl) (fun _ _ _ h => h) (Or.inl ⟨by rfl, ?hyaw47⟩) (by assumption) ?restaw47
      case hyaw47 =>
        intro w hSw
        try dsimp only at hSw
        try obtain ⟨hSw, hSw2⟩ := hSw
        try go_split_ands
        go_simp
        try with_reducible rfl
      try simp only [Act.put, List.setIfInBounds_toArray, List.set_cons_zero, List.set_cons_succ]
      refine wpAnyH_ready (rs := [3]) (by kernel_rfl) (by simp) ?_
      refine AllReadyH.cons (o := { dst := some 60, op := Op.call { callee := Callee.value (Operand.func 34), args := #[Operand.tmp 59, Operand.const (Value.int IntKind.i64 8)], argTypes := #[9, 3] }, type := 23, pos := "list.go:135", after := #[{ on := 2, ground := Ground.data }], guard := none }) rfl (fun K' hK => ?_) AllReadyH.nil
      go_simp
      refine (HNM2.out _).mono ?_
      rintro e w8 ⟨hne, hb8⟩
      cases N2 with
      | none =>
        obtain rfl : e = .panicked wrongP := hne
        have HB8 := belB HB7 hb8
        first
          | exact ⟨rfl, rfl, HB8.out⟩
          | (go_wp2; exact ⟨rfl, rfl, HB8.out⟩)

      | some a =>
        have wa : IntKind.u8.wrap (a : Int) = (a : Int) := IntWalk.u8_in _ ⟨by omega, by have := HL2.out a rfl; omega⟩
        obtain rfl : e = .returned (.int .u32 (a : Int)) := hne
        have HK8 := blkH HK7 hb8
        have HZ8 := blkH HZ7 hb8
        have HB8 := belB HB7 hb8
        have H78 := blkH H77 hb8
        clear hHeld
        refine hK.out _ _ (SOK.out _ HB8.out) (fun hHeld => ?_)
        clear hK K' hb8 HK7 HZ7 HB7 H77
        try simp only [Act.put, List.setIfInBounds_toArray, List.set_cons_zero, List.set_cons_succ]
        refine wpAnyH_take (i := 4) (oi := { dst := some 61, op := Op.convert 23 5 (Operand.tmp 60), type := 5, pos := "list.go:135", after := #[{ on := 3, ground := Ground.data }], guard := none }) (v := ?vbw44) rfl (by kernel_rfl) (by kernel_rfl) (by kernel_rfl) (fun _ _ _ h => h) (Or.inl ⟨by rfl, ?hybw44⟩) (by assumption) ?restbw44
        case hybw44 =>
          intro w hSw
          try dsimp only at hSw
          try obtain ⟨hSw, hSw2⟩ := hSw
          try go_split_ands
          go_simp
          try with_reducible rfl
        try simp only [Act.put, List.setIfInBounds_toArray, List.set_cons_zero, List.set_cons_succ]
        refine wpAnyH_take (i := 10) (oi := { dst := some 67, op := Op.fieldAddr 25 (Operand.tmp 7) 1, type := 0, pos := "list.go:135", after := #[{ on := 0, ground := Ground.phase }, { on := 1, ground := Ground.phase }, { on := 2, ground := Ground.phase }, { on := 3, ground := Ground.phase }, { on := 4, ground := Ground.phase }, { on := 5, ground := Ground.textOnly Departure.lateStores }, { on := 6, ground := Ground.textOnly Departure.lateStores }, { on := 7, ground := Ground.textOnly Departure.lateStores }, { on := 8, ground := Ground.textOnly Departure.lateStoresUnsure }, { on := 9, ground := Ground.textOnly Departure.lateStores }], guard := none }) (v := ?vbw410) rfl (by kernel_rfl) (by kernel_rfl) (by kernel_rfl) (fun _ _ _ h => h) (Or.inl ⟨by rfl, ?hybw410⟩) (by assumption) ?restbw410
        case hybw410 =>
          intro w hSw
          try dsimp only at hSw
          try obtain ⟨hSw, hSw2⟩ := hSw
          try go_split_ands
          go_simp
          try with_reducible rfl
        try simp only [Act.put, List.setIfInBounds_toArray, List.set_cons_zero, List.set_cons_succ]
        refine wpAnyH_ready (rs := [8]) (by kernel_rfl) (by simp) ?_
        refine AllReadyH.cons (o := { dst := some 65, op := Op.call { callee := Callee.value (Operand.func 34), args := #[Operand.tmp 64, Operand.const (Value.int IntKind.i64 8)], argTypes := #[9, 3] }, type := 23, pos := "list.go:135", after := #[{ on := 7, ground := Ground.data }, { on := 3, ground := Ground.chain }], guard := none }) rfl (fun K' hK => ?_) AllReadyH.nil
        go_simp
        refine (HNM3.out _).mono ?_
        rintro e w9 ⟨hne, hb9⟩
        cases N3 with
        | none =>
          obtain rfl : e = .panicked wrongP := hne
          have HB9 := belB HB8 hb9
          first
            | exact ⟨rfl, rfl, HB9.out⟩
            | (go_wp2; exact ⟨rfl, rfl, HB9.out⟩)
        | some b =>
          have wb : IntKind.u8.wrap (b : Int) = (b : Int) := IntWalk.u8_in _ ⟨by omega, by have := HL3.out b rfl; omega⟩
          obtain rfl : e = .returned (.int .u32 (b : Int)) := hne
          have HK9 := blkH HK8 hb9
          have HZ9 := blkH HZ8 hb9
          have HB9 := belB HB8 hb9
          have H79 := blkH H78 hb9
          clear hHeld
          refine hK.out _ _ (SOK.out _ HB9.out) (fun hHeld => ?_)
          clear hK K' hb9 HK8 HZ8 HB8 H78
          try simp only [Act.put, List.setIfInBounds_toArray, List.set_cons_zero, List.set_cons_succ]
          refine wpAnyH_take (i := 9) (oi := { dst := some 66, op := Op.convert 23 5 (Operand.tmp 65), type := 5, pos := "list.go:135", after := #[{ on := 8, ground := Ground.data }, { on := 11, ground := Ground.gcOnly Departure.lateStores }], guard := none }) (v := ?vcw49) rfl (by kernel_rfl) (by kernel_rfl) (by kernel_rfl) (fun _ _ _ h => h) (Or.inl ⟨by rfl, ?hycw49⟩) (by assumption) ?restcw49
          case hycw49 =>
            intro w hSw
            try dsimp only at hSw
            try obtain ⟨hSw, hSw2⟩ := hSw
            try go_split_ands
            go_simp
            try with_reducible rfl
          try simp only [Act.put, List.setIfInBounds_toArray, List.set_cons_zero, List.set_cons_succ]
          refine wpAnyH_ready (rs := [11]) (by kernel_rfl) (by simp) ?_
          refine AllReadyH.cons (o := { dst := none, op := Op.store 5 (Operand.tmp 67) (Operand.tmp 61), type := 0, pos := "list.go:135", after := #[{ on := 10, ground := Ground.data }, { on := 4, ground := Ground.data }, { on := 8, ground := Ground.chain }, { on := 0, ground := Ground.phase }, { on := 1, ground := Ground.phase }, { on := 2, ground := Ground.phase }, { on := 3, ground := Ground.phase }, { on := 4, ground := Ground.phase }, { on := 5, ground := Ground.textOnly Departure.lateStores }, { on := 6, ground := Ground.textOnly Departure.lateStores }, { on := 7, ground := Ground.textOnly Departure.lateStores }, { on := 8, ground := Ground.textOnly Departure.lateStoresUnsure }, { on := 9, ground := Ground.textOnly Departure.lateStores }], guard := none }) rfl (fun K' hK => ?_) AllReadyH.nil
          have q0 := H79.out.frozen 1
          have p0 := H79.out.cell 1
          simp only [List.getElem?_toArray, List.getElem?_cons_zero, List.getElem?_cons_succ, List.setIfInBounds_toArray, List.set_cons_zero, List.set_cons_succ] at p0
          have HZ10 := Lib.hid (HZ9.out.other (B' := B7) (by have := HN7.out; omega) 1 (.int .u8 (a : Int)))
          have HB10 := Lib.hid (HB9.out.setCell (p := ⟨B7, 1, none⟩) (by have := HN7.out; show w.heap.size ≤ B7; omega) (.int .u8 (a : Int)))
          have H710 := Lib.hid (H79.out.set 1 (.int .u8 (a : Int)))
          go_simp
          clear hHeld
          refine hK.out _ _ (SOK.out _ HB10.out) (fun hHeld => ?_)
          clear hK K' q0 p0 HZ9 HB9 H79
          try simp only [Act.put, List.setIfInBounds_toArray, List.set_cons_zero, List.set_cons_succ]
          generalize w9.setCell ⟨B7, 1, none⟩ (.int .u8 (a : Int)) = w10 at *
          refine wpAnyH_take (i := 12) (oi := { dst := some 68, op := Op.fieldAddr 25 (Operand.tmp 7) 2, type := 0, pos := "list.go:135", after := #[{ on := 0, ground := Ground.phase }, { on := 1, ground := Ground.phase }, { on := 2, ground := Ground.phase }, { on := 3, ground := Ground.phase }, { on := 4, ground := Ground.phase }, { on := 5, ground := Ground.phase }, { on := 6, ground := Ground.phase }, { on := 7, ground := Ground.phase }, { on := 8, ground := Ground.phase }, { on := 9, ground := Ground.phase }, { on := 10, ground := Ground.phase }, { on := 11, ground := Ground.phase }], guard := none }) (v := ?vdw412) rfl (by kernel_rfl) (by kernel_rfl) (by kernel_rfl) (fun _ _ _ h => h) (Or.inl ⟨by rfl, ?hydw412⟩) (by assumption) ?restdw412
          case hydw412 =>
            intro w hSw
            try dsimp only at hSw
            try obtain ⟨hSw, hSw2⟩ := hSw
            try go_split_ands
            go_simp
            try with_reducible rfl
          try simp only [Act.put, List.setIfInBounds_toArray, List.set_cons_zero, List.set_cons_succ]
          refine wpAnyH_ready (rs := [13]) (by kernel_rfl) (by simp) ?_
          refine AllReadyH.cons (o := { dst := none, op := Op.store 5 (Operand.tmp 68) (Operand.tmp 66), type := 0, pos := "list.go:135", after := #[{ on := 12, ground := Ground.data }, { on := 9, ground := Ground.data }, { on := 11, ground := Ground.chain }, { on := 0, ground := Ground.phase }, { on := 1, ground := Ground.phase }, { on := 2, ground := Ground.phase }, { on := 3, ground := Ground.phase }, { on := 4, ground := Ground.phase }, { on := 5, ground := Ground.phase }, { on := 6, ground := Ground.phase }, { on := 7, ground := Ground.phase }, { on := 8, ground := Ground.phase }, { on := 9, ground := Ground.phase }, { on := 10, ground := Ground.phase }, { on := 11, ground := Ground.phase }], guard := none }) rfl (fun K' hK => ?_) AllReadyH.nil
          have q0 := H710.out.frozen 2
          have p0 := H710.out.cell 2
          simp only [List.getElem?_toArray, List.getElem?_cons_zero, List.getElem?_cons_succ, List.setIfInBounds_toArray, List.set_cons_zero, List.set_cons_succ] at p0
          have HZ11 := Lib.hid (HZ10.out.other (B' := B7) (by have := HN7.out; omega) 2 (.int .u8 (b : Int)))
          have HB11 := Lib.hid (HB10.out.setCell (p := ⟨B7, 2, none⟩) (by have := HN7.out; show w.heap.size ≤ B7; omega) (.int .u8 (b : Int)))
          have H711 := Lib.hid (H710.out.set 2 (.int .u8 (b : Int)))
          go_simp
          clear hHeld
          refine hK.out _ _ (SOK.out _ HB11.out) (fun hHeld => ?_)
          clear hK K' q0 p0 HZ10 HB10 H710
          try simp only [Act.put, List.setIfInBounds_toArray, List.set_cons_zero, List.set_cons_succ]
          generalize w10.setCell ⟨B7, 2, none⟩ (.int .u8 (b : Int)) = w11 at *
          refine wpAnyH_done (by kernel_rfl) ?_ _
          have z0 := HZ11.out.frozen 0
          have z1 := HZ11.out.frozen 1
          have z2 := HZ11.out.frozen 2
          have z3 := HZ11.out.frozen 3
          have y0 := HZ11.out.cell 0
          have y1 := HZ11.out.cell 1
          have y2 := HZ11.out.cell 2
          have y3 := HZ11.out.cell 3
          have p0 := H711.out.cell 0
          have p1 := H711.out.cell 1
          have p2 := H711.out.cell 2
          have p3 := H711.out.cell 3
          simp at y0 y1 y2 y3 p0 p1 p2 p3
          have hne7 : w.heap.size + 1 ≠ B7 := by have := HN7.out; omega
          go_wp2
          have bF := (((HZ11.out.set 0 (.int .u16 (fc : Int))).set 1 (.int .u8 (a : Int))).set 2 (.int .u8 (b : Int))).set 3 (.int .u32 0)
          have e0 := bF.cell 0
          have e1 := bF.cell 1
          have e2 := bF.cell 2
          have e3 := bF.cell 3
          simp at e0 e1 e2 e3
          refine bodyPost_ret (v := .tuple #[.agg #[.int .u16 (fc : Int), .int .u8 (a : Int), .int .u8 (b : Int), .int .u32 0], .bool true]) (by simp [results, Tryz.results35, go_sem, e0, e1, e2, e3]) rfl ⟨rfl, ?_⟩
          exact (((HB11.out.setCell (p := ⟨w.heap.size + 1, 0, none⟩) (by simp) _).setCell (p := ⟨w.heap.size + 1, 1, none⟩) (by simp) _).setCell (p := ⟨w.heap.size + 1, 2, none⟩) (by simp) _).setCell (p := ⟨w.heap.size + 1, 3, none⟩) (by simp) _
    | true =>
      cases N5 with
      | none =>
        go_wp2_with fail
        refine (HNM.out _).mono ?_
        rintro e w5 ⟨hne, hb5⟩
        obtain rfl : e = .panicked wrongP := hne
        have HB5 := belB HB4 hb5
        go_wp2
        exact ⟨rfl, rfl, HB5.out⟩
      | some k =>
        go_wp2_with fail
        refine (HNM.out _).mono ?_
        rintro e w5 ⟨hne, hb5⟩
        obtain rfl : e = .returned (.int .u32 (k : Int)) := hne
        have HK5 := blkH HK4 hb5
        have HZ5 := blkH HZ4 hb5
        have HB5 := belB HB4 hb5
        have H75 := blkH H74 hb5
        clear hb5 HK4 HZ4 HB4 H74
        have q0 := H75.out.frozen 3
        have p3 := H75.out.cell 3
        simp only [List.getElem?_toArray, List.getElem?_cons_zero, List.getElem?_cons_succ] at p3
        have HKs := Lib.hid (HK5.out.other (B' := B7) (by have := HN7.out; omega) 3 (.int .u32 (k : Int)))
        have HZs := Lib.hid (HZ5.out.other (B' := B7) (by have := HN7.out; omega) 3 (.int .u32 (k : Int)))
        have HBs := Lib.hid (HB5.out.setCell (p := ⟨B7, 3, none⟩) (by have := HN7.out; show w.heap.size ≤ B7; omega) (.int .u32 (k : Int)))
        have H7s := Lib.hid (H75.out.set 3 (.int .u32 (k : Int)))
        go_upto_region 16 with fail
        clear q0 p3 HK5 HZ5 HB5 H75
        generalize w5.setCell ⟨B7, 3, none⟩ (.int .u32 (k : Int)) = w6 at *
        have k4 := HKs.out.cell 4
        simp only [List.getElem?_toArray, List.getElem?_cons_zero, List.getElem?_cons_succ] at k4
        go_upto_region 17 with fail
        clear k4
        have SOK : Hid (∀ w', Below w.heap.size w w' → (w'.cell? ⟨B, off + 2, none⟩ = some (.string s2) ∧ w'.cell? ⟨B, off + 3, none⟩ = some (.string s3))) := fun w' hb => ⟨HS.out _ hb 2 s2 rfl, HS.out _ hb 3 s3 rfl⟩
        refine wp_region_held_drew (S := fun w' => w'.cell? ⟨B, off + 2, none⟩ = some (.string s2) ∧ w'.cell? ⟨B, off + 3, none⟩ = some (.string s3)) (by kernel_rfl) (SOK.out _ HBs.out.drew) (fun hHeld => ?_)
        have HK7 := blkH HKs (Below.refl _ w6).drew
        have HZ7 := blkH HZs (Below.refl _ w6).drew
        have HB7 := Lib.hid HBs.out.drew
        have H77 := blkH H7s (Below.refl _ w6).drew
        clear HKs HZs HBs H7s
        generalize w6.drew = w7 at *
        refine wpAnyH_take (i := 0) (oi := { dst := some 57, op := Op.move (Operand.tmp 1), type := 35, pos := "list.go:135", after := #[], guard := none }) (v := ?vaw60) rfl (by kernel_rfl) (by kernel_rfl) (by kernel_rfl) (fun _ _ _ h => h) (Or.inl ⟨by rfl, ?hyaw60⟩) (by assumption) ?restaw60
        case hyaw60 =>
          intro w hSw
          try dsimp only at hSw
          try obtain ⟨hSw, hSw2⟩ := hSw
          try go_split_ands
          go_simp
          try with_reducible rfl
        try simp only [Act.put, List.setIfInBounds_toArray, List.set_cons_zero, List.set_cons_succ]
        refine wpAnyH_take (i := 1) (oi := { dst := some 58, op := Op.indexAddr 35 (Operand.tmp 57) (Operand.const (Value.int IntKind.i64 2)), type := 0, pos := "list.go:135", after := #[{ on := 0, ground := Ground.data }], guard := none }) (v := ?vaw61) rfl (by kernel_rfl) (by kernel_rfl) (by kernel_rfl) (fun _ _ _ h => h) (Or.inl ⟨by rfl, ?hyaw61⟩) (by assumption) ?restaw61
        case hyaw61 =>
          intro w hSw
          try dsimp only at hSw
          try obtain ⟨hSw, hSw2⟩ := hSw
          try go_split_ands
          go_simp
          try with_reducible rfl
        try simp only [Act.put, List.setIfInBounds_toArray, List.set_cons_zero, List.set_cons_succ]
        refine wpAnyH_take (i := 2) (oi := { dst := some 59, op := Op.load 9 (Operand.tmp 58), type := 9, pos := "list.go:135", after := #[{ on := 1, ground := Ground.data }], guard := none }) (v := ?vaw62) rfl (by kernel_rfl) (by kernel_rfl) (by kernel_rfl) (fun _ _ _ h => h) (Or.inl ⟨by rfl, ?hyaw62⟩) (by assumption) ?restaw62
        case hyaw62 =>
          intro w hSw
          try dsimp only at hSw
          try obtain ⟨hSw, hSw2⟩ := hSw
          try go_split_ands
          go_simp
          try with_reducible rfl
        try simp only [Act.put, List.setIfInBounds_toArray, List.set_cons_zero, List.set_cons_succ]
        refine wpAnyH_take (i := 5) (oi := { dst := some 62, op := Op.move (Operand.tmp 1), type := 35, pos := "list.go:135", after := #[], guard := none }) (v := ?vaw65) rfl (by kernel_rfl) (by kernel_rfl) (by kernel_rfl) (fun _ _ _ h => h) (Or.inl ⟨by rfl, ?hyaw65⟩) (by assumption) ?restaw65
        case hyaw65 =>
          intro w hSw
          try dsimp only at hSw
          try obtain ⟨hSw, hSw2⟩ := hSw
          try go_split_ands
          go_simp
          try with_reducible rfl
        try simp only [Act.put, List.setIfInBounds_toArray, List.set_cons_zero, List.set_cons_succ]
        refine wpAnyH_take (i := 6) (oi := { dst := some 63, op := Op.indexAddr 35 (Operand.tmp 62) (Operand.const (Value.int IntKind.i64 3)), type := 0, pos := "list.go:135", after := #[{ on := 5, ground := Ground.data }], guard := none }) (v := ?vaw66) rfl (by kernel_rfl) (by kernel_rfl) (by kernel_rfl) (fun _ _ _ h => h) (Or.inl ⟨by rfl, ?hyaw66⟩) (by assumption) ?restaw66
        case hyaw66 =>
          intro w hSw
          try dsimp only at hSw
          try obtain ⟨hSw, hSw2⟩ := hSw
          try go_split_ands
          go_simp
          try with_reducible rfl
        try simp only [Act.put, List.setIfInBounds_toArray, List.set_cons_zero, List.set_cons_succ]
        refine wpAnyH_take (i := 7) (oi := { dst := some 64, op := Op.load 9 (Operand.tmp 63), type := 9, pos := "list.go:135", after := #[{ on := 6, ground := Ground.data }], guard := none }) (v := ?vaw67) rfl (by kernel_rfl) (by kernel_rfl) (by kernel_rfl) (fun _ _ _ h => h) (Or.inl ⟨by rfl, ?hyaw67⟩) (by assumption) ?restaw67
        case hyaw67 =>
          intro w hSw
          try dsimp only at hSw
          try obtain ⟨hSw, hSw2⟩ := hSw
          try go_split_ands
          go_simp
          try with_reducible rfl
        try simp only [Act.put, List.setIfInBounds_toArray, List.set_cons_zero, List.set_cons_succ]
        refine wpAnyH_ready (rs := [3]) (by kernel_rfl) (by simp) ?_
        refine AllReadyH.cons (o := { dst := some 60, op := Op.call { callee := Callee.value (Operand.func 34), args := #[Operand.tmp 59, Operand.const (Value.int IntKind.i64 8)], argTypes := #[9, 3] }, type := 23, pos := "list.go:135", after := #[{ on := 2, ground := Ground.data }], guard := none }) rfl (fun K' hK => ?_) AllReadyH.nil
        go_simp
        refine (HNM2.out _).mono ?_
        rintro e w8 ⟨hne, hb8⟩
        cases N2 with
        | none =>
          obtain rfl : e = .panicked wrongP := hne
          have HB8 := belB HB7 hb8
          first
            | exact ⟨rfl, rfl, HB8.out⟩
            | (go_wp2; exact ⟨rfl, rfl, HB8.out⟩)
        | some a =>
          have wa : IntKind.u8.wrap (a : Int) = (a : Int) := IntWalk.u8_in _ ⟨by omega, by have := HL2.out a rfl; omega⟩
          obtain rfl : e = .returned (.int .u32 (a : Int)) := hne
          have HK8 := blkH HK7 hb8
          have HZ8 := blkH HZ7 hb8
          have HB8 := belB HB7 hb8
          have H78 := blkH H77 hb8
          clear hHeld
          refine hK.out _ _ (SOK.out _ HB8.out) (fun hHeld => ?_)
          clear hK K' hb8 HK7 HZ7 HB7 H77
          try simp only [Act.put, List.setIfInBounds_toArray, List.set_cons_zero, List.set_cons_succ]
          refine wpAnyH_take (i := 4) (oi := { dst := some 61, op := Op.convert 23 5 (Operand.tmp 60), type := 5, pos := "list.go:135", after := #[{ on := 3, ground := Ground.data }], guard := none }) (v := ?vbw64) rfl (by kernel_rfl) (by kernel_rfl) (by kernel_rfl) (fun _ _ _ h => h) (Or.inl ⟨by rfl, ?hybw64⟩) (by assumption) ?restbw64
          case hybw64 =>
            intro w hSw
            try dsimp only at hSw
            try obtain ⟨hSw, hSw2⟩ := hSw
            try go_split_ands
            go_simp
            try with_reducible rfl
          try simp only [Act.put, List.setIfInBounds_toArray, List.set_cons_zero, List.set_cons_succ]
          refine wpAnyH_take (i := 10) (oi := { dst := some 67, op := Op.fieldAddr 25 (Operand.tmp 7) 1, type := 0, pos := "list.go:135", after := #[{ on := 0, ground := Ground.phase }, { on := 1, ground := Ground.phase }, { on := 2, ground := Ground.phase }, { on := 3, ground := Ground.phase }, { on := 4, ground := Ground.phase }, { on := 5, ground := Ground.textOnly Departure.lateStores }, { on := 6, ground := Ground.textOnly Departure.lateStores }, { on := 7, ground := Ground.textOnly Departure.lateStores }, { on := 8, ground := Ground.textOnly Departure.lateStoresUnsure }, { on := 9, ground := Ground.textOnly Departure.lateStores }], guard := none }) (v := ?vbw610) rfl (by kernel_rfl) (by kernel_rfl) (by kernel_rfl) (fun _ _ _ h => h) (Or.inl ⟨by rfl, ?hybw610⟩) (by assumption) ?restbw610
          case hybw610 =>
            intro w hSw
            try dsimp only at hSw
            try obtain ⟨hSw, hSw2⟩ := hSw
            try go_split_ands
            go_simp
            try with_reducible rfl
          try simp only [Act.put, List.setIfInBounds_toArray, List.set_cons_zero, List.set_cons_succ]
          refine wpAnyH_ready (rs := [8]) (by kernel_rfl) (by simp) ?_
          refine AllReadyH.cons (o := { dst := some 65, op := Op.call { callee := Callee.value (Operand.func 34), args := #[Operand.tmp 64, Operand.const (Value.int IntKind.i64 8)], argTypes := #[9, 3] }, type := 23, pos := "list.go:135", after := #[{ on := 7, ground := Ground.data }, { on := 3, ground := Ground.chain }], guard := none }) rfl (fun K' hK => ?_) AllReadyH.nil
          go_simp
          refine (HNM3.out _).mono ?_
          rintro e w9 ⟨hne, hb9⟩
          cases N3 with
          | none =>
            obtain rfl : e = .panicked wrongP := hne
            have HB9 := belB HB8 hb9
            first
              | exact ⟨rfl, rfl, HB9.out⟩
              | (go_wp2; exact ⟨rfl, rfl, HB9.out⟩)
          | some b =>
            have wb : IntKind.u8.wrap (b : Int) = (b : Int) := IntWalk.u8_in _ ⟨by omega, by have := HL3.out b rfl; omega⟩
            obtain rfl : e = .returned (.int .u32 (b : Int)) := hne
            have HK9 := blkH HK8 hb9
            have HZ9 := blkH HZ8 hb9
            have HB9 := belB HB8 hb9
            have H79 := blkH H78 hb9
            clear hHeld
            refine hK.out _ _ (SOK.out _ HB9.out) (fun hHeld => ?_)
            clear hK K' hb9 HK8 HZ8 HB8 H78
            try simp only [Act.put, List.setIfInBounds_toArray, List.set_cons_zero, List.set_cons_succ]
            refine wpAnyH_take (i := 9) (oi := { dst := some 66, op := Op.convert 23 5 (Operand.tmp 65), type := 5, pos := "list.go:135", after := #[{ on := 8, ground := Ground.data }, { on := 11, ground := Ground.gcOnly Departure.lateStores }], guard := none }) (v := ?vcw69) rfl (by kernel_rfl) (by kernel_rfl) (by kernel_rfl) (fun _ _ _ h => h) (Or.inl ⟨by rfl, ?hycw69⟩) (by assumption) ?restcw69
            case hycw69 =>
              intro w hSw
              try dsimp only at hSw
              try obtain ⟨hSw, hSw2⟩ := hSw
              try go_split_ands
              go_simp
              try with_reducible rfl
            try simp only [Act.put, List.setIfInBounds_toArray, List.set_cons_zero, List.set_cons_succ]
            refine wpAnyH_ready (rs := [11]) (by kernel_rfl) (by simp) ?_
            refine AllReadyH.cons (o := { dst := none, op := Op.store 5 (Operand.tmp 67) (Operand.tmp 61), type := 0, pos := "list.go:135", after := #[{ on := 10, ground := Ground.data }, { on := 4, ground := Ground.data }, { on := 8, ground := Ground.chain }, { on := 0, ground := Ground.phase }, { on := 1, ground := Ground.phase }, { on := 2, ground := Ground.phase }, { on := 3, ground := Ground.phase }, { on := 4, ground := Ground.phase }, { on := 5, ground := Ground.textOnly Departure.lateStores }, { on := 6, ground := Ground.textOnly Departure.lateStores }, { on := 7, ground := Ground.textOnly Departure.lateStores }, { on := 8, ground := Ground.textOnly Departure.lateStoresUnsure }, { on := 9, ground := Ground.textOnly Departure.lateStores }], guard := none }) rfl (fun K' hK => ?_) AllReadyH.nil
            have q0 := H79.out.frozen 1
            have p0 := H79.out.cell 1
            simp only [List.getElem?_toArray, List.getElem?_cons_zero, List.getElem?_cons_succ, List.setIfInBounds_toArray, List.set_cons_zero, List.set_cons_succ] at p0
            have HZ10 := Lib.hid (HZ9.out.other (B' := B7) (by have := HN7.out; omega) 1 (.int .u8 (a : Int)))
            have HB10 := Lib.hid (HB9.out.setCell (p := ⟨B7, 1, none⟩) (by have := HN7.out; show w.heap.size ≤ B7; omega) (.int .u8 (a : Int)))
            have H710 := Lib.hid (H79.out.set 1 (.int .u8 (a : Int)))
            go_simp
            clear hHeld
            refine hK.out _ _ (SOK.out _ HB10.out) (fun hHeld => ?_)
            clear hK K' q0 p0 HZ9 HB9 H79
            try simp only [Act.put, List.setIfInBounds_toArray, List.set_cons_zero, List.set_cons_succ]
            generalize w9.setCell ⟨B7, 1, none⟩ (.int .u8 (a : Int)) = w10 at *
            refine wpAnyH_take (i := 12) (oi := { dst := some 68, op := Op.fieldAddr 25 (Operand.tmp 7) 2, type := 0, pos := "list.go:135", after := #[{ on := 0, ground := Ground.phase }, { on := 1, ground := Ground.phase }, { on := 2, ground := Ground.phase }, { on := 3, ground := Ground.phase }, { on := 4, ground := Ground.phase }, { on := 5, ground := Ground.phase }, { on := 6, ground := Ground.phase }, { on := 7, ground := Ground.phase }, { on := 8, ground := Ground.phase }, { on := 9, ground := Ground.phase }, { on := 10, ground := Ground.phase }, { on := 11, ground := Ground.phase }], guard := none }) (v := ?vdw612) rfl (by kernel_rfl) (by kernel_rfl) (by kernel_rfl) (fun _ _ _ h => h) (Or.inl ⟨by rfl, ?hydw612⟩) (by assumption) ?restdw612
            case hydw612 =>
              intro w hSw
              try dsimp only at hSw
              try obtain ⟨hSw, hSw2⟩ := hSw
              try go_split_ands
              go_simp
              try with_reducible rfl
            try simp only [Act.put, List.setIfInBounds_toArray, List.set_cons_zero, List.set_cons_succ]
            refine wpAnyH_ready (rs := [13]) (by kernel_rfl) (by simp) ?_
            refine AllReadyH.cons (o := { dst := none, op := Op.store 5 (Operand.tmp 68) (Operand.tmp 66), type := 0, pos := "list.go:135", after := #[{ on := 12, ground := Ground.data }, { on := 9, ground := Ground.data }, { on := 11, ground := Ground.chain }, { on := 0, ground := Ground.phase }, { on := 1, ground := Ground.phase }, { on := 2, ground := Ground.phase }, { on := 3, ground := Ground.phase }, { on := 4, ground := Ground.phase }, { on := 5, ground := Ground.phase }, { on := 6, ground := Ground.phase }, { on := 7, ground := Ground.phase }, { on := 8, ground := Ground.phase }, { on := 9, ground := Ground.phase }, { on := 10, ground := Ground.phase }, { on := 11, ground := Ground.phase }], guard := none }) rfl (fun K' hK => ?_) AllReadyH.nil
            have q0 := H710.out.frozen 2
            have p0 := H710.out.cell 2
            simp only [List.getElem?_toArray, List.getElem?_cons_zero, List.getElem?_cons_succ, List.setIfInBounds_toArray, List.set_cons_zero, List.set_cons_succ] at p0
            have HZ11 := Lib.hid (HZ10.out.other (B' := B7) (by have := HN7.out; omega) 2 (.int .u8 (b : Int)))
            have HB11 := Lib.hid (HB10.out.setCell (p := ⟨B7, 2, none⟩) (by have := HN7.out; show w.heap.size ≤ B7; omega) (.int .u8 (b : Int)))
            have H711 := Lib.hid (H710.out.set 2 (.int .u8 (b : Int)))
            go_simp
            clear hHeld
            refine hK.out _ _ (SOK.out _ HB11.out) (fun hHeld => ?_)
            clear hK K' q0 p0 HZ10 HB10 H710
            try simp only [Act.put, List.setIfInBounds_toArray, List.set_cons_zero, List.set_cons_succ]
            generalize w10.setCell ⟨B7, 2, none⟩ (.int .u8 (b : Int)) = w11 at *
            refine wpAnyH_done (by kernel_rfl) ?_ _
            have z0 := HZ11.out.frozen 0
            have z1 := HZ11.out.frozen 1
            have z2 := HZ11.out.frozen 2
            have z3 := HZ11.out.frozen 3
            have y0 := HZ11.out.cell 0
            have y1 := HZ11.out.cell 1
            have y2 := HZ11.out.cell 2
            have y3 := HZ11.out.cell 3
            have p0 := H711.out.cell 0
            have p1 := H711.out.cell 1
            have p2 := H711.out.cell 2
            have p3 := H711.out.cell 3
            simp at y0 y1 y2 y3 p0 p1 p2 p3
            have hne7 : w.heap.size + 1 ≠ B7 := by have := HN7.out; omega
            go_wp2
            have bF := (((HZ11.out.set 0 (.int .u16 (fc : Int))).set 1 (.int .u8 (a : Int))).set 2 (.int .u8 (b : Int))).set 3 (.int .u32 (k : Int))
            have e0 := bF.cell 0
            have e1 := bF.cell 1
            have e2 := bF.cell 2
            have e3 := bF.cell 3
            simp at e0 e1 e2 e3
            refine bodyPost_ret (v := .tuple #[.agg #[.int .u16 (fc : Int), .int .u8 (a : Int), .int .u8 (b : Int), .int .u32 (k : Int)], .bool true]) (by simp [results, Tryz.results35, go_sem, e0, e1, e2, e3]) rfl ⟨rfl, ?_⟩
            exact (((HB11.out.setCell (p := ⟨w.heap.size + 1, 0, none⟩) (by simp) _).setCell (p := ⟨w.heap.size + 1, 1, none⟩) (by simp) _).setCell (p := ⟨w.heap.size + 1, 2, none⟩) (by simp) _).setCell (p := ⟨w.heap.size + 1, 3, none⟩) (by simp) _
end Go.Proofs.YtokehnclakedeaaGreatDoor
