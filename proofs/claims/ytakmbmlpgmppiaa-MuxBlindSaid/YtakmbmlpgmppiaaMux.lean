/- mux: Kind, the two closures of Of. -/
import Derived.Test.YtakmbmlpgmppiaaSysAwake
import Derived.Test.YtakmbmlpgmppiaaAbiFn
import Derived.Deep.DeepCutAuto
namespace Go.Proofs.Ytakmbmlpgmppiaa
open Go Go.Proofs Go.RowKit

theorem bdnM {B : Nat} {a w : World} (h : Below B a w) (q : Nat) : Below B a (w.drewN q) := ⟨h.os, h.tape, h.output, h.size, h.block⟩

theorem Blk.at (W : World) (t : TypeId) (cs : Array Value) {B : Nat} (h : W.heap.size = B) : Blk (W.alloc (.cells cs t)) B t cs := h ▸ Blk.new W t cs

def kindN (n : Int) : Int := if n = 102 then 1 else if n = 117 then 2 else 0
theorem kind_any (n : Int) (w : World) : Calls Try.prog 27 #[.int .u32 n] w fun e w' => e = .returned (.int .i64 (kindN n)) ∧ w = w' := by
  go_enter Try.func27, Try.ntmps27
  go_wp2
  all_goals (go_ret; exact ⟨retI (by unfold kindN; simp_all), rfl⟩)

/-- The name of a multiplexer's call. -/
def subNm (mux sub : Int) (l : List SRow) : ByteArray := if firstIdx (subP mux sub) l < 0 then ⟨#[]⟩ else (l[(firstIdx (subP mux sub) l).toNat]!).name
def nameNm (l : List SRow) (a : Nat) (n : Int) : ByteArray := if nameIdx l a n < 0 then ⟨#[]⟩ else (l[(nameIdx l a n).toNat]!).name
theorem subAns_nm (mux sub : Int) (l : List SRow) : ∃ b, subAns mux sub l = .tuple #[.string (subNm mux sub l), .bool b] := by
  unfold subAns subNm
  split
  · exact ⟨_, rfl⟩
  · exact ⟨_, rfl⟩
theorem nameAns_nm (l : List SRow) (a : Nat) (n : Int) : ∃ e, nameAns l a n = .tuple #[.string (nameNm l a n), .int .i64 e] := by
  unfold nameAns nameNm
  split
  · exact ⟨_, rfl⟩
  · exact ⟨_, rfl⟩

set_option maxRecDepth 100000 in
set_option maxHeartbeats 1000000 in
theorem of1_any (kind num arch ptr a0 a1 a2 a3 a4 a5 : Int) (_h0 : 0 ≤ a0) (_h1 : a0 < 18446744073709551616) (B1 B2 B3 : Nat) (sv : Value) (l : List SRow) (w : World) (hbig : l.length ≤ 1000000) (hR : RowsV w sv l)
    (k1 : Blk w B1 29 #[sv]) (k2 : Blk w B2 3 #[.int .i64 kind]) (k3 : Blk w B3 55 #[.int .u32 num, .int .u32 arch, .int .u64 ptr, .int .u64 a0, .int .u64 a1, .int .u64 a2, .int .u64 a3, .int .u64 a4, .int .u64 a5]) :
    Calls Try.prog 37 #[.pointer (some ⟨B1, 0, none⟩), .pointer (some ⟨B2, 0, none⟩), .pointer (some ⟨B3, 0, none⟩)] w fun e w' => e = .returned (.string (subNm kind (a0 % 4294967296) l)) ∧ Below w.heap.size w w' := by
  have c1 := k1.cell 0
  have c2 := k2.cell 0
  have c3 := k3.cell 3
  simp only [List.getElem?_toArray, List.getElem?_cons_zero, List.getElem?_cons_succ] at c1 c2 c3
  have hs := sub_any kind (a0 % 4294967296) sv l w hbig hR
  obtain ⟨b, hb⟩ := subAns_nm kind (a0 % 4294967296) l
  rw [hb] at hs
  clear k1 k2 k3 hb hR
  go_enter Try.func37, Try.ntmps37
  go_wp2_with fail
  refine hs.mono ?_
  rintro e w' ⟨rfl, hb'⟩
  go_wp2
  go_ret
  exact ⟨rfl, hb'⟩

set_option maxRecDepth 100000 in
set_option maxHeartbeats 1000000 in
theorem of2_any (a : Nat) (ha : a < 5) (num arch ptr a0 a1 a2 a3 a4 a5 : Int) (h0 : 0 ≤ num) (h1 : num < 4294967296) (B1 B2 B3 : Nat) (sv : Value) (l : List SRow) (w : World) (hbig : l.length ≤ 1000000) (hR : RowsV w sv l)
    (k1 : Blk w B1 29 #[sv]) (k2 : Blk w B2 3 #[.int .i64 a]) (k3 : Blk w B3 55 #[.int .u32 num, .int .u32 arch, .int .u64 ptr, .int .u64 a0, .int .u64 a1, .int .u64 a2, .int .u64 a3, .int .u64 a4, .int .u64 a5]) :
    Calls Try.prog 38 #[.pointer (some ⟨B1, 0, none⟩), .pointer (some ⟨B2, 0, none⟩), .pointer (some ⟨B3, 0, none⟩)] w fun e w' => e = .returned (.string (nameNm l a (ownN a num))) ∧ Below w.heap.size w w' := by
  have c1 : w.cell? ⟨B1, 0, none⟩ = some sv := k1.cell 0
  have c2 : w.cell? ⟨B2, 0, none⟩ = some (.int .i64 a) := k2.cell 0
  have c3 : w.cell? ⟨B3, 0, none⟩ = some (.int .u32 num) := k3.cell 0
  have b1 := k1.lt
  have b2 := k2.lt
  have b3 := k3.lt
  have hs : ∀ W, Below w.heap.size w W → Calls Try.prog 17 #[sv, .int .i64 a, .int .i64 (ownN a num)] W fun e w' => e = .returned (nameAns l a (ownN a num)) ∧ Below W.heap.size W w' := fun W hW => name_any sv l a ha (ownN a num) W hbig (hR.below hW)
  obtain ⟨e1, hb⟩ := nameAns_nm l a (ownN a num)
  rw [hb] at hs
  have Hs := Lib.hid hs
  have Ho := Lib.hid (own_any a num h0 h1)
  have hown : 0 ≤ ownN a num ∧ ownN a num < 4294967296 := by unfold ownN; split <;> omega
  obtain ⟨o0, o1⟩ := hown
  generalize ownN a num = own at *
  clear k1 k2 k3 hb hR hs
  go_enter Try.func38, Try.ntmps38
  go_wp2_with fail
  have hw : IntKind.i64.wrap own = own := IntWalk.i64_in _ (by omega)
  go_region_held3 (fun w' => w'.cell? ⟨B1, 0, none⟩ = some sv ∧ w'.cell? ⟨B2, 0, none⟩ = some (.int .i64 a) ∧ w'.cell? ⟨B3, 0, none⟩ = some (.int .u32 num) ∧ Below w.heap.size w w') (first | exact ⟨c1, c2, c3, (Below.refl _ w).drew⟩ | exact ⟨f1, f2, f3, f4⟩ | assumption) (first | (go_at_call 39; refine (Ho.out _).mono ?_; rintro e w' ⟨rfl, rfl⟩) | (go_at_call 17; refine (Hs.out _ (Below.refl _ w).drew).mono ?_; rintro e w9 ⟨rfl, hb9⟩; have f1 := (hb9.cell (p := ⟨B1, 0, none⟩) b1).trans c1; have f2 := (hb9.cell (p := ⟨B2, 0, none⟩) b2).trans c2; have f3 := (hb9.cell (p := ⟨B3, 0, none⟩) b3).trans c3; have f4 := (Below.refl _ w).drew.trans hb9))
  clear hw f1 f2 f3
  go_wp2
  go_ret
  exact ⟨rfl, f4⟩

theorem refSel_rng (arch number : Int) : refSel arch number = -1 ∨ (0 ≤ refSel arch number ∧ refSel arch number < 5) := by
  unfold refSel
  repeat' split
  all_goals omega

/-- What mux.Of answers. -/
def muxV (l : List SRow) (num arch a0 : Int) : Value :=
  if refSel arch num < 0 then .agg #[.bool false, .int .i64 0, .string ⟨#[]⟩, .bool false]
  else if refSel arch num = 2 ∧ num = 102 then .agg #[.bool true, .int .i64 2, .string (subNm 1 (a0 % 4294967296) l), .bool true]
  else if refSel arch num = 2 ∧ num = 117 then .agg #[.bool true, .int .i64 2, .string (subNm 2 (a0 % 4294967296) l), .bool true]
  else .agg #[.bool true, .int .i64 (refSel arch num), .string (nameNm l (refSel arch num).toNat (ownN (refSel arch num) num)), .bool false]

set_option maxRecDepth 100000 in
set_option maxHeartbeats 1000000 in
theorem muxOf_any (num arch ptr a0 a1 a2 a3 a4 a5 : Int) (h0 : 0 ≤ num) (h1 : num < 4294967296) (g0 : 0 ≤ a0) (g1 : a0 < 18446744073709551616) (sv : Value) (l : List SRow) (w : World) (hbig : l.length ≤ 1000000) (hR : RowsV w sv l) :
    Calls Try.prog 21 #[sv, .agg #[.int .u32 num, .int .u32 arch, .int .u64 ptr, .int .u64 a0, .int .u64 a1, .int .u64 a2, .int .u64 a3, .int .u64 a4, .int .u64 a5]] w fun e w' => e = .returned (muxV l num arch a0) ∧ Below w.heap.size w w' := by
  obtain ⟨ad, cp, hsv, _⟩ := id hR
  obtain ⟨len, hlen⟩ : ∃ len, len = l.length := ⟨_, rfl⟩
  rw [← hlen] at hsv
  subst hsv
  have HLEN := Lib.hid hlen
  clear hlen
  have hsel := select_any arch num h0 h1
  have hr := refSel_rng arch num
  unfold muxV
  generalize refSel arch num = s at *
  have k1 : Blk (((w.alloc (.cells #[.slice ad len cp] 29)).alloc (.cells #[.int .u32 num, .int .u32 arch, .int .u64 ptr, .int .u64 a0, .int .u64 a1, .int .u64 a2, .int .u64 a3, .int .u64 a4, .int .u64 a5] 55)).alloc (.cells #[.bool false, .int .i64 0, .string ⟨#[]⟩, .bool false] 53)) w.heap.size 29 #[.slice ad len cp] := ((Blk.new w 29 #[.slice ad len cp]).alloc _).alloc _
  have k2 : Blk (((w.alloc (.cells #[.slice ad len cp] 29)).alloc (.cells #[.int .u32 num, .int .u32 arch, .int .u64 ptr, .int .u64 a0, .int .u64 a1, .int .u64 a2, .int .u64 a3, .int .u64 a4, .int .u64 a5] 55)).alloc (.cells #[.bool false, .int .i64 0, .string ⟨#[]⟩, .bool false] 53)) (w.heap.size + 1) 55 #[.int .u32 num, .int .u32 arch, .int .u64 ptr, .int .u64 a0, .int .u64 a1, .int .u64 a2, .int .u64 a3, .int .u64 a4, .int .u64 a5] := (Blk.at (w.alloc (.cells #[.slice ad len cp] 29)) 55 #[.int .u32 num, .int .u32 arch, .int .u64 ptr, .int .u64 a0, .int .u64 a1, .int .u64 a2, .int .u64 a3, .int .u64 a4, .int .u64 a5] (by simp)).alloc _
  have k3 : Blk (((w.alloc (.cells #[.slice ad len cp] 29)).alloc (.cells #[.int .u32 num, .int .u32 arch, .int .u64 ptr, .int .u64 a0, .int .u64 a1, .int .u64 a2, .int .u64 a3, .int .u64 a4, .int .u64 a5] 55)).alloc (.cells #[.bool false, .int .i64 0, .string ⟨#[]⟩, .bool false] 53)) (w.heap.size + 1 + 1) 53 #[.bool false, .int .i64 0, .string ⟨#[]⟩, .bool false] := Blk.at ((w.alloc (.cells #[.slice ad len cp] 29)).alloc (.cells #[.int .u32 num, .int .u32 arch, .int .u64 ptr, .int .u64 a0, .int .u64 a1, .int .u64 a2, .int .u64 a3, .int .u64 a4, .int .u64 a5] 55)) _ _ (by simp)
  have hB0 : Below w.heap.size w (((w.alloc (.cells #[.slice ad len cp] 29)).alloc (.cells #[.int .u32 num, .int .u32 arch, .int .u64 ptr, .int .u64 a0, .int .u64 a1, .int .u64 a2, .int .u64 a3, .int .u64 a4, .int .u64 a5] 55)).alloc (.cells #[.bool false, .int .i64 0, .string ⟨#[]⟩, .bool false] 53)) := (((Below.refl _ w).alloc (Nat.le_refl _) _).alloc (by simp) _).alloc (by simp; omega) _
  have K1 := Lib.hid k1
  have K2 := Lib.hid k2
  have K3 := Lib.hid k3
  have HB0 := Lib.hid hB0
  have c0 := k2.cell 0
  have c1 := k2.cell 1
  simp only [List.getElem?_toArray, List.getElem?_cons_zero, List.getElem?_cons_succ] at c0 c1
  clear k1 k2 k3 hB0
  go_enter Try.func21, Try.ntmps21
  go_wp2_with fail
  refine (hsel _).mono ?_
  rintro e w1 ⟨rfl, hb1⟩
  have HR1 := Lib.hid (hR.below (HB0.out.trans (hb1.mono HB0.out.size)))
  have J1 := Lib.hid (K1.out.below hb1 K1.out.lt)
  have J2 := Lib.hid (K2.out.below hb1 K2.out.lt)
  have J3 := Lib.hid (K3.out.below hb1 K3.out.lt)
  have HB1 := Lib.hid (HB0.out.trans (hb1.mono HB0.out.size))
  clear hsel hb1 c0 c1 K1 K2 K3 HB0 hR
  rcases hr with rfl | ⟨s0, s5⟩
  · have f1 : max (-1 : Int) 0 = 0 := rfl
    have f2 : decide ((0 : Int) ≤ -1) = false := rfl
    have JA := J3.out.alloc (.cells #[.int .i64 0] 3)
    have z0 := JA.frozen 0
    have z1 := JA.frozen 1
    have z2 := JA.frozen 2
    have z3 := JA.frozen 3
    have y0 := JA.cell 0
    have y1 := JA.cell 1
    have y2 := JA.cell 2
    have y3 := JA.cell 3
    simp only [List.getElem?_toArray, List.getElem?_cons_zero, List.getElem?_cons_succ] at y0 y1 y2 y3
    have HJA := Lib.hid JA
    clear JA
    go_wp2
    have bF := (((HJA.out.set 0 (.bool false)).set 1 (.int .i64 0)).set 2 (.string ⟨#[]⟩)).set 3 (.bool false)
    have d0 := bF.cell 0
    have d1 := bF.cell 1
    have d2 := bF.cell 2
    have d3 := bF.cell 3
    simp at d0 d1 d2 d3
    have hlt : w.heap.size ≤ w1.heap.size := HB1.out.size
    refine bodyPost_ret (v := .agg #[.bool false, .int .i64 0, .string ⟨#[]⟩, .bool false]) (by simp [results, Try.results21, go_sem, d0, d1, d2, d3]) rfl ⟨rfl, ((((HB1.out.alloc hlt _).setCell (p := ⟨w.heap.size + 1 + 1, 0, none⟩) (by simp; omega) _).setCell (p := ⟨w.heap.size + 1 + 1, 1, none⟩) (by simp; omega) _).setCell (p := ⟨w.heap.size + 1 + 1, 2, none⟩) (by simp; omega) _).setCell (p := ⟨w.heap.size + 1 + 1, 3, none⟩) (by simp; omega) _⟩
  · have f1 : max s 0 = s := by omega
    have f2 : decide (0 ≤ s) = true := decide_eq_true s0
    by_cases s2 : s = 2
    · subst s2
      clear s0 s5
      by_cases n1 : num = 102
      · subst n1
        have P1 := ((J1.out.alloc (.cells #[.int .i64 2] 3)).alloc (.cells #[.bool true, .int .i64 2, .string ⟨#[]⟩, .bool true] 53)).alloc (.cells #[.int .i64 1] 3)
        have P2 := ((J2.out.alloc (.cells #[.int .i64 2] 3)).alloc (.cells #[.bool true, .int .i64 2, .string ⟨#[]⟩, .bool true] 53)).alloc (.cells #[.int .i64 1] 3)
        have P3 := ((J3.out.alloc (.cells #[.int .i64 2] 3)).alloc (.cells #[.bool true, .int .i64 2, .string ⟨#[]⟩, .bool true] 53)).alloc (.cells #[.int .i64 1] 3)
        have P4 := ((Blk.at w1 3 #[.int .i64 2] rfl).alloc (.cells #[.bool true, .int .i64 2, .string ⟨#[]⟩, .bool true] 53)).alloc (.cells #[.int .i64 1] 3)
        have P5 := (Blk.at (w1.alloc (.cells #[.int .i64 2] 3)) 53 #[.bool true, .int .i64 2, .string ⟨#[]⟩, .bool true] (B := w1.heap.size + 1) (by simp)).alloc (.cells #[.int .i64 1] 3)
        have P6 := Blk.at ((w1.alloc (.cells #[.int .i64 2] 3)).alloc (.cells #[.bool true, .int .i64 2, .string ⟨#[]⟩, .bool true] 53)) 3 #[.int .i64 1] (B := w1.heap.size + 1 + 1) (by simp)
        have PB := ((HB1.out.alloc HB1.out.size (.cells #[.int .i64 2] 3)).alloc (Nat.le_trans HB1.out.size (by simp)) (.cells #[.bool true, .int .i64 2, .string ⟨#[]⟩, .bool true] 53)).alloc (Nat.le_trans HB1.out.size (by simp; omega)) (.cells #[.int .i64 1] 3)
        have PR := HR1.out.below ((((Below.refl _ w1).alloc (Nat.le_refl _) (.cells #[.int .i64 2] 3)).alloc (by simp) (.cells #[.bool true, .int .i64 2, .string ⟨#[]⟩, .bool true] 53)).alloc (by simp; omega) (.cells #[.int .i64 1] 3))
        have hcall := of1_any 1 102 arch ptr a0 a1 a2 a3 a4 a5 g0 g1 w.heap.size (w1.heap.size + 1 + 1) (w.heap.size + 1) (.slice ad len cp) l _ hbig PR P1 P6 P2
        have Hcall := Lib.hid hcall
        have Q3 := Lib.hid P3
        have Q5 := Lib.hid P5
        have QB := Lib.hid PB
        clear hcall P1 P3 P4 P5 P6 PB PR
        have c0 := P2.cell 0
        have c9 := (((J2.out.alloc (.cells #[.int .i64 2] 3)).alloc (.cells #[.bool true, .int .i64 2, .string ⟨#[]⟩, .bool false] 53)).alloc (.cells #[.int .i64 0] 3)).cell 0
        simp only [List.getElem?_toArray, List.getElem?_cons_zero] at c0 c9
        clear P2
        have hkind : ∀ W, Calls Try.prog 27 #[.int .u32 102] W fun e w' => e = .returned (.int .i64 1) ∧ W = w' := fun W => kind_any 102 W
        have HK := Lib.hid hkind
        clear hkind
        go_wp2_with (go_at_call 27; refine (HK.out _).mono ?_; rintro e w' ⟨rfl, rfl⟩)
        refine Hcall.out.mono ?_
        rintro e w5 ⟨rfl, hb5⟩
        clear c0 c9
        have R3 := Q3.out.below hb5 Q3.out.lt
        have R5 := Q5.out.below hb5 Q5.out.lt
        have HB5 := Lib.hid (QB.out.trans (hb5.mono QB.out.size))
        have hlt3 : w.heap.size + 1 + 1 < w1.heap.size := J3.out.lt
        have S5 := R5.set 2 (.string (subNm 1 (a0 % 4294967296) l))
        have S3 := R3.other (B' := w1.heap.size + 1) (by omega) 2 (.string (subNm 1 (a0 % 4294967296) l))
        have y0 := S5.cell 0
        have y1 := S5.cell 1
        have y2 := S5.cell 2
        have y3 := S5.cell 3
        simp at y0 y1 y2 y3
        have v2 := R5.cell 2
        have vf := R5.frozen 2
        have x0 := S3.cell 0
        have z0 := S3.frozen 0
        have x1 := S3.cell 1
        have z1 := S3.frozen 1
        have x2 := S3.cell 2
        have z2 := S3.frozen 2
        have x3 := S3.cell 3
        have z3 := S3.frozen 3
        simp only [List.getElem?_toArray, List.getElem?_cons_zero, List.getElem?_cons_succ] at x0 x1 x2 x3 v2
        have HS3 := Lib.hid S3
        clear R3 R5 S3 S5
        have hsz5 := hb5.size
        simp only [World.size_alloc] at hsz5
        have HSZ := Lib.hid hsz5
        have HLT := Lib.hid hlt3
        clear hsz5 hlt3 hb5
        go_wp2
        have bF := (((HS3.out.set 0 (.bool true)).set 1 (.int .i64 2)).set 2 (.string (subNm 1 (a0 % 4294967296) l))).set 3 (.bool true)
        have d0 := bF.cell 0
        have d1 := bF.cell 1
        have d2 := bF.cell 2
        have d3 := bF.cell 3
        simp at d0 d1 d2 d3
        have hlt : w.heap.size ≤ w1.heap.size := HB1.out.size
        refine bodyPost_ret (v := .agg #[.bool true, .int .i64 2, .string (subNm 1 (a0 % 4294967296) l), .bool true]) (by simp [results, Try.results21, go_sem, d0, d1, d2, d3]) rfl ⟨by first | rfl | (rw [if_neg (by omega), if_pos ⟨rfl, rfl⟩]), ((((HB5.out.setCell (p := ⟨w1.heap.size + 1, 2, none⟩) (by simp; omega) _).setCell (p := ⟨w.heap.size + 1 + 1, 0, none⟩) (by simp; omega) _).setCell (p := ⟨w.heap.size + 1 + 1, 1, none⟩) (by simp; omega) _).setCell (p := ⟨w.heap.size + 1 + 1, 2, none⟩) (by simp; omega) _).setCell (p := ⟨w.heap.size + 1 + 1, 3, none⟩) (by simp; omega) _⟩
      · by_cases n2 : num = 117
        · subst n2
          have P1 := ((J1.out.alloc (.cells #[.int .i64 2] 3)).alloc (.cells #[.bool true, .int .i64 2, .string ⟨#[]⟩, .bool true] 53)).alloc (.cells #[.int .i64 2] 3)
          have P2 := ((J2.out.alloc (.cells #[.int .i64 2] 3)).alloc (.cells #[.bool true, .int .i64 2, .string ⟨#[]⟩, .bool true] 53)).alloc (.cells #[.int .i64 2] 3)
          have P3 := ((J3.out.alloc (.cells #[.int .i64 2] 3)).alloc (.cells #[.bool true, .int .i64 2, .string ⟨#[]⟩, .bool true] 53)).alloc (.cells #[.int .i64 2] 3)
          have P4 := ((Blk.at w1 3 #[.int .i64 2] rfl).alloc (.cells #[.bool true, .int .i64 2, .string ⟨#[]⟩, .bool true] 53)).alloc (.cells #[.int .i64 2] 3)
          have P5 := (Blk.at (w1.alloc (.cells #[.int .i64 2] 3)) 53 #[.bool true, .int .i64 2, .string ⟨#[]⟩, .bool true] (B := w1.heap.size + 1) (by simp)).alloc (.cells #[.int .i64 2] 3)
          have P6 := Blk.at ((w1.alloc (.cells #[.int .i64 2] 3)).alloc (.cells #[.bool true, .int .i64 2, .string ⟨#[]⟩, .bool true] 53)) 3 #[.int .i64 2] (B := w1.heap.size + 1 + 1) (by simp)
          have PB := ((HB1.out.alloc HB1.out.size (.cells #[.int .i64 2] 3)).alloc (Nat.le_trans HB1.out.size (by simp)) (.cells #[.bool true, .int .i64 2, .string ⟨#[]⟩, .bool true] 53)).alloc (Nat.le_trans HB1.out.size (by simp; omega)) (.cells #[.int .i64 2] 3)
          have PR := HR1.out.below ((((Below.refl _ w1).alloc (Nat.le_refl _) (.cells #[.int .i64 2] 3)).alloc (by simp) (.cells #[.bool true, .int .i64 2, .string ⟨#[]⟩, .bool true] 53)).alloc (by simp; omega) (.cells #[.int .i64 2] 3))
          have hcall := of1_any 2 117 arch ptr a0 a1 a2 a3 a4 a5 g0 g1 w.heap.size (w1.heap.size + 1 + 1) (w.heap.size + 1) (.slice ad len cp) l _ hbig PR P1 P6 P2
          have Hcall := Lib.hid hcall
          have Q3 := Lib.hid P3
          have Q5 := Lib.hid P5
          have QB := Lib.hid PB
          clear hcall P1 P3 P4 P5 P6 PB PR
          have c0 := P2.cell 0
          have c9 := (((J2.out.alloc (.cells #[.int .i64 2] 3)).alloc (.cells #[.bool true, .int .i64 2, .string ⟨#[]⟩, .bool false] 53)).alloc (.cells #[.int .i64 0] 3)).cell 0
          simp only [List.getElem?_toArray, List.getElem?_cons_zero] at c0 c9
          clear P2
          have hkind : ∀ W, Calls Try.prog 27 #[.int .u32 117] W fun e w' => e = .returned (.int .i64 2) ∧ W = w' := fun W => kind_any 117 W
          have HK := Lib.hid hkind
          clear hkind
          go_wp2_with (go_at_call 27; refine (HK.out _).mono ?_; rintro e w' ⟨rfl, rfl⟩)
          refine Hcall.out.mono ?_
          rintro e w5 ⟨rfl, hb5⟩
          clear c0 c9
          have R3 := Q3.out.below hb5 Q3.out.lt
          have R5 := Q5.out.below hb5 Q5.out.lt
          have HB5 := Lib.hid (QB.out.trans (hb5.mono QB.out.size))
          have hlt3 : w.heap.size + 1 + 1 < w1.heap.size := J3.out.lt
          have S5 := R5.set 2 (.string (subNm 2 (a0 % 4294967296) l))
          have S3 := R3.other (B' := w1.heap.size + 1) (by omega) 2 (.string (subNm 2 (a0 % 4294967296) l))
          have y0 := S5.cell 0
          have y1 := S5.cell 1
          have y2 := S5.cell 2
          have y3 := S5.cell 3
          simp at y0 y1 y2 y3
          have v2 := R5.cell 2
          have vf := R5.frozen 2
          have x0 := S3.cell 0
          have z0 := S3.frozen 0
          have x1 := S3.cell 1
          have z1 := S3.frozen 1
          have x2 := S3.cell 2
          have z2 := S3.frozen 2
          have x3 := S3.cell 3
          have z3 := S3.frozen 3
          simp only [List.getElem?_toArray, List.getElem?_cons_zero, List.getElem?_cons_succ] at x0 x1 x2 x3 v2
          have HS3 := Lib.hid S3
          clear R3 R5 S3 S5
          have hsz5 := hb5.size
          simp only [World.size_alloc] at hsz5
          have HSZ := Lib.hid hsz5
          have HLT := Lib.hid hlt3
          clear hsz5 hlt3 hb5
          go_wp2
          have bF := (((HS3.out.set 0 (.bool true)).set 1 (.int .i64 2)).set 2 (.string (subNm 2 (a0 % 4294967296) l))).set 3 (.bool true)
          have d0 := bF.cell 0
          have d1 := bF.cell 1
          have d2 := bF.cell 2
          have d3 := bF.cell 3
          simp at d0 d1 d2 d3
          have hlt : w.heap.size ≤ w1.heap.size := HB1.out.size
          refine bodyPost_ret (v := .agg #[.bool true, .int .i64 2, .string (subNm 2 (a0 % 4294967296) l), .bool true]) (by simp [results, Try.results21, go_sem, d0, d1, d2, d3]) rfl ⟨by first | rfl | (rw [if_neg (by omega), if_neg (by omega), if_pos ⟨rfl, rfl⟩]), ((((HB5.out.setCell (p := ⟨w1.heap.size + 1, 2, none⟩) (by simp; omega) _).setCell (p := ⟨w.heap.size + 1 + 1, 0, none⟩) (by simp; omega) _).setCell (p := ⟨w.heap.size + 1 + 1, 1, none⟩) (by simp; omega) _).setCell (p := ⟨w.heap.size + 1 + 1, 2, none⟩) (by simp; omega) _).setCell (p := ⟨w.heap.size + 1 + 1, 3, none⟩) (by simp; omega) _⟩
        · have hk0 : kindN num = 0 := by unfold kindN; rw [if_neg n1, if_neg n2]
          have P1 := ((J1.out.alloc (.cells #[.int .i64 2] 3)).alloc (.cells #[.bool true, .int .i64 2, .string ⟨#[]⟩, .bool false] 53)).alloc (.cells #[.int .i64 0] 3)
          have P2 := ((J2.out.alloc (.cells #[.int .i64 2] 3)).alloc (.cells #[.bool true, .int .i64 2, .string ⟨#[]⟩, .bool false] 53)).alloc (.cells #[.int .i64 0] 3)
          have P3 := ((J3.out.alloc (.cells #[.int .i64 2] 3)).alloc (.cells #[.bool true, .int .i64 2, .string ⟨#[]⟩, .bool false] 53)).alloc (.cells #[.int .i64 0] 3)
          have P4 := ((Blk.at w1 3 #[.int .i64 2] rfl).alloc (.cells #[.bool true, .int .i64 2, .string ⟨#[]⟩, .bool false] 53)).alloc (.cells #[.int .i64 0] 3)
          have P5 := (Blk.at (w1.alloc (.cells #[.int .i64 2] 3)) 53 #[.bool true, .int .i64 2, .string ⟨#[]⟩, .bool false] (B := w1.heap.size + 1) (by simp)).alloc (.cells #[.int .i64 0] 3)
          have P6 := Blk.at ((w1.alloc (.cells #[.int .i64 2] 3)).alloc (.cells #[.bool true, .int .i64 2, .string ⟨#[]⟩, .bool false] 53)) 3 #[.int .i64 0] (B := w1.heap.size + 1 + 1) (by simp)
          have PB := ((HB1.out.alloc HB1.out.size (.cells #[.int .i64 2] 3)).alloc (Nat.le_trans HB1.out.size (by simp)) (.cells #[.bool true, .int .i64 2, .string ⟨#[]⟩, .bool false] 53)).alloc (Nat.le_trans HB1.out.size (by simp; omega)) (.cells #[.int .i64 0] 3)
          have PR := HR1.out.below ((((Below.refl _ w1).alloc (Nat.le_refl _) (.cells #[.int .i64 2] 3)).alloc (by simp) (.cells #[.bool true, .int .i64 2, .string ⟨#[]⟩, .bool false] 53)).alloc (by simp; omega) (.cells #[.int .i64 0] 3))
          have hcall := of2_any 2 (by omega) num arch ptr a0 a1 a2 a3 a4 a5 h0 h1 w.heap.size w1.heap.size (w.heap.size + 1) (.slice ad len cp) l _ hbig PR P1 P4 P2
          have Hcall := Lib.hid hcall
          have Q3 := Lib.hid P3
          have Q5 := Lib.hid P5
          have QB := Lib.hid PB
          clear hcall P1 P3 P4 P5 P6 PB PR
          have c0 := P2.cell 0
          have c9 := (((J2.out.alloc (.cells #[.int .i64 2] 3)).alloc (.cells #[.bool true, .int .i64 2, .string ⟨#[]⟩, .bool false] 53)).alloc (.cells #[.int .i64 0] 3)).cell 0
          simp only [List.getElem?_toArray, List.getElem?_cons_zero] at c0 c9
          clear P2
          have hkind : ∀ W, Calls Try.prog 27 #[.int .u32 num] W fun e w' => e = .returned (.int .i64 0) ∧ W = w' := fun W => by have := kind_any num W; rw [hk0] at this; exact this
          have HK := Lib.hid hkind
          clear hkind
          go_wp2_with (go_at_call 27; refine (HK.out _).mono ?_; rintro e w' ⟨rfl, rfl⟩)
          refine Hcall.out.mono ?_
          rintro e w5 ⟨rfl, hb5⟩
          clear c0 c9
          have R3 := Q3.out.below hb5 Q3.out.lt
          have R5 := Q5.out.below hb5 Q5.out.lt
          have HB5 := Lib.hid (QB.out.trans (hb5.mono QB.out.size))
          have hlt3 : w.heap.size + 1 + 1 < w1.heap.size := J3.out.lt
          have S5 := R5.set 2 (.string (nameNm l 2 (ownN 2 num)))
          have S3 := R3.other (B' := w1.heap.size + 1) (by omega) 2 (.string (nameNm l 2 (ownN 2 num)))
          have y0 := S5.cell 0
          have y1 := S5.cell 1
          have y2 := S5.cell 2
          have y3 := S5.cell 3
          simp at y0 y1 y2 y3
          have v2 := R5.cell 2
          have vf := R5.frozen 2
          have x0 := S3.cell 0
          have z0 := S3.frozen 0
          have x1 := S3.cell 1
          have z1 := S3.frozen 1
          have x2 := S3.cell 2
          have z2 := S3.frozen 2
          have x3 := S3.cell 3
          have z3 := S3.frozen 3
          simp only [List.getElem?_toArray, List.getElem?_cons_zero, List.getElem?_cons_succ] at x0 x1 x2 x3 v2
          have HS3 := Lib.hid S3
          clear R3 R5 S3 S5
          have hsz5 := hb5.size
          simp only [World.size_alloc] at hsz5
          have HSZ := Lib.hid hsz5
          have HLT := Lib.hid hlt3
          clear hsz5 hlt3 hb5
          go_wp2
          have bF := (((HS3.out.set 0 (.bool true)).set 1 (.int .i64 2)).set 2 (.string (nameNm l 2 (ownN 2 num)))).set 3 (.bool false)
          have d0 := bF.cell 0
          have d1 := bF.cell 1
          have d2 := bF.cell 2
          have d3 := bF.cell 3
          simp at d0 d1 d2 d3
          have hlt : w.heap.size ≤ w1.heap.size := HB1.out.size
          refine bodyPost_ret (v := .agg #[.bool true, .int .i64 2, .string (nameNm l 2 (ownN 2 num)), .bool false]) (by simp [results, Try.results21, go_sem, d0, d1, d2, d3]) rfl ⟨by first | rfl | (rw [if_neg (by omega), if_neg (by omega), if_neg (by omega)]; rfl), ((((HB5.out.setCell (p := ⟨w1.heap.size + 1, 2, none⟩) (by simp; omega) _).setCell (p := ⟨w.heap.size + 1 + 1, 0, none⟩) (by simp; omega) _).setCell (p := ⟨w.heap.size + 1 + 1, 1, none⟩) (by simp; omega) _).setCell (p := ⟨w.heap.size + 1 + 1, 2, none⟩) (by simp; omega) _).setCell (p := ⟨w.heap.size + 1 + 1, 3, none⟩) (by simp; omega) _⟩
    · have e2 : (s == 2) = false := by simpa using s2
      obtain ⟨A, rfl⟩ := Int.eq_ofNat_of_zero_le s0
      have P1 := ((J1.out.alloc (.cells #[.int .i64 (A : Int)] 3)).alloc (.cells #[.bool true, .int .i64 (A : Int), .string ⟨#[]⟩, .bool false] 53)).alloc (.cells #[.int .i64 0] 3)
      have P2 := ((J2.out.alloc (.cells #[.int .i64 (A : Int)] 3)).alloc (.cells #[.bool true, .int .i64 (A : Int), .string ⟨#[]⟩, .bool false] 53)).alloc (.cells #[.int .i64 0] 3)
      have P3 := ((J3.out.alloc (.cells #[.int .i64 (A : Int)] 3)).alloc (.cells #[.bool true, .int .i64 (A : Int), .string ⟨#[]⟩, .bool false] 53)).alloc (.cells #[.int .i64 0] 3)
      have P4 := ((Blk.at w1 3 #[.int .i64 (A : Int)] rfl).alloc (.cells #[.bool true, .int .i64 (A : Int), .string ⟨#[]⟩, .bool false] 53)).alloc (.cells #[.int .i64 0] 3)
      have P5 := (Blk.at (w1.alloc (.cells #[.int .i64 (A : Int)] 3)) 53 #[.bool true, .int .i64 (A : Int), .string ⟨#[]⟩, .bool false] (B := w1.heap.size + 1) (by simp)).alloc (.cells #[.int .i64 0] 3)
      have P6 := Blk.at ((w1.alloc (.cells #[.int .i64 (A : Int)] 3)).alloc (.cells #[.bool true, .int .i64 (A : Int), .string ⟨#[]⟩, .bool false] 53)) 3 #[.int .i64 0] (B := w1.heap.size + 1 + 1) (by simp)
      have PB := ((HB1.out.alloc HB1.out.size (.cells #[.int .i64 (A : Int)] 3)).alloc (Nat.le_trans HB1.out.size (by simp)) (.cells #[.bool true, .int .i64 (A : Int), .string ⟨#[]⟩, .bool false] 53)).alloc (Nat.le_trans HB1.out.size (by simp; omega)) (.cells #[.int .i64 0] 3)
      have PR := HR1.out.below ((((Below.refl _ w1).alloc (Nat.le_refl _) (.cells #[.int .i64 (A : Int)] 3)).alloc (by simp) (.cells #[.bool true, .int .i64 (A : Int), .string ⟨#[]⟩, .bool false] 53)).alloc (by simp; omega) (.cells #[.int .i64 0] 3))
      have hcall := of2_any A (by omega) num arch ptr a0 a1 a2 a3 a4 a5 h0 h1 w.heap.size w1.heap.size (w.heap.size + 1) (.slice ad len cp) l _ hbig PR P1 P4 P2
      have Hcall := Lib.hid hcall
      have Q3 := Lib.hid P3
      have Q5 := Lib.hid P5
      have QB := Lib.hid PB
      clear hcall P1 P3 P4 P5 P6 PB PR
      have c0 := P2.cell 0
      have c9 := (((J2.out.alloc (.cells #[.int .i64 (A : Int)] 3)).alloc (.cells #[.bool true, .int .i64 (A : Int), .string ⟨#[]⟩, .bool false] 53)).alloc (.cells #[.int .i64 0] 3)).cell 0
      simp only [List.getElem?_toArray, List.getElem?_cons_zero] at c0 c9
      clear P2
      go_wp2_with fail
      refine Hcall.out.mono ?_
      rintro e w5 ⟨rfl, hb5⟩
      clear c0 c9
      have R3 := Q3.out.below hb5 Q3.out.lt
      have R5 := Q5.out.below hb5 Q5.out.lt
      have HB5 := Lib.hid (QB.out.trans (hb5.mono QB.out.size))
      have hlt3 : w.heap.size + 1 + 1 < w1.heap.size := J3.out.lt
      have S5 := R5.set 2 (.string (nameNm l A (ownN A num)))
      have S3 := R3.other (B' := w1.heap.size + 1) (by omega) 2 (.string (nameNm l A (ownN A num)))
      have y0 := S5.cell 0
      have y1 := S5.cell 1
      have y2 := S5.cell 2
      have y3 := S5.cell 3
      simp at y0 y1 y2 y3
      have v2 := R5.cell 2
      have vf := R5.frozen 2
      have x0 := S3.cell 0
      have z0 := S3.frozen 0
      have x1 := S3.cell 1
      have z1 := S3.frozen 1
      have x2 := S3.cell 2
      have z2 := S3.frozen 2
      have x3 := S3.cell 3
      have z3 := S3.frozen 3
      simp only [List.getElem?_toArray, List.getElem?_cons_zero, List.getElem?_cons_succ] at x0 x1 x2 x3 v2
      have HS3 := Lib.hid S3
      clear R3 R5 S3 S5
      have hsz5 := hb5.size
      simp only [World.size_alloc] at hsz5
      have HSZ := Lib.hid hsz5
      have HLT := Lib.hid hlt3
      clear hsz5 hlt3 hb5
      go_wp2
      have bF := (((HS3.out.set 0 (.bool true)).set 1 (.int .i64 (A : Int))).set 2 (.string (nameNm l A (ownN A num)))).set 3 (.bool false)
      have d0 := bF.cell 0
      have d1 := bF.cell 1
      have d2 := bF.cell 2
      have d3 := bF.cell 3
      simp at d0 d1 d2 d3
      have hlt : w.heap.size ≤ w1.heap.size := HB1.out.size
      refine bodyPost_ret (v := .agg #[.bool true, .int .i64 (A : Int), .string (nameNm l A (ownN A num)), .bool false]) (by simp [results, Try.results21, go_sem, d0, d1, d2, d3]) rfl ⟨by first | rfl | (rw [if_neg (by omega), if_neg (by omega), if_neg (by omega)]; rfl), ((((HB5.out.setCell (p := ⟨w1.heap.size + 1, 2, none⟩) (by simp; omega) _).setCell (p := ⟨w.heap.size + 1 + 1, 0, none⟩) (by simp; omega) _).setCell (p := ⟨w.heap.size + 1 + 1, 1, none⟩) (by simp; omega) _).setCell (p := ⟨w.heap.size + 1 + 1, 2, none⟩) (by simp; omega) _).setCell (p := ⟨w.heap.size + 1 + 1, 3, none⟩) (by simp; omega) _⟩
end Go.Proofs.Ytakmbmlpgmppiaa
