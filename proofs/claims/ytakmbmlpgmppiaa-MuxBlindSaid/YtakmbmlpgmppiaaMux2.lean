/- mux: the reference's Of, the law's light, of, record, awake. -/
import Derived.Test.YtakmbmlpgmppiaaMux
namespace Go.Proofs.Ytakmbmlpgmppiaa
open Go Go.Proofs Go.RowKit

set_option maxRecDepth 100000 in
set_option maxHeartbeats 300000 in
theorem of12_at (b off c : Nat) (zs : List SRow) (w : World) (hbig : zs.length ≤ 1000000) (hb : b < w.heap.size) (hc : RowsAt w b off zs) :
    Calls Try.prog 22 #[.slice (some ⟨b, off, none⟩) zs.length c] w fun e w' => ∃ v, e = .returned v ∧ w'.ownsRow w.heap.size 33 8 v zs.length (flat zs) ∧ Below w.heap.size w w' := by
  have Hc := Lib.hid hc
  clear hc
  obtain ⟨n, hn⟩ : ∃ n, zs.length = n := ⟨_, rfl⟩
  rw [hn] at hbig ⊢
  have Hn := Lib.hid hn
  clear hn
  obtain ⟨i0, hi, hz0, hz1, hz2⟩ := info_parts infoRow
  go_enter Try.func22, Try.ntmps22
  go_wp2
  go_loopg [3, 4] n (fun gg s3 s4 wr => ∃ kk : Nat, kk ≤ n ∧ n - kk ≤ gg ∧ s4 = .int .i64 kk ∧ Hid (Below w.heap.size w wr) ∧ Hid (wr.ownsRow w.heap.size 33 8 s3 kk (flat (zs.take kk))))
  case atStart => exact ⟨0, Nat.zero_le _, by omega, rfl, Below.refl _ w, World.ownsRow_nil _ _ _ _⟩
  case round =>
    obtain ⟨kk, hkk, hg, rfl, BW, OW⟩ := hrel
    by_cases hlt : kk < n
    · have hltz : (kk : Int) < (n : Int) := by omega
      have hR := (Hc.out.below BW.out hb) kk (by rw [Hn.out]; exact hlt)
      have c0 := hR 0 _ rfl
      have c1 := hR 1 _ rfl
      have c2 := hR 2 _ rfl
      have c3 := hR 3 _ rfl
      have c4 := hR 4 _ rfl
      have c5 := hR 5 _ rfl
      have c6 := hR 6 _ rfl
      have c7 := hR 7 _ rfl
      simp only [Nat.add_zero] at c0
      clear hR
      generalize hy : zs[kk]! = y at c0 c1 c2 c3 c4 c5 c6 c7
      have Hy := Lib.hid hy
      clear hy
      have hne : some b ≠ u3.ownBlock := fun e => by
        have := (OW.out.lt b e.symm).1
        omega
      have hbase : w.heap.size ≤ ((wr.alloc (.cells #[.string y.name, .int .i64 y.n0, .int .i64 y.n1, .int .i64 y.n2, .int .i64 y.n3, .int .i64 y.n4, .int .i64 y.mux, .int .i64 y.sub] 33)).drew).heap.size := Nat.le_trans BW.out.size (by simp [World.drew])
      go_wp2_with fail
      go_region_held_law (fun w' => w'.cell? ⟨b, off + kk * 8, none⟩ = some (.string y.name) ∧ w'.cell? ⟨b, off + kk * 8 + 1, none⟩ = some (.int .i64 y.n0) ∧ w'.cell? ⟨b, off + kk * 8 + 2, none⟩ = some (.int .i64 y.n1) ∧ w'.cell? ⟨b, off + kk * 8 + 3, none⟩ = some (.int .i64 y.n2) ∧ w'.cell? ⟨b, off + kk * 8 + 4, none⟩ = some (.int .i64 y.n3) ∧ w'.cell? ⟨b, off + kk * 8 + 5, none⟩ = some (.int .i64 y.n4) ∧ w'.cell? ⟨b, off + kk * 8 + 6, none⟩ = some (.int .i64 y.mux) ∧ w'.cell? ⟨b, off + kk * 8 + 7, none⟩ = some (.int .i64 y.sub)) (first | go_keep | exact ⟨hgrow.cell (cell_ad c0) hne, hgrow.cell (cell_ad c1) hne, hgrow.cell (cell_ad c2) hne, hgrow.cell (cell_ad c3) hne, hgrow.cell (cell_ad c4) hne, hgrow.cell (cell_ad c5) hne, hgrow.cell (cell_ad c6) hne, hgrow.cell (cell_ad c7) hne⟩) ((refine step_append_lies _ rfl _ _ 29 rfl w.heap.size 33 i0 _ 8 72 Try.underlying29 hi hz0 hz1 hz2 rfl (by decide) _ kk _ rfl (OW.out.alloc _).drew ⟨wr.heap.size, 0, none⟩ 1 1 y.cells rfl rfl (news8 wr y) (one8 y) (by decide) (by unfold maxLen; omega) (by omega) hbase _ rfl ?_; intro g cap w1 hown hgrow hat hlt1))
      have hBn : Below w.heap.size w w1 := ((BW.out.alloc BW.out.size _).drew).grown hgrow hbase (fun k hk => (OW.out.lt k hk).1)
      rw [← Hy.out, flat_take zs kk (by rw [Hn.out]; exact hlt)] at hown
      have HO := Lib.hid hown
      clear hown hgrow hat
      go_wp2
      go_roundg (n - (kk + 1))
      case measure => omega
      case rel => exact ⟨kk + 1, by omega, by omega, by go_num, hBn, HO⟩
    · have hltz : ¬ (kk : Int) < (n : Int) := by omega
      obtain rfl : kk = n := by omega
      go_wp2
      go_ret
      refine ⟨_, rfl, ?_, BW.out⟩
      have := OW.out
      rw [List.take_of_length_le (by rw [Hn.out]; exact Nat.le_refl _)] at this
      exact this

theorem of12_any (sv : Value) (l : List SRow) (w : World) (hbig : l.length ≤ 1000000) (hR : RowsV w sv l) :
    Calls Try.prog 22 #[sv] w fun e w' => ∃ v, e = .returned v ∧ w'.ownsRow w.heap.size 33 8 v l.length (flat l) ∧ Below w.heap.size w w' := by
  obtain ⟨x, c, rfl, h⟩ := hR
  rcases h with rfl | ⟨b, off, rfl, hlt, hr⟩
  · go_enter Try.func22, Try.ntmps22
    go_wp2
    go_loop [3, 4] (fun s3 s4 => s3 = .slice none 0 0 ∧ s4 = .int .i64 0) (fun _ _ => 0)
    case atStart => exact ⟨rfl, rfl⟩
    case round =>
      obtain ⟨rfl, rfl⟩ := hrel
      go_wp2
      go_ret
      exact ⟨_, rfl, World.ownsRow_nil _ _ _ _, Below.refl _ _⟩
  · exact of12_at b off c l w hbig hlt hr

theorem Blk.drewN {W : World} {B : Nat} {t : TypeId} {cs : Array Value} (h : Blk W B t cs) (m : Nat) : Blk (W.drewN m) B t cs := h
/-- law12's light. -/
def Light12 (l : List SRow) (w : World) (e : Ending) (w' : World) : Prop := ∃ b : Bool, e = .returned (.bool b) ∧ (b = true → TableOk l ∧ l.length ≤ 40) ∧ Below w.heap.size w w'
theorem light12_any (sv : Value) (l : List SRow) (w : World) (hR : RowsV w sv l) :
    Calls Try.prog 20 #[sv] w (Light12 l w) := by
  by_cases h4 : 40 < l.length
  · obtain ⟨x, c, rfl, h⟩ := hR
    have h4z : (40 : Int) < (l.length : Int) := by omega
    clear h
    generalize l.length = n at h4z
    clear h4
    go_enter Try.func20, Try.ntmps20
    go_wp2
    go_ret
    exact ⟨false, rfl, (fun h => by cases h), Below.refl _ _⟩
  · have hr := refRight_any sv l w (by omega) hR
    obtain ⟨x, c, rfl, h⟩ := hR
    have h4z : ¬ (40 : Int) < (l.length : Int) := by omega
    have Hr := Lib.hid hr
    have H4 := Lib.hid h4
    clear h hr h4
    obtain ⟨n, hn⟩ : ∃ n, l.length = n := ⟨_, rfl⟩
    rw [hn] at Hr h4z ⊢
    have HN := Lib.hid hn
    clear hn
    go_enter Try.func20, Try.ntmps20
    go_wp2_with fail
    refine Hr.out.mono ?_
    rintro e w1 ⟨a, v, rfl, hs, hb⟩
    have HS := Lib.hid hs
    clear hs
    by_cases hv : v = 0
    · subst hv
      go_wp2
      go_ret
      refine ⟨true, rfl, fun _ => ⟨?_, by have := H4.out; omega⟩, hb⟩
      rcases HS.out with h | ⟨_, ⟨i, _, _, h, _⟩ | ⟨_, _, h⟩⟩
      · omega
      · exact absurd rfl h
      · exact h
    · have hv' : (v == 0) = false := by simpa using hv
      clear hv
      go_wp2
      go_ret
      exact ⟨false, rfl, (fun h => by cases h), hb⟩

set_option maxRecDepth 100000 in
set_option maxHeartbeats 1000000 in
theorem record_any (num arch ptr a0 a1 a2 a3 a4 a5 : Int) (w : World) :
    Calls Try.prog 23 #[.agg #[.int .u32 num, .int .u32 arch, .int .u64 ptr, .int .u64 a0, .int .u64 a1, .int .u64 a2, .int .u64 a3, .int .u64 a4, .int .u64 a5]] w fun e w' => e = .returned (.agg #[.int .u32 num, .int .u32 arch, .int .u64 ptr, .int .u64 a0, .int .u64 a1, .int .u64 a2, .int .u64 a3, .int .u64 a4, .int .u64 a5]) ∧ Below w.heap.size w w' := by
  go_enter Try.func23, Try.ntmps23
  go_wp2
  refine bodyPost_ret (v := .agg #[.int .u32 num, .int .u32 arch, .int .u64 ptr, .int .u64 a0, .int .u64 a1, .int .u64 a2, .int .u64 a3, .int .u64 a4, .int .u64 a5]) (by simp [results, Try.results23, go_sem]) rfl ⟨rfl, ((Below.refl _ w).alloc (Nat.le_refl _) _).alloc (by simp) _⟩

/-- What the reference's Of answers. -/
def ref12 (l : List SRow) (num arch a0 : Int) : Int × Int × Bool :=
  if refSel arch num < 0 then (-1, -1, false)
  else if refSel arch num = 2 ∧ num = 102 then (2, firstIdx (rsubP 1 (a0 % 4294967296)) l, true)
  else if refSel arch num = 2 ∧ num = 117 then (2, firstIdx (rsubP 2 (a0 % 4294967296)) l, true)
  else (refSel arch num, atI l (refSel arch num).toNat (ownN (refSel arch num) num), false)
def ref12V (x : Int × Int × Bool) : Value := .agg #[.int .i64 x.1, .int .i64 x.2.1, .bool x.2.2]

set_option maxRecDepth 100000 in
set_option maxHeartbeats 1000000 in
theorem ref12Of_any (num arch ptr a0 a1 a2 a3 a4 a5 : Int) (h0 : 0 ≤ num) (h1 : num < 4294967296) (g0 : 0 ≤ a0) (g1 : a0 < 18446744073709551616) (sv : Value) (l : List SRow) (w : World) (hbig : l.length ≤ 1000000) (hR : RowsV w sv l) :
    Calls Try.prog 24 #[sv, .agg #[.int .u32 num, .int .u32 arch, .int .u64 ptr, .int .u64 a0, .int .u64 a1, .int .u64 a2, .int .u64 a3, .int .u64 a4, .int .u64 a5]] w fun e w' => e = .returned (ref12V (ref12 l num arch a0)) ∧ Below w.heap.size w w' := by
  obtain ⟨ad, cp, hsv, _⟩ := id hR
  obtain ⟨len, hlen⟩ : ∃ len, len = l.length := ⟨_, rfl⟩
  rw [← hlen] at hsv
  subst hsv
  clear hlen
  have hsel := refSelect_any arch num h0 h1
  have hr := refSel_rng arch num
  unfold ref12
  generalize refSel arch num = s at *
  have k1 : Blk ((w.alloc (.cells #[.int .u32 num, .int .u32 arch, .int .u64 ptr, .int .u64 a0, .int .u64 a1, .int .u64 a2, .int .u64 a3, .int .u64 a4, .int .u64 a5] 51)).alloc (.cells #[.int .i64 0, .int .i64 0, .bool false] 58)) w.heap.size 51 #[.int .u32 num, .int .u32 arch, .int .u64 ptr, .int .u64 a0, .int .u64 a1, .int .u64 a2, .int .u64 a3, .int .u64 a4, .int .u64 a5] := (Blk.new w _ _).alloc _
  have k2 : Blk ((w.alloc (.cells #[.int .u32 num, .int .u32 arch, .int .u64 ptr, .int .u64 a0, .int .u64 a1, .int .u64 a2, .int .u64 a3, .int .u64 a4, .int .u64 a5] 51)).alloc (.cells #[.int .i64 0, .int .i64 0, .bool false] 58)) (w.heap.size + 1) 58 #[.int .i64 0, .int .i64 0, .bool false] := Blk.at (w.alloc (.cells #[.int .u32 num, .int .u32 arch, .int .u64 ptr, .int .u64 a0, .int .u64 a1, .int .u64 a2, .int .u64 a3, .int .u64 a4, .int .u64 a5] 51)) _ _ (by simp)
  have hB0 : Below w.heap.size w ((w.alloc (.cells #[.int .u32 num, .int .u32 arch, .int .u64 ptr, .int .u64 a0, .int .u64 a1, .int .u64 a2, .int .u64 a3, .int .u64 a4, .int .u64 a5] 51)).alloc (.cells #[.int .i64 0, .int .i64 0, .bool false] 58)) := ((Below.refl _ w).alloc (Nat.le_refl _) _).alloc (by simp) _
  have hs1 := fun (mu : Int) => refSub_any mu (a0 % 4294967296) (.slice ad len cp) l _ hbig (hR.below hB0)
  go_enter Try.func24, Try.ntmps24
  go_wp2_with fail
  refine (hsel _).mono ?_
  rintro e w1 ⟨rfl, rfl⟩
  clear hsel
  have K2 := Lib.hid k2
  have HB0 := Lib.hid hB0
  have Hs1 := Lib.hid hs1
  have Hat := Lib.hid (fun (A : Nat) (v : Int) (hA : A < 5) => refAt_any A hA v (.slice ad len cp) l _ hbig (hR.below hB0))
  clear k1 k2 hB0 hs1
  rcases hr with rfl | ⟨s0, s5⟩
  · go_wp2
    refine bodyPost_ret (v := .agg #[.int .i64 (-1), .int .i64 (-1), .bool false]) (by simp [results, Try.results24, go_sem]) rfl ⟨by first | rfl | (rw [if_pos (by omega)]; rfl), ((Below.refl _ w).alloc (Nat.le_refl _) _).alloc (by simp) _⟩
  · have e0 : decide (s < 0) = false := decide_eq_false (by omega)
    by_cases s2 : s = 2
    · subst s2
      by_cases n1 : num = 102
      · subst n1
        have hc := Hs1.out 1
        generalize hj : firstIdx (rsubP 1 (a0 % 4294967296)) l = j at hc
        have HJ := Lib.hid hj
        clear hj
        go_wp2_with fail
        refine hc.mono ?_
        rintro e w' ⟨rfl, m, rfl⟩
        clear hc
        go_wp2
        have bF := (((K2.out.drewN m).set 0 (.int .i64 2)).set 1 (.int .i64 j)).set 2 (.bool true)
        have d0 := bF.cell 0
        have d1 := bF.cell 1
        have d2 := bF.cell 2
        simp at d0 d1 d2
        refine bodyPost_ret (v := .agg #[.int .i64 2, .int .i64 j, .bool true]) (by simp [results, Try.results24, go_sem, d0, d1, d2]) rfl ⟨?_, (((bdnM HB0.out m).setCell (p := ⟨w.heap.size + 1, 0, none⟩) (by simp) _).setCell (p := ⟨w.heap.size + 1, 1, none⟩) (by simp) _).setCell (p := ⟨w.heap.size + 1, 2, none⟩) (by simp) _⟩
        first | (rw [HJ.out]; rfl) | (rw [if_neg (by omega), if_pos ⟨rfl, rfl⟩]; rw [HJ.out]; rfl)
      · by_cases n2 : num = 117
        · subst n2
          have hc := Hs1.out 2
          generalize hj : firstIdx (rsubP 2 (a0 % 4294967296)) l = j at hc
          have HJ := Lib.hid hj
          clear hj
          go_wp2_with fail
          refine hc.mono ?_
          rintro e w' ⟨rfl, m, rfl⟩
          clear hc
          go_wp2
          have bF := (((K2.out.drewN m).set 0 (.int .i64 2)).set 1 (.int .i64 j)).set 2 (.bool true)
          have d0 := bF.cell 0
          have d1 := bF.cell 1
          have d2 := bF.cell 2
          simp at d0 d1 d2
          refine bodyPost_ret (v := .agg #[.int .i64 2, .int .i64 j, .bool true]) (by simp [results, Try.results24, go_sem, d0, d1, d2]) rfl ⟨?_, (((bdnM HB0.out m).setCell (p := ⟨w.heap.size + 1, 0, none⟩) (by simp) _).setCell (p := ⟨w.heap.size + 1, 1, none⟩) (by simp) _).setCell (p := ⟨w.heap.size + 1, 2, none⟩) (by simp) _⟩
          first | (rw [HJ.out]; rfl) | (rw [if_neg (by omega), if_neg (by omega), if_pos ⟨rfl, rfl⟩]; rw [HJ.out]; rfl)
        · have n1' : (num == 102) = false := by simpa using n1
          have n2' : (num == 117) = false := by simpa using n2
          have ho := refOwn_any 2 num h0 h1
          have hown : 0 ≤ ownN 2 num ∧ ownN 2 num < 4294967296 := by unfold ownN; split <;> omega
          generalize hon : ownN 2 num = own at *
          have hat := Hat.out 2 own (by omega)
          generalize hj : firstN (fun i => rnum l 2 i == own) 0 l.length = j at hat
          have HJ : Hid (atI l 2 own = j) := hj
          have HON := Lib.hid hon
          have Ho := Lib.hid ho
          have Hc := Lib.hid hat
          clear hj hon ho hat
          obtain ⟨o0, o1⟩ := hown
          go_wp2_with (first | (go_at_call 41; refine (Ho.out _).mono ?_; rintro e w' ⟨rfl, rfl⟩) | (go_at_call 19; refine Hc.out.mono ?_; rintro e w' ⟨rfl, m, rfl⟩))
          have bF := (((K2.out.drewN m).set 0 (.int .i64 2)).set 1 (.int .i64 j)).set 2 (.bool false)
          have d0 := bF.cell 0
          have d1 := bF.cell 1
          have d2 := bF.cell 2
          simp at d0 d1 d2
          refine bodyPost_ret (v := .agg #[.int .i64 2, .int .i64 j, .bool false]) (by simp [results, Try.results24, go_sem, d0, d1, d2]) rfl ⟨?_, (((bdnM HB0.out m).setCell (p := ⟨w.heap.size + 1, 0, none⟩) (by simp) _).setCell (p := ⟨w.heap.size + 1, 1, none⟩) (by simp) _).setCell (p := ⟨w.heap.size + 1, 2, none⟩) (by simp) _⟩
          first | (rw [← HJ.out, ← HON.out]; rfl) | (rw [if_neg (by omega), if_neg (by omega), if_neg (by omega)]; rw [← HJ.out, ← HON.out]; rfl)
    · have e2 : (s == 2) = false := by simpa using s2
      obtain ⟨A, rfl⟩ := Int.eq_ofNat_of_zero_le s0
      have ho := refOwn_any (A : Int) num h0 h1
      have hown : 0 ≤ ownN (A : Int) num ∧ ownN (A : Int) num < 4294967296 := by unfold ownN; split <;> omega
      generalize hon : ownN (A : Int) num = own at *
      have hat := Hat.out A own (by omega)
      generalize hj : firstN (fun i => rnum l A i == own) 0 l.length = j at hat
      have HJ : Hid (atI l A own = j) := hj
      have HON := Lib.hid hon
      have Ho := Lib.hid ho
      have Hc := Lib.hid hat
      clear hj hon ho hat
      obtain ⟨o0, o1⟩ := hown
      go_wp2_with (first | (go_at_call 41; refine (Ho.out _).mono ?_; rintro e w' ⟨rfl, rfl⟩) | (go_at_call 19; refine Hc.out.mono ?_; rintro e w' ⟨rfl, m, rfl⟩))
      have bF := (((K2.out.drewN m).set 0 (.int .i64 (A : Int))).set 1 (.int .i64 j)).set 2 (.bool false)
      have d0 := bF.cell 0
      have d1 := bF.cell 1
      have d2 := bF.cell 2
      simp at d0 d1 d2
      refine bodyPost_ret (v := .agg #[.int .i64 (A : Int), .int .i64 j, .bool false]) (by simp [results, Try.results24, go_sem, d0, d1, d2]) rfl ⟨?_, (((bdnM HB0.out m).setCell (p := ⟨w.heap.size + 1, 0, none⟩) (by simp) _).setCell (p := ⟨w.heap.size + 1, 1, none⟩) (by simp) _).setCell (p := ⟨w.heap.size + 1, 2, none⟩) (by simp) _⟩
      first | (rw [← HJ.out, ← HON.out]; rfl) | (rw [if_neg (by omega), if_neg (by omega), if_neg (by omega)]; rw [← HJ.out, ← HON.out]; rfl)

theorem awake12_any (w : World) : Calls Try.prog 25 #[] w fun e w' => e = .returned (.bool true) ∧ Below w.heap.size w w' := by
  have hv : muxV builtinL 102 1073741827 3 = .agg #[.bool true, .int .i64 2, .string ⟨#[99, 111, 110, 110, 101, 99, 116]⟩, .bool true] := by kernel_rfl
  go_enter Try.func25, Try.ntmps25
  go_wp2_with fail
  refine (builtin_any _).mono ?_
  rintro e w1 ⟨v, rfl, hR, hb1⟩
  have H1 := muxOf_any 102 1073741827 0 3 0 0 0 0 0 (by omega) (by omega) (by omega) (by omega) v builtinL w1 (by decide) hR
  rw [hv] at H1
  clear hR hv
  go_wp2_with fail
  refine H1.mono ?_
  rintro e w2 ⟨rfl, hb2⟩
  clear H1
  have HB := Lib.hid (hb1.trans (hb2.mono hb1.size))
  clear hb1 hb2
  go_wp2
  go_ret
  exact ⟨rfl, HB.out.alloc HB.out.size _⟩
end Go.Proofs.Ytakmbmlpgmppiaa
