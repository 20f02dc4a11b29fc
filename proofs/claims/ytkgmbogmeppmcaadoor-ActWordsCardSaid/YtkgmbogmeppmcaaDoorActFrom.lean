/- act.From: the action of any code. -/
import Derived.Test.YtkgmbogmeppmcaaDoorActIdx
namespace Go.Proofs.YtkgmbogmeppmcaaDoor
open Go Go.Proofs Go.RowKit

theorem rows_ok (w : World) : Calls Tryd.prog 31 #[] w fun e w' => ∃ g, e = .returned (.slice (some ⟨g, 0, none⟩) 8 8) ∧ ActRows w' g ∧ Below w.heap.size w w' := by
  refine (rows_any w).mono ?_
  rintro e w' ⟨rfl, rfl⟩
  refine ⟨_, rfl, ⟨w.heap.size, ?_, ?_, ?_⟩, (((Below.refl _ w).alloc (Nat.le_refl _) _).alloc (by simp) _).alloc (by simp; omega) _⟩
  · have := Blk.new ((w.alloc (.cells #[.int .i64 4096] 3)).alloc (.cells #[.int .i64 65536] 3)) 64 (actCells w.heap.size)
    simpa using this
  · exact ((Blk.new w 3 #[.int .i64 4096]).alloc _).alloc _
  · have := Blk.new (w.alloc (.cells #[.int .i64 4096] 3)) 3 #[.int .i64 65536]
    simp only [World.size_alloc] at this
    exact this.alloc _

/-- What act.From answers. -/
def fromV (c : Int) : Value := .tuple #[.agg #[.int .i64 (fromK c), .int .i64 (fromN c)], .int .i64 (if fromK c = 0 then 5 else 0)]

set_option maxRecDepth 100000 in
set_option maxHeartbeats 1000000 in
theorem from_any (c : Int) (hc0 : 0 ≤ c) (hc1 : c < 4294967296) (w : World) :
    Calls Tryd.prog 14 #[.int .u32 c] w fun e w' => e = .returned (fromV c) ∧ Below w.heap.size w w' := by
  have hb1 := ((Below.refl w.heap.size w).alloc (Nat.le_refl _) (.cells #[.int .u32 c] 24)).alloc (by simp) (.cells #[.int .i64 0, .int .i64 0] 25)
  have bC := (Blk.new w 24 #[.int .u32 c]).alloc (.cells #[.int .i64 0, .int .i64 0] 25)
  have bZ := Blk.new (w.alloc (.cells #[.int .u32 c] 24)) 25 #[.int .i64 0, .int .i64 0]
  simp only [World.size_alloc] at bZ
  have HB1 := Lib.hid hb1
  have HC := Lib.hid bC
  have HZ := Lib.hid bZ
  clear hb1 bC bZ
  go_enter Tryd.func14, Tryd.ntmps14
  go_wp2_with fail
  refine (rows_ok _).mono ?_
  rintro e w2 ⟨g, rfl, hr, hb2⟩
  have HC2 := Lib.hid (HC.out.below hb2 HC.out.lt)
  have HZ2 := Lib.hid (HZ.out.below hb2 HZ.out.lt)
  have HB2 := Lib.hid (HB1.out.trans (hb2.mono HB1.out.size))
  have hidx := indexFunc_act (fromB c) 32 #[.pointer (some ⟨w.heap.size, 0, none⟩)] (enters_of Tryd.func32 (by kernel_rfl) rfl) g w2
    (fun W j mv hj hB hm => from1_any c (j + 1) hc0 hc1 (by omega) (by omega) w.heap.size mv W (HC2.out.below hB HC2.out.lt) hm) hr
  clear hr hb2 HC HZ HB1
  rcases firstN_cases (fromB c) with ⟨hF, _⟩ | ⟨k, hk, hF, hp, _⟩
  · have hV : fromV c = .tuple #[.agg #[.int .i64 0, .int .i64 0], .int .i64 5] := by
      have : fromK c = 0 := by unfold fromK; rw [hF]; rfl
      unfold fromV fromN
      rw [this]
      rfl
    rw [hF] at hidx
    have HV := Lib.hid hV
    have Hidx := Lib.hid hidx
    clear hidx hF hV
    go_wp2_with fail
    refine Hidx.out.mono ?_
    rintro e w3 ⟨rfl, hb3⟩
    have Hof := Lib.hid (fun W => of_none 0 (by omega) W)
    go_wp2_with fail
    refine (Hof.out _).mono ?_
    rintro e w4 ⟨rfl, hb4⟩
    have hZ4 := ((HZ2.out.below hb3 HZ2.out.lt).below hb4 (HZ2.out.below hb3 HZ2.out.lt).lt).alloc (.cells #[.string ⟨#[]⟩, .int .u32 0, .nilFunc] 64)
    have HB4 := Lib.hid ((HB2.out.trans (hb3.mono HB2.out.size)).trans (hb4.mono (Nat.le_trans HB2.out.size hb3.size)))
    have z0 := hZ4.frozen 0
    have z1 := hZ4.frozen 1
    have y0 := hZ4.cell 0
    have y1 := hZ4.cell 1
    simp only [List.getElem?_toArray, List.getElem?_cons_zero, List.getElem?_cons_succ] at y0 y1
    have HZ4 := Lib.hid hZ4
    clear hZ4 hb3 hb4
    go_wp2
    have bF := ((HZ4.out.set 0 (.int .i64 0)).set 1 (.int .i64 0))
    have d0 := bF.cell 0
    have d1 := bF.cell 1
    simp at d0 d1
    refine bodyPost_ret (v := .tuple #[.agg #[.int .i64 0, .int .i64 0], .int .i64 5]) (by simp [results, Tryd.results14, go_sem, d0, d1]) rfl ⟨congrArg Ending.returned HV.out.symm, ?_⟩
    exact ((HB4.out.alloc HB4.out.size _).setCell (p := ⟨w.heap.size + 1, 0, none⟩) (by simp) _).setCell (p := ⟨w.heap.size + 1, 1, none⟩) (by simp) _
  · obtain ⟨K, hKe⟩ : ∃ K : Int, K = (k : Int) + 1 := ⟨_, rfl⟩
    have hK1 : 1 ≤ K := by omega
    have hK8 : K ≤ 8 := by omega
    have hKw : IntKind.i64.wrap (1 + (k : Int)) = K := by rw [IntWalk.i64_in _ (by omega)]; omega
    have hfK : fromK c = K := by unfold fromK; rw [hF]; exact hKe.symm
    have hfp : fromP c K := by have := of_decide_eq_true hp; rw [hKe]; exact this
    have hV : fromV c = .tuple #[.agg #[.int .i64 K, .int .i64 (c - actCode K)], .int .i64 0] := by
      unfold fromV fromN
      rw [hfK, if_neg (by omega), if_neg (by omega)]
    rw [hF] at hidx
    have HV := Lib.hid hV
    have Hidx := Lib.hid hidx
    have Hof := Lib.hid (fun W => of_any K hK1 hK8 W)
    obtain ⟨c0, c1⟩ := hfp
    obtain ⟨e0, e1, e2, e3⟩ := code_range K hK1 hK8
    clear hidx hF hV hp hfK hKe
    have w1 : IntKind.u32.wrap (c - actCode K) = c - actCode K := by show (c - actCode K) % 4294967296 = _; omega
    have w2' : IntKind.i64.wrap (c - actCode K) = c - actCode K := IntWalk.i64_in _ (by omega)
    clear c0 c1 e0 e1 e2 e3
    go_wp2_with fail
    refine Hidx.out.mono ?_
    rintro e w3 ⟨rfl, hb3⟩
    clear Hidx
    go_wp2_with fail
    refine (Hof.out _).mono ?_
    rintro e w4 ⟨mv, rfl, hm, hb4⟩
    clear Hof
    have hmv : mv = .nilFunc ∨ ∃ B, mv = .func (.func 61) #[] #[.pointer (some ⟨B, 0, none⟩)] := by
      unfold MostAt at hm
      split at hm
      · exact .inl hm
      · obtain ⟨B, h, _⟩ := hm; exact .inr ⟨B, h⟩
    have HB4 := Lib.hid ((HB2.out.trans (hb3.mono HB2.out.size)).trans (hb4.mono (Nat.le_trans HB2.out.size hb3.size)))
    have HZ4 := Lib.hid ((HZ2.out.below hb3 HZ2.out.lt).below hb4 (HZ2.out.below hb3 HZ2.out.lt).lt)
    have HC4 := Lib.hid ((HC2.out.below hb3 HC2.out.lt).below hb4 (HC2.out.below hb3 HC2.out.lt).lt)
    clear hm hb3 hb4 HB2 HZ2 HC2
    rcases hmv with rfl | ⟨B, rfl⟩
    · have hZ5 := HZ4.out.alloc (.cells #[.string (actWord K), .int .u32 (actCode K), .nilFunc] 64)
      have hC5 := HC4.out.alloc (.cells #[.string (actWord K), .int .u32 (actCode K), .nilFunc] 64)
      have hR5 := Blk.new w4 64 #[.string (actWord K), .int .u32 (actCode K), .nilFunc]
      have z0 := hZ5.frozen 0
      have z1 := hZ5.frozen 1
      have y0 := hZ5.cell 0
      have y1 := hZ5.cell 1
      have r1 := hR5.cell 1
      have q0 := hC5.cell 0
      simp only [List.getElem?_toArray, List.getElem?_cons_zero, List.getElem?_cons_succ] at y0 y1 r1 q0
      have HZ5 := Lib.hid hZ5
      clear hZ5 hC5 hR5
      go_wp2
      have bF := ((HZ5.out.set 0 (.int .i64 K)).set 1 (.int .i64 (c - actCode K)))
      have d0 := bF.cell 0
      have d1 := bF.cell 1
      simp at d0 d1
      refine bodyPost_ret (v := .tuple #[.agg #[.int .i64 K, .int .i64 (c - actCode K)], .int .i64 0]) (by simp [results, Tryd.results14, go_sem, d0, d1]) rfl ⟨congrArg Ending.returned HV.out.symm, ?_⟩
      exact ((HB4.out.alloc HB4.out.size _).setCell (p := ⟨w.heap.size + 1, 0, none⟩) (by simp) _).setCell (p := ⟨w.heap.size + 1, 1, none⟩) (by simp) _
    · have hZ5 := HZ4.out.alloc (.cells #[.string (actWord K), .int .u32 (actCode K), .func (.func 61) #[] #[.pointer (some ⟨B, 0, none⟩)]] 64)
      have hC5 := HC4.out.alloc (.cells #[.string (actWord K), .int .u32 (actCode K), .func (.func 61) #[] #[.pointer (some ⟨B, 0, none⟩)]] 64)
      have hR5 := Blk.new w4 64 #[.string (actWord K), .int .u32 (actCode K), .func (.func 61) #[] #[.pointer (some ⟨B, 0, none⟩)]]
      have z0 := hZ5.frozen 0
      have z1 := hZ5.frozen 1
      have y0 := hZ5.cell 0
      have y1 := hZ5.cell 1
      have r1 := hR5.cell 1
      have q0 := hC5.cell 0
      simp only [List.getElem?_toArray, List.getElem?_cons_zero, List.getElem?_cons_succ] at y0 y1 r1 q0
      have HZ5 := Lib.hid hZ5
      clear hZ5 hC5 hR5
      go_wp2
      have bF := ((HZ5.out.set 0 (.int .i64 K)).set 1 (.int .i64 (c - actCode K)))
      have d0 := bF.cell 0
      have d1 := bF.cell 1
      simp at d0 d1
      refine bodyPost_ret (v := .tuple #[.agg #[.int .i64 K, .int .i64 (c - actCode K)], .int .i64 0]) (by simp [results, Tryd.results14, go_sem, d0, d1]) rfl ⟨congrArg Ending.returned HV.out.symm, ?_⟩
      exact ((HB4.out.alloc HB4.out.size _).setCell (p := ⟨w.heap.size + 1, 0, none⟩) (by simp) _).setCell (p := ⟨w.heap.size + 1, 1, none⟩) (by simp) _
end Go.Proofs.YtkgmbogmeppmcaaDoor
