/- strainerlaw12.MuxReaches: it answers true. -/
import Derived.Test.YtakmbmlpgmppiaaMuxLaw
import Derived.Great.Walk
import Derived.Deep.DeepCutAuto
namespace Go.Proofs.Ytakmbmlpgmppiaa
open Go Go.Proofs Go.RowKit

def tokA : Array Value := #[.int .u32 3221225534, .int .u32 3221225534, .int .u32 1073741827, .int .u32 3221225655, .int .u32 3221225715]
theorem tokA_at (k : Nat) (hk : k < 5) : tokA[k]? = some (.int .u32 (tokN k)) := by
  match k, hk with
  | 0, _ => rfl
  | 1, _ => rfl
  | 2, _ => rfl
  | 3, _ => rfl
  | 4, _ => rfl
theorem cells_num (y : SRow) (k : Nat) (hk : k < 5) : y.cells[1 + k]? = some (.int .i64 (y.num k)) := by
  match k, hk with
  | 0, _ => rfl
  | 1, _ => rfl
  | 2, _ => rfl
  | 3, _ => rfl
  | 4, _ => rfl

set_option maxRecDepth 100000 in
set_option maxHeartbeats 3000000 in
theorem reaches_any (a high : Int) (ha0 : 0 ≤ a) (ha1 : a ≤ 255) (hh0 : 0 ≤ high) (hh1 : high < 4294967296) (sv : Value) (l : List SRow) (w : World) (hR : RowsV w sv l) :
    Calls Try.prog 6 #[sv, .int .u8 a, .int .u32 high] w fun e w' => e = .returned (.bool true) ∧ Below w.heap.size w w' := by
  have hlight := light12_any sv l w hR
  have HR := Lib.hid hR
  have HLt := Lib.hid hlight
  have HH : Hid (0 ≤ high ∧ high < 4294967296) := ⟨hh0, hh1⟩
  clear hR hlight hh0 hh1
  go_enter Try.func6, Try.ntmps6
  go_wp2_with fail
  refine HLt.out.mono ?_
  rintro e w1 ⟨b, rfl, hT, hb1⟩
  clear HLt
  cases b with
  | false =>
    go_wp2
    go_ret
    exact ⟨rfl, hb1⟩
  | true =>
    have HT := Lib.hid (hT rfl).1
    have HL := Lib.hid (hT rfl).2
    have HB1 := Lib.hid hb1
    clear hT hb1
    have hof := of12_any sv l w1 (by have := HL.out; omega) (HR.out.below HB1.out)
    have Hof := Lib.hid hof
    clear hof
    go_wp2_with fail
    refine Hof.out.mono ?_
    rintro e w3 ⟨xv, rfl, hown, hb3⟩
    clear Hof
    have HX := Lib.hid (rowsV_owned hown).1
    have HB3 := Lib.hid (HB1.out.trans (hb3.mono HB1.out.size))
    clear hown hb3 HB1 HR
    obtain ⟨ad, cp, rfl, hx⟩ := HX.out
    have HX2 := Lib.hid hx
    have HXX := HX
    clear hx HX
    obtain ⟨n, hn⟩ : ∃ n, l.length = n := ⟨_, rfl⟩
    rw [hn] at HXX
    have h40 : n ≤ 40 := by rw [← hn]; exact HL.out
    simp only [hn]
    have HN := Lib.hid hn
    clear hn
    obtain ⟨k, hk⟩ : ∃ k : Nat, a % 5 = (k : Int) := ⟨(a % 5).toNat, by omega⟩
    have k5 : k < 5 := by omega
    have hkt : a.tmod 5 = (k : Int) := by rw [Int.tmod_eq_emod_of_nonneg ha0, hk]
    have HK := Lib.hid hk
    clear hk
    go_wp2_with (refine Great.wpList_buildSliceTo rfl 64 47 5 _ rfl _ rfl _ rfl Try.underlying64 tokA (by kernel_rfl) ?_)
    have HB5 := Lib.hid (HB3.out.alloc HB3.out.size (.cells tokA 47))
    have HXR : Hid (∀ W, Below (w3.alloc (.cells tokA 47)).heap.size (w3.alloc (.cells tokA 47)) W → RowsV W (.slice ad n cp) l) := fun W hW => (HXX.out.below ((Below.refl _ w3).alloc (Nat.le_refl _) (.cells tokA 47))).below hW
    have HTK := Lib.hid (Blk.new w3 47 tokA)
    have hlt3 : w3.heap.size < (w3.alloc (.cells tokA 47)).heap.size := by simp
    clear HXX HB3
    generalize (w3.alloc (.cells tokA 47)) = W5 at *
    generalize w3.heap.size = T at *
    rcases HX2.out with hnil | ⟨b, off, rfl, hlt2, hrw⟩
    · obtain rfl : n = 0 := by rw [← HN.out, hnil]; rfl
      clear hnil
      go_loop [10] (fun s => s = .int .i64 0) (fun _ => 0)
      case atStart => rfl
      case round =>
        obtain rfl := hrel
        go_wp2_with (go_at_call 25; refine (awake12_any _).mono ?_; rintro e wa ⟨rfl, hba⟩)
        go_ret
        exact ⟨rfl, HB5.out.trans (hba.mono HB5.out.size)⟩
    · clear hrw HX2
      have HRA : Hid (∀ W, Below W5.heap.size W5 W → RowsAt W b off l) := by
        intro W hW
        obtain ⟨x, c, hx, h⟩ := HXR.out W hW
        simp only [Value.slice.injEq] at hx
        rcases h with h | ⟨b', off', h1, _, h3⟩
        · exact fun j hj => by rw [h] at hj; simp at hj
        · rw [h1] at hx
          simp only [Option.some.injEq, Addr.mk.injEq, and_true] at hx
          obtain ⟨⟨rfl, rfl⟩, _, _⟩ := hx
          exact h3
      clear hlt2
      go_loopg [10] n (fun gg s10 wr => ∃ kk : Nat, kk ≤ n ∧ n - kk ≤ gg ∧ s10 = .int .i64 kk ∧ Hid (Below W5.heap.size W5 wr))
      case atStart => exact ⟨0, Nat.zero_le _, by omega, rfl, Below.refl _ W5⟩
      case round =>
        obtain ⟨kk, hkk, hg, rfl, BW⟩ := hrel
        by_cases hlt : kk < n
        case neg =>
          have hltz : ¬ (kk : Int) < (n : Int) := by omega
          obtain rfl : kk = n := by omega
          go_wp2_with (go_at_call 25; refine (awake12_any _).mono ?_; rintro e wa ⟨rfl, hba⟩)
          go_ret
          exact ⟨rfl, HB5.out.trans ((Below.mono BW.out HB5.out.size).trans (hba.mono (Nat.le_trans HB5.out.size BW.out.size)))⟩
        have hltz : (kk : Int) < (n : Int) := by omega
        have rb := (HRA.out wr BW.out) kk (by rw [HN.out]; exact hlt)
        have hin := num_in HT.out (i := kk) (by rw [HN.out]; exact hlt) k5
        have hv1 : 0 ≤ (l[kk]!).num k → muxV l (numN k ((l[kk]!).num k)) (tokN k) 0 = .agg #[.bool true, .int .i64 k, .string (l[kk]!).name, .bool false] := reach1 HT.out (by rw [HN.out]; exact hlt) k5
        have hv2 : 0 < (l[kk]!).mux → ∀ x, x % 4294967296 = (l[kk]!).sub → muxV l (muxNumN (l[kk]!).mux) 1073741827 x = .agg #[.bool true, .int .i64 2, .string (l[kk]!).name, .bool true] := fun h x hx => reach2 HT.out (by rw [HN.out]; exact hlt) h x hx
        have hmx := (rs0 (HT.out kk (by rw [HN.out]; exact hlt))).2.2.1.2
        generalize hy : l[kk]! = y at rb hin hv1 hv2 hmx
        have HY := Lib.hid hy
        have HMX := Lib.hid hmx
        have HV1 := Lib.hid hv1
        have HV2 := Lib.hid hv2
        have dk : wr.cell? ⟨b, off + kk * 8 + 1 + k, none⟩ = some (.int .i64 (y.num k)) := by
          have := rb (1 + k) _ (cells_num y k k5)
          rw [← Nat.add_assoc] at this
          exact this
        have d0 := rb 0 _ rfl
        have d6 := rb 6 _ rfl
        have d7 := rb 7 _ rfl
        have tk : wr.cell? ⟨T, k, none⟩ = some (.int .u32 (tokN k)) := by
          have := (HTK.out.below BW.out hlt3).cell k
          rw [tokA_at k k5] at this
          exact this
        simp only [Nat.add_zero] at d0
        unfold inR at hin
        have k5z : (k : Int) < 5 := by omega
        clear rb hy hmx hv1 hv2 hlt3
        generalize hv : y.num k = v at dk hin
        have HVV := Lib.hid hv
        clear hv
        have hin2 := hin.2
        by_cases z0 : 0 ≤ v
        · clear hin
          clear d6 d7
          by_cases k1 : k = 1
          · skip
            have hv1 := HV1.out (by rw [HVV.out]; exact z0)
            rw [HVV.out] at hv1
            subst k1
            have hnn : numN 1 v = v + 1073741824 := rfl
            rw [hnn] at hv1
            have HVA := Lib.hid hv1
            clear hv1 hnn
            have htok : tokN 1 = 3221225534 := rfl
            rw [htok] at tk HVA
            have hmux : ∀ W, Below W5.heap.size W5 W → Calls Try.prog 21 #[.slice (some ⟨b, off, none⟩) n cp, .agg #[.int .u32 (v + 1073741824), .int .u32 (3221225534), .int .u64 0, .int .u64 (0), .int .u64 0, .int .u64 0, .int .u64 0, .int .u64 0, .int .u64 0]] W fun e w' => e = .returned (.agg #[.bool true, .int .i64 1, .string y.name, .bool false]) ∧ Below W.heap.size W w' := fun W hW => by
              have := muxOf_any (v + 1073741824) (3221225534) 0 (0) 0 0 0 0 0 (by omega) (by omega) (by omega) (by omega) (.slice (some ⟨b, off, none⟩) n cp) l W (by have := HL.out; omega) (HXR.out W hW)
              rw [HVA.out] at this
              exact this
            have Hmux := Lib.hid hmux
            clear hmux
            go_wp2_with fail
            refine (record_any (v + 1073741824) (3221225534) 0 (0) 0 0 0 0 0 _).mono ?_
            rintro e w7 ⟨rfl, hb7⟩
            have BW7 := Lib.hid ((BW.out.alloc BW.out.size (.cells #[.int .u32 (v + 1073741824), .int .u32 (3221225534), .int .u64 0, .int .u64 (0), .int .u64 0, .int .u64 0, .int .u64 0, .int .u64 0, .int .u64 0] 51)).trans (hb7.mono (Nat.le_trans BW.out.size (by simp; try omega))))
            clear hb7
            go_wp2_with fail
            refine (Hmux.out _ BW7.out).mono ?_
            rintro e w8 ⟨rfl, hb8⟩
            have bC := Blk.new w8 53 #[.bool true, .int .i64 1, .string y.name, .bool false]
            have y0 := bC.cell 0
            have y1 := bC.cell 1
            have y2 := bC.cell 2
            have y3 := bC.cell 3
            simp only [List.getElem?_toArray, List.getElem?_cons_zero, List.getElem?_cons_succ] at y0 y1 y2 y3
            have BW8 := Lib.hid ((BW7.out.trans (hb8.mono BW7.out.size)).alloc (Nat.le_trans BW7.out.size hb8.size) (.cells #[.bool true, .int .i64 1, .string y.name, .bool false] 53))
            have hnm := (HRA.out _ BW8.out).nameCell (j := kk) (by rw [HN.out]; exact hlt)
            rw [HY.out] at hnm
            clear bC hb8 BW7 Hmux
            go_wp2_with fail
            go_quiet (fail)
            clear y0 y1 y2 y3 hnm
            have BW9 := Lib.hid (bdn BW8.out nq)
            clear BW8
            generalize (w8.alloc (.cells #[.bool true, .int .i64 1, .string y.name, .bool false] 53)).drewN nq = w9 at *
            have rb := (HRA.out w9 BW9.out) kk (by rw [HN.out]; exact hlt)
            rw [HY.out] at rb
            have d6 := rb 6 _ rfl
            have d7 := rb 7 _ rfl
            clear rb
            by_cases q0 : 0 < y.mux
            case neg =>
              have q0' : decide (0 < y.mux) = false := decide_eq_false q0
              go_wp2
              go_roundg (n - (kk + 1))
              case measure => omega
              case rel => exact ⟨kk + 1, by omega, by omega, by go_num, BW9⟩
            have hmx2 := HMX.out
            unfold muxOk at hmx2
            have sB : 1 ≤ y.sub := by omega
            have sB2 : y.sub ≤ 255 := by omega
            have hB0 : 0 ≤ high := HH.out.1
            have hB1 : high < 4294967296 := HH.out.2
            have hv := HV2.out q0 (high * 4294967296 + y.sub) (by omega)
            by_cases q1 : y.mux = 1
            · skip
              have q1' : y.mux = 1 := q1
              rw [q1'] at hv
              have hnum : muxNumN 1 = 102 := rfl
              rw [hnum] at hv
              rw [q1'] at d6
              have HVX := Lib.hid hv
              have rc := (HRA.out _ ((BW9.out.alloc BW9.out.size (.cells #[.int .u32 0, .int .u32 102, .int .u32 117] 47)).alloc (Nat.le_trans BW9.out.size (by simp)) (.cells #[.int .u32 102, .int .u32 1073741827, .int .u64 0, .int .u64 0, .int .u64 0, .int .u64 0, .int .u64 0, .int .u64 0, .int .u64 0] 51))) kk (by rw [HN.out]; exact hlt)
              rw [HY.out] at rc
              have d9 := rc 7 _ rfl
              clear hv hnum hmx2 q0 q1 rc d7
              have hmux : ∀ W, Below W5.heap.size W5 W → Calls Try.prog 21 #[.slice (some ⟨b, off, none⟩) n cp, .agg #[.int .u32 (102), .int .u32 (1073741827), .int .u64 0, .int .u64 (high * 4294967296 + y.sub), .int .u64 0, .int .u64 0, .int .u64 0, .int .u64 0, .int .u64 0]] W fun e w' => e = .returned (.agg #[.bool true, .int .i64 2, .string y.name, .bool true]) ∧ Below W.heap.size W w' := fun W hW => by
                have := muxOf_any (102) (1073741827) 0 (high * 4294967296 + y.sub) 0 0 0 0 0 (by omega) (by omega) (by omega) (by omega) (.slice (some ⟨b, off, none⟩) n cp) l W (by have := HL.out; omega) (HXR.out W hW)
                rw [HVX.out] at this
                exact this
              have Hmux := Lib.hid hmux
              clear hmux
              go_wp2_with fail
              refine (record_any (102) (1073741827) 0 (high * 4294967296 + y.sub) 0 0 0 0 0 _).mono ?_
              rintro e w7 ⟨rfl, hb7⟩
              have BW7 := Lib.hid (((BW9.out.alloc BW9.out.size (.cells #[.int .u32 0, .int .u32 102, .int .u32 117] 47)).alloc (Nat.le_trans BW9.out.size (by simp)) (.cells #[.int .u32 (102), .int .u32 (1073741827), .int .u64 0, .int .u64 (high * 4294967296 + y.sub), .int .u64 0, .int .u64 0, .int .u64 0, .int .u64 0, .int .u64 0] 51)).trans (hb7.mono (Nat.le_trans BW9.out.size (by simp; try omega))))
              clear hb7
              go_wp2_with fail
              refine (Hmux.out _ BW7.out).mono ?_
              rintro e w8 ⟨rfl, hb8⟩
              have bC := Blk.new w8 53 #[.bool true, .int .i64 2, .string y.name, .bool true]
              have y0 := bC.cell 0
              have y1 := bC.cell 1
              have y2 := bC.cell 2
              have y3 := bC.cell 3
              simp only [List.getElem?_toArray, List.getElem?_cons_zero, List.getElem?_cons_succ] at y0 y1 y2 y3
              have BW8 := Lib.hid ((BW7.out.trans (hb8.mono BW7.out.size)).alloc (Nat.le_trans BW7.out.size hb8.size) (.cells #[.bool true, .int .i64 2, .string y.name, .bool true] 53))
              have hnm := (HRA.out _ BW8.out).nameCell (j := kk) (by rw [HN.out]; exact hlt)
              rw [HY.out] at hnm
              clear bC hb8 BW7 Hmux
              go_wp2_with fail
              go_quiet (fail)
              clear y0 y1 y2 y3 hnm
              have BWE := Lib.hid (bdn BW8.out nq)
              clear BW8
              generalize (w8.alloc (.cells #[.bool true, .int .i64 2, .string y.name, .bool true] 53)).drewN nq = wE at *
              go_wp2
              go_roundg (n - (kk + 1))
              case measure => omega
              case rel => exact ⟨kk + 1, by omega, by omega, by go_num, BWE⟩
            · skip
              have q1' : y.mux = 2 := by omega
              rw [q1'] at hv
              have hnum : muxNumN 2 = 117 := rfl
              rw [hnum] at hv
              rw [q1'] at d6
              have HVX := Lib.hid hv
              have rc := (HRA.out _ ((BW9.out.alloc BW9.out.size (.cells #[.int .u32 0, .int .u32 102, .int .u32 117] 47)).alloc (Nat.le_trans BW9.out.size (by simp)) (.cells #[.int .u32 117, .int .u32 1073741827, .int .u64 0, .int .u64 0, .int .u64 0, .int .u64 0, .int .u64 0, .int .u64 0, .int .u64 0] 51))) kk (by rw [HN.out]; exact hlt)
              rw [HY.out] at rc
              have d9 := rc 7 _ rfl
              clear hv hnum hmx2 q0 q1 rc d7
              have hmux : ∀ W, Below W5.heap.size W5 W → Calls Try.prog 21 #[.slice (some ⟨b, off, none⟩) n cp, .agg #[.int .u32 (117), .int .u32 (1073741827), .int .u64 0, .int .u64 (high * 4294967296 + y.sub), .int .u64 0, .int .u64 0, .int .u64 0, .int .u64 0, .int .u64 0]] W fun e w' => e = .returned (.agg #[.bool true, .int .i64 2, .string y.name, .bool true]) ∧ Below W.heap.size W w' := fun W hW => by
                have := muxOf_any (117) (1073741827) 0 (high * 4294967296 + y.sub) 0 0 0 0 0 (by omega) (by omega) (by omega) (by omega) (.slice (some ⟨b, off, none⟩) n cp) l W (by have := HL.out; omega) (HXR.out W hW)
                rw [HVX.out] at this
                exact this
              have Hmux := Lib.hid hmux
              clear hmux
              go_wp2_with fail
              refine (record_any (117) (1073741827) 0 (high * 4294967296 + y.sub) 0 0 0 0 0 _).mono ?_
              rintro e w7 ⟨rfl, hb7⟩
              have BW7 := Lib.hid (((BW9.out.alloc BW9.out.size (.cells #[.int .u32 0, .int .u32 102, .int .u32 117] 47)).alloc (Nat.le_trans BW9.out.size (by simp)) (.cells #[.int .u32 (117), .int .u32 (1073741827), .int .u64 0, .int .u64 (high * 4294967296 + y.sub), .int .u64 0, .int .u64 0, .int .u64 0, .int .u64 0, .int .u64 0] 51)).trans (hb7.mono (Nat.le_trans BW9.out.size (by simp; try omega))))
              clear hb7
              go_wp2_with fail
              refine (Hmux.out _ BW7.out).mono ?_
              rintro e w8 ⟨rfl, hb8⟩
              have bC := Blk.new w8 53 #[.bool true, .int .i64 2, .string y.name, .bool true]
              have y0 := bC.cell 0
              have y1 := bC.cell 1
              have y2 := bC.cell 2
              have y3 := bC.cell 3
              simp only [List.getElem?_toArray, List.getElem?_cons_zero, List.getElem?_cons_succ] at y0 y1 y2 y3
              have BW8 := Lib.hid ((BW7.out.trans (hb8.mono BW7.out.size)).alloc (Nat.le_trans BW7.out.size hb8.size) (.cells #[.bool true, .int .i64 2, .string y.name, .bool true] 53))
              have hnm := (HRA.out _ BW8.out).nameCell (j := kk) (by rw [HN.out]; exact hlt)
              rw [HY.out] at hnm
              clear bC hb8 BW7 Hmux
              go_wp2_with fail
              go_quiet (fail)
              clear y0 y1 y2 y3 hnm
              have BWE := Lib.hid (bdn BW8.out nq)
              clear BW8
              generalize (w8.alloc (.cells #[.bool true, .int .i64 2, .string y.name, .bool true] 53)).drewN nq = wE at *
              go_wp2
              go_roundg (n - (kk + 1))
              case measure => omega
              case rel => exact ⟨kk + 1, by omega, by omega, by go_num, BWE⟩
          · have k1' : ((k : Int) == 1) = false := by
              simp only [beq_eq_false_iff_ne, ne_eq]; omega
            have hv1 := HV1.out (by rw [HVV.out]; exact z0)
            rw [HVV.out] at hv1
            have hnn : numN k v = v := by unfold numN; rw [if_neg k1]
            rw [hnn] at hv1
            have HVA := Lib.hid hv1
            clear hv1 hnn
            generalize tokN k = tok at *
            have hmux : ∀ W, Below W5.heap.size W5 W → Calls Try.prog 21 #[.slice (some ⟨b, off, none⟩) n cp, .agg #[.int .u32 (v), .int .u32 (tok), .int .u64 0, .int .u64 (0), .int .u64 0, .int .u64 0, .int .u64 0, .int .u64 0, .int .u64 0]] W fun e w' => e = .returned (.agg #[.bool true, .int .i64 (k : Int), .string y.name, .bool false]) ∧ Below W.heap.size W w' := fun W hW => by
              have := muxOf_any (v) (tok) 0 (0) 0 0 0 0 0 (by omega) (by omega) (by omega) (by omega) (.slice (some ⟨b, off, none⟩) n cp) l W (by have := HL.out; omega) (HXR.out W hW)
              rw [HVA.out] at this
              exact this
            have Hmux := Lib.hid hmux
            clear hmux
            go_wp2_with fail
            refine (record_any (v) (tok) 0 (0) 0 0 0 0 0 _).mono ?_
            rintro e w7 ⟨rfl, hb7⟩
            have BW7 := Lib.hid ((BW.out.alloc BW.out.size (.cells #[.int .u32 (v), .int .u32 (tok), .int .u64 0, .int .u64 (0), .int .u64 0, .int .u64 0, .int .u64 0, .int .u64 0, .int .u64 0] 51)).trans (hb7.mono (Nat.le_trans BW.out.size (by simp; try omega))))
            clear hb7
            go_wp2_with fail
            refine (Hmux.out _ BW7.out).mono ?_
            rintro e w8 ⟨rfl, hb8⟩
            have bC := Blk.new w8 53 #[.bool true, .int .i64 (k : Int), .string y.name, .bool false]
            have y0 := bC.cell 0
            have y1 := bC.cell 1
            have y2 := bC.cell 2
            have y3 := bC.cell 3
            simp only [List.getElem?_toArray, List.getElem?_cons_zero, List.getElem?_cons_succ] at y0 y1 y2 y3
            have BW8 := Lib.hid ((BW7.out.trans (hb8.mono BW7.out.size)).alloc (Nat.le_trans BW7.out.size hb8.size) (.cells #[.bool true, .int .i64 (k : Int), .string y.name, .bool false] 53))
            have hnm := (HRA.out _ BW8.out).nameCell (j := kk) (by rw [HN.out]; exact hlt)
            rw [HY.out] at hnm
            clear bC hb8 BW7 Hmux
            go_wp2_with fail
            go_quiet (fail)
            clear y0 y1 y2 y3 hnm
            have BW9 := Lib.hid (bdn BW8.out nq)
            clear BW8
            generalize (w8.alloc (.cells #[.bool true, .int .i64 (k : Int), .string y.name, .bool false] 53)).drewN nq = w9 at *
            have rb := (HRA.out w9 BW9.out) kk (by rw [HN.out]; exact hlt)
            rw [HY.out] at rb
            have d6 := rb 6 _ rfl
            have d7 := rb 7 _ rfl
            clear rb
            by_cases q0 : 0 < y.mux
            case neg =>
              have q0' : decide (0 < y.mux) = false := decide_eq_false q0
              go_wp2
              go_roundg (n - (kk + 1))
              case measure => omega
              case rel => exact ⟨kk + 1, by omega, by omega, by go_num, BW9⟩
            have hmx2 := HMX.out
            unfold muxOk at hmx2
            have sB : 1 ≤ y.sub := by omega
            have sB2 : y.sub ≤ 255 := by omega
            have hB0 : 0 ≤ high := HH.out.1
            have hB1 : high < 4294967296 := HH.out.2
            have hv := HV2.out q0 (high * 4294967296 + y.sub) (by omega)
            by_cases q1 : y.mux = 1
            · skip
              have q1' : y.mux = 1 := q1
              rw [q1'] at hv
              have hnum : muxNumN 1 = 102 := rfl
              rw [hnum] at hv
              rw [q1'] at d6
              have HVX := Lib.hid hv
              have rc := (HRA.out _ ((BW9.out.alloc BW9.out.size (.cells #[.int .u32 0, .int .u32 102, .int .u32 117] 47)).alloc (Nat.le_trans BW9.out.size (by simp)) (.cells #[.int .u32 102, .int .u32 1073741827, .int .u64 0, .int .u64 0, .int .u64 0, .int .u64 0, .int .u64 0, .int .u64 0, .int .u64 0] 51))) kk (by rw [HN.out]; exact hlt)
              rw [HY.out] at rc
              have d9 := rc 7 _ rfl
              clear hv hnum hmx2 q0 q1 rc d7
              have hmux : ∀ W, Below W5.heap.size W5 W → Calls Try.prog 21 #[.slice (some ⟨b, off, none⟩) n cp, .agg #[.int .u32 (102), .int .u32 (1073741827), .int .u64 0, .int .u64 (high * 4294967296 + y.sub), .int .u64 0, .int .u64 0, .int .u64 0, .int .u64 0, .int .u64 0]] W fun e w' => e = .returned (.agg #[.bool true, .int .i64 2, .string y.name, .bool true]) ∧ Below W.heap.size W w' := fun W hW => by
                have := muxOf_any (102) (1073741827) 0 (high * 4294967296 + y.sub) 0 0 0 0 0 (by omega) (by omega) (by omega) (by omega) (.slice (some ⟨b, off, none⟩) n cp) l W (by have := HL.out; omega) (HXR.out W hW)
                rw [HVX.out] at this
                exact this
              have Hmux := Lib.hid hmux
              clear hmux
              go_wp2_with fail
              refine (record_any (102) (1073741827) 0 (high * 4294967296 + y.sub) 0 0 0 0 0 _).mono ?_
              rintro e w7 ⟨rfl, hb7⟩
              have BW7 := Lib.hid (((BW9.out.alloc BW9.out.size (.cells #[.int .u32 0, .int .u32 102, .int .u32 117] 47)).alloc (Nat.le_trans BW9.out.size (by simp)) (.cells #[.int .u32 (102), .int .u32 (1073741827), .int .u64 0, .int .u64 (high * 4294967296 + y.sub), .int .u64 0, .int .u64 0, .int .u64 0, .int .u64 0, .int .u64 0] 51)).trans (hb7.mono (Nat.le_trans BW9.out.size (by simp; try omega))))
              clear hb7
              go_wp2_with fail
              refine (Hmux.out _ BW7.out).mono ?_
              rintro e w8 ⟨rfl, hb8⟩
              have bC := Blk.new w8 53 #[.bool true, .int .i64 2, .string y.name, .bool true]
              have y0 := bC.cell 0
              have y1 := bC.cell 1
              have y2 := bC.cell 2
              have y3 := bC.cell 3
              simp only [List.getElem?_toArray, List.getElem?_cons_zero, List.getElem?_cons_succ] at y0 y1 y2 y3
              have BW8 := Lib.hid ((BW7.out.trans (hb8.mono BW7.out.size)).alloc (Nat.le_trans BW7.out.size hb8.size) (.cells #[.bool true, .int .i64 2, .string y.name, .bool true] 53))
              have hnm := (HRA.out _ BW8.out).nameCell (j := kk) (by rw [HN.out]; exact hlt)
              rw [HY.out] at hnm
              clear bC hb8 BW7 Hmux
              go_wp2_with fail
              go_quiet (fail)
              clear y0 y1 y2 y3 hnm
              have BWE := Lib.hid (bdn BW8.out nq)
              clear BW8
              generalize (w8.alloc (.cells #[.bool true, .int .i64 2, .string y.name, .bool true] 53)).drewN nq = wE at *
              go_wp2
              go_roundg (n - (kk + 1))
              case measure => omega
              case rel => exact ⟨kk + 1, by omega, by omega, by go_num, BWE⟩
            · skip
              have q1' : y.mux = 2 := by omega
              rw [q1'] at hv
              have hnum : muxNumN 2 = 117 := rfl
              rw [hnum] at hv
              rw [q1'] at d6
              have HVX := Lib.hid hv
              have rc := (HRA.out _ ((BW9.out.alloc BW9.out.size (.cells #[.int .u32 0, .int .u32 102, .int .u32 117] 47)).alloc (Nat.le_trans BW9.out.size (by simp)) (.cells #[.int .u32 117, .int .u32 1073741827, .int .u64 0, .int .u64 0, .int .u64 0, .int .u64 0, .int .u64 0, .int .u64 0, .int .u64 0] 51))) kk (by rw [HN.out]; exact hlt)
              rw [HY.out] at rc
              have d9 := rc 7 _ rfl
              clear hv hnum hmx2 q0 q1 rc d7
              have hmux : ∀ W, Below W5.heap.size W5 W → Calls Try.prog 21 #[.slice (some ⟨b, off, none⟩) n cp, .agg #[.int .u32 (117), .int .u32 (1073741827), .int .u64 0, .int .u64 (high * 4294967296 + y.sub), .int .u64 0, .int .u64 0, .int .u64 0, .int .u64 0, .int .u64 0]] W fun e w' => e = .returned (.agg #[.bool true, .int .i64 2, .string y.name, .bool true]) ∧ Below W.heap.size W w' := fun W hW => by
                have := muxOf_any (117) (1073741827) 0 (high * 4294967296 + y.sub) 0 0 0 0 0 (by omega) (by omega) (by omega) (by omega) (.slice (some ⟨b, off, none⟩) n cp) l W (by have := HL.out; omega) (HXR.out W hW)
                rw [HVX.out] at this
                exact this
              have Hmux := Lib.hid hmux
              clear hmux
              go_wp2_with fail
              refine (record_any (117) (1073741827) 0 (high * 4294967296 + y.sub) 0 0 0 0 0 _).mono ?_
              rintro e w7 ⟨rfl, hb7⟩
              have BW7 := Lib.hid (((BW9.out.alloc BW9.out.size (.cells #[.int .u32 0, .int .u32 102, .int .u32 117] 47)).alloc (Nat.le_trans BW9.out.size (by simp)) (.cells #[.int .u32 (117), .int .u32 (1073741827), .int .u64 0, .int .u64 (high * 4294967296 + y.sub), .int .u64 0, .int .u64 0, .int .u64 0, .int .u64 0, .int .u64 0] 51)).trans (hb7.mono (Nat.le_trans BW9.out.size (by simp; try omega))))
              clear hb7
              go_wp2_with fail
              refine (Hmux.out _ BW7.out).mono ?_
              rintro e w8 ⟨rfl, hb8⟩
              have bC := Blk.new w8 53 #[.bool true, .int .i64 2, .string y.name, .bool true]
              have y0 := bC.cell 0
              have y1 := bC.cell 1
              have y2 := bC.cell 2
              have y3 := bC.cell 3
              simp only [List.getElem?_toArray, List.getElem?_cons_zero, List.getElem?_cons_succ] at y0 y1 y2 y3
              have BW8 := Lib.hid ((BW7.out.trans (hb8.mono BW7.out.size)).alloc (Nat.le_trans BW7.out.size hb8.size) (.cells #[.bool true, .int .i64 2, .string y.name, .bool true] 53))
              have hnm := (HRA.out _ BW8.out).nameCell (j := kk) (by rw [HN.out]; exact hlt)
              rw [HY.out] at hnm
              clear bC hb8 BW7 Hmux
              go_wp2_with fail
              go_quiet (fail)
              clear y0 y1 y2 y3 hnm
              have BWE := Lib.hid (bdn BW8.out nq)
              clear BW8
              generalize (w8.alloc (.cells #[.bool true, .int .i64 2, .string y.name, .bool true] 53)).drewN nq = wE at *
              go_wp2
              go_roundg (n - (kk + 1))
              case measure => omega
              case rel => exact ⟨kk + 1, by omega, by omega, by go_num, BWE⟩
        · have z0' : decide (0 ≤ v) = false := decide_eq_false z0
          clear d6 d7
          have rb := (HRA.out wr BW.out) kk (by rw [HN.out]; exact hlt)
          rw [HY.out] at rb
          have d6 := rb 6 _ rfl
          have d7 := rb 7 _ rfl
          clear rb
          by_cases q0 : 0 < y.mux
          case neg =>
            have q0' : decide (0 < y.mux) = false := decide_eq_false q0
            go_wp2
            go_roundg (n - (kk + 1))
            case measure => omega
            case rel => exact ⟨kk + 1, by omega, by omega, by go_num, BW⟩
          have hmx2 := HMX.out
          unfold muxOk at hmx2
          have sB : 1 ≤ y.sub := by omega
          have sB2 : y.sub ≤ 255 := by omega
          have hB0 : 0 ≤ high := HH.out.1
          have hB1 : high < 4294967296 := HH.out.2
          have hv := HV2.out q0 (high * 4294967296 + y.sub) (by omega)
          by_cases q1 : y.mux = 1
          · skip
            have q1' : y.mux = 1 := q1
            rw [q1'] at hv
            have hnum : muxNumN 1 = 102 := rfl
            rw [hnum] at hv
            rw [q1'] at d6
            have HVX := Lib.hid hv
            have rc := (HRA.out _ ((BW.out.alloc BW.out.size (.cells #[.int .u32 0, .int .u32 102, .int .u32 117] 47)).alloc (Nat.le_trans BW.out.size (by simp)) (.cells #[.int .u32 102, .int .u32 1073741827, .int .u64 0, .int .u64 0, .int .u64 0, .int .u64 0, .int .u64 0, .int .u64 0, .int .u64 0] 51))) kk (by rw [HN.out]; exact hlt)
            rw [HY.out] at rc
            have d9 := rc 7 _ rfl
            clear hv hnum hmx2 q0 q1 rc d7
            have hmux : ∀ W, Below W5.heap.size W5 W → Calls Try.prog 21 #[.slice (some ⟨b, off, none⟩) n cp, .agg #[.int .u32 (102), .int .u32 (1073741827), .int .u64 0, .int .u64 (high * 4294967296 + y.sub), .int .u64 0, .int .u64 0, .int .u64 0, .int .u64 0, .int .u64 0]] W fun e w' => e = .returned (.agg #[.bool true, .int .i64 2, .string y.name, .bool true]) ∧ Below W.heap.size W w' := fun W hW => by
              have := muxOf_any (102) (1073741827) 0 (high * 4294967296 + y.sub) 0 0 0 0 0 (by omega) (by omega) (by omega) (by omega) (.slice (some ⟨b, off, none⟩) n cp) l W (by have := HL.out; omega) (HXR.out W hW)
              rw [HVX.out] at this
              exact this
            have Hmux := Lib.hid hmux
            clear hmux
            go_wp2_with fail
            refine (record_any (102) (1073741827) 0 (high * 4294967296 + y.sub) 0 0 0 0 0 _).mono ?_
            rintro e w7 ⟨rfl, hb7⟩
            have BW7 := Lib.hid (((BW.out.alloc BW.out.size (.cells #[.int .u32 0, .int .u32 102, .int .u32 117] 47)).alloc (Nat.le_trans BW.out.size (by simp)) (.cells #[.int .u32 (102), .int .u32 (1073741827), .int .u64 0, .int .u64 (high * 4294967296 + y.sub), .int .u64 0, .int .u64 0, .int .u64 0, .int .u64 0, .int .u64 0] 51)).trans (hb7.mono (Nat.le_trans BW.out.size (by simp; try omega))))
            clear hb7
            go_wp2_with fail
            refine (Hmux.out _ BW7.out).mono ?_
            rintro e w8 ⟨rfl, hb8⟩
            have bC := Blk.new w8 53 #[.bool true, .int .i64 2, .string y.name, .bool true]
            have y0 := bC.cell 0
            have y1 := bC.cell 1
            have y2 := bC.cell 2
            have y3 := bC.cell 3
            simp only [List.getElem?_toArray, List.getElem?_cons_zero, List.getElem?_cons_succ] at y0 y1 y2 y3
            have BW8 := Lib.hid ((BW7.out.trans (hb8.mono BW7.out.size)).alloc (Nat.le_trans BW7.out.size hb8.size) (.cells #[.bool true, .int .i64 2, .string y.name, .bool true] 53))
            have hnm := (HRA.out _ BW8.out).nameCell (j := kk) (by rw [HN.out]; exact hlt)
            rw [HY.out] at hnm
            clear bC hb8 BW7 Hmux
            go_wp2_with fail
            go_quiet (fail)
            clear y0 y1 y2 y3 hnm
            have BWE := Lib.hid (bdn BW8.out nq)
            clear BW8
            generalize (w8.alloc (.cells #[.bool true, .int .i64 2, .string y.name, .bool true] 53)).drewN nq = wE at *
            go_wp2
            go_roundg (n - (kk + 1))
            case measure => omega
            case rel => exact ⟨kk + 1, by omega, by omega, by go_num, BWE⟩
          · skip
            have q1' : y.mux = 2 := by omega
            rw [q1'] at hv
            have hnum : muxNumN 2 = 117 := rfl
            rw [hnum] at hv
            rw [q1'] at d6
            have HVX := Lib.hid hv
            have rc := (HRA.out _ ((BW.out.alloc BW.out.size (.cells #[.int .u32 0, .int .u32 102, .int .u32 117] 47)).alloc (Nat.le_trans BW.out.size (by simp)) (.cells #[.int .u32 117, .int .u32 1073741827, .int .u64 0, .int .u64 0, .int .u64 0, .int .u64 0, .int .u64 0, .int .u64 0, .int .u64 0] 51))) kk (by rw [HN.out]; exact hlt)
            rw [HY.out] at rc
            have d9 := rc 7 _ rfl
            clear hv hnum hmx2 q0 q1 rc d7
            have hmux : ∀ W, Below W5.heap.size W5 W → Calls Try.prog 21 #[.slice (some ⟨b, off, none⟩) n cp, .agg #[.int .u32 (117), .int .u32 (1073741827), .int .u64 0, .int .u64 (high * 4294967296 + y.sub), .int .u64 0, .int .u64 0, .int .u64 0, .int .u64 0, .int .u64 0]] W fun e w' => e = .returned (.agg #[.bool true, .int .i64 2, .string y.name, .bool true]) ∧ Below W.heap.size W w' := fun W hW => by
              have := muxOf_any (117) (1073741827) 0 (high * 4294967296 + y.sub) 0 0 0 0 0 (by omega) (by omega) (by omega) (by omega) (.slice (some ⟨b, off, none⟩) n cp) l W (by have := HL.out; omega) (HXR.out W hW)
              rw [HVX.out] at this
              exact this
            have Hmux := Lib.hid hmux
            clear hmux
            go_wp2_with fail
            refine (record_any (117) (1073741827) 0 (high * 4294967296 + y.sub) 0 0 0 0 0 _).mono ?_
            rintro e w7 ⟨rfl, hb7⟩
            have BW7 := Lib.hid (((BW.out.alloc BW.out.size (.cells #[.int .u32 0, .int .u32 102, .int .u32 117] 47)).alloc (Nat.le_trans BW.out.size (by simp)) (.cells #[.int .u32 (117), .int .u32 (1073741827), .int .u64 0, .int .u64 (high * 4294967296 + y.sub), .int .u64 0, .int .u64 0, .int .u64 0, .int .u64 0, .int .u64 0] 51)).trans (hb7.mono (Nat.le_trans BW.out.size (by simp; try omega))))
            clear hb7
            go_wp2_with fail
            refine (Hmux.out _ BW7.out).mono ?_
            rintro e w8 ⟨rfl, hb8⟩
            have bC := Blk.new w8 53 #[.bool true, .int .i64 2, .string y.name, .bool true]
            have y0 := bC.cell 0
            have y1 := bC.cell 1
            have y2 := bC.cell 2
            have y3 := bC.cell 3
            simp only [List.getElem?_toArray, List.getElem?_cons_zero, List.getElem?_cons_succ] at y0 y1 y2 y3
            have BW8 := Lib.hid ((BW7.out.trans (hb8.mono BW7.out.size)).alloc (Nat.le_trans BW7.out.size hb8.size) (.cells #[.bool true, .int .i64 2, .string y.name, .bool true] 53))
            have hnm := (HRA.out _ BW8.out).nameCell (j := kk) (by rw [HN.out]; exact hlt)
            rw [HY.out] at hnm
            clear bC hb8 BW7 Hmux
            go_wp2_with fail
            go_quiet (fail)
            clear y0 y1 y2 y3 hnm
            have BWE := Lib.hid (bdn BW8.out nq)
            clear BW8
            generalize (w8.alloc (.cells #[.bool true, .int .i64 2, .string y.name, .bool true] 53)).drewN nq = wE at *
            go_wp2
            go_roundg (n - (kk + 1))
            case measure => omega
            case rel => exact ⟨kk + 1, by omega, by omega, by go_num, BWE⟩
end Go.Proofs.Ytakmbmlpgmppiaa
