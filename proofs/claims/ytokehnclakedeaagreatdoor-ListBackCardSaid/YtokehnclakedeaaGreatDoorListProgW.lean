/- strainerlaw03.ListPrograms: the walk. -/
import Derived.Test.YtokehnclakedeaaGreatDoorListBackW
namespace Go.Proofs.YtokehnclakedeaaGreatDoor
open Go Go.Proofs Go.RowKit

/-- Lines put together, each with its end. -/
def joinT (ls : List ByteArray) : List UInt8 := ls.flatMap fun x => x.data.toList ++ [10]
theorem joinT_take (ls : List ByteArray) (k : Nat) (x : ByteArray) (h : ls[k]? = some x) : joinT (ls.take (k + 1)) = joinT (ls.take k) ++ (x.data.toList ++ [10]) := by
  unfold joinT
  rw [List.take_add_one, h, List.flatMap_append]
  simp
theorem pieces_join : ∀ ls : List ByteArray, (∀ x ∈ ls, (10 : UInt8) ∉ x.data.toList) → pieces (joinT ls) = ls.map (fun x => x.data.toList) ++ [[]]
  | [], _ => rfl
  | x :: ls, h => by
    have ih := pieces_join ls (fun y hy => h y (by simp [hy]))
    have e : joinT (x :: ls) = x.data.toList ++ 10 :: joinT ls := by
      unfold joinT
      rw [List.flatMap_cons]
      simp
    rw [e, pieces_at _ _ (h x (by simp)), ih]
    rfl
theorem piecesB_join {T : ByteArray} {ls : List ByteArray} (hT : T.data.toList = joinT ls) (h : ∀ x ∈ ls, (10 : UInt8) ∉ x.data.toList) : piecesB T = ls ++ [⟨#[]⟩] := by
  unfold piecesB
  rw [hT, pieces_join ls h, List.map_append, List.map_map]
  congr 1
  conv => rhs; rw [← List.map_id ls]
  apply List.map_congr_left
  intro x _
  show (⟨x.data.toList.toArray⟩ : ByteArray) = x
  simp
/-- What has been read of these lines: the instructions so far, the first wrong line and its error. -/
def WantR (pre : List ByteArray) (wn : List Ins4) (bad wrong : Nat) : Prop :=
  (bad = 0 ∧ wrong = 0 ∧ (∀ x ∈ pre, okP x = true) ∧ wn = accP pre) ∨ (∃ init x r, pre = init ++ x :: r ∧ (∀ y ∈ init, okP y = true) ∧ okP x = false ∧ bad = init.length + 1 ∧ wrong = (ansB x).2)
theorem wantR_ok {pre : List ByteArray} {wn : List Ins4} {wrong : Nat} {x : ByteArray} (h : WantR pre wn 0 wrong) (hx : okP x = true) : WantR (pre ++ [x]) (wn ++ (if (ansB x).2 = 0 then [(ansB x).1] else [])) 0 wrong := by
  rcases h with ⟨_, h2, h3, h4⟩ | ⟨_, _, _, _, _, _, h, _⟩
  · refine .inl ⟨rfl, h2, fun y hy => ?_, by rw [h4, accP_snoc]⟩
    rcases List.mem_append.1 hy with hy | hy
    · exact h3 y hy
    · rw [List.mem_singleton.1 hy]; exact hx
  · omega
theorem wantR_bad {pre : List ByteArray} {wn : List Ins4} {wrong : Nat} {x : ByteArray} (h : WantR pre wn 0 wrong) (hx : okP x = false) : WantR (pre ++ [x]) wn (pre.length + 1) (ansB x).2 := by
  rcases h with ⟨_, h2, h3, h4⟩ | ⟨_, _, _, _, _, _, h, _⟩
  · exact .inr ⟨pre, x, [], rfl, h3, hx, rfl, rfl⟩
  · omega
theorem wantR_past {pre : List ByteArray} {wn : List Ins4} {bad wrong : Nat} (x : ByteArray) (h : WantR pre wn bad wrong) (hb : 0 < bad) : WantR (pre ++ [x]) wn bad wrong := by
  rcases h with ⟨h1, _⟩ | ⟨init, y, r, h1, h2, h3, h4, h5⟩
  · omega
  · exact .inr ⟨init, y, r ++ [x], by rw [h1]; simp, h2, h3, h4, h5⟩
theorem wantR_prog {T : ByteArray} {ls : List ByteArray} {wn : List Ins4} {bad wrong : Nat} (h : WantR ls wn bad wrong) (hT : T.data.toList = joinT ls) (hs : T.size ≤ 65536) (hno : ∀ x ∈ ls, (10 : UInt8) ∉ x.data.toList) :
    (bad = 0 ∧ progAns T = (wn, 0, 0)) ∨ (0 < bad ∧ progAns T = ([], bad, wrong)) := by
  have hp := piecesB_join hT hno
  rcases h with ⟨h1, h2, h3, h4⟩ | ⟨init, x, r, h1, h2, h3, h4, h5⟩
  · refine .inl ⟨h1, ?_⟩
    rw [progAns_all hs, hp, accP_snoc, ansB_empty, if_neg (by decide), List.append_nil, h4]
    rw [hp]
    intro y hy
    rcases List.mem_append.1 hy with hy | hy
    · exact h3 y hy
    · rw [List.mem_singleton.1 hy]; rfl
  · refine .inr ⟨by omega, ?_⟩
    rw [progAns_bad hs (init := init) (x := x) ⟨r ++ [⟨#[]⟩], by rw [hp, h1]; simp⟩ h2 h3, h4, h5]

/-- Lines that lie in memory. -/
def StrsV (w : World) (v : Value) (ls : List ByteArray) : Prop := ∃ a c, v = .slice a ls.length c ∧ (ls = [] ∨ ∃ b off, a = some ⟨b, off, none⟩ ∧ b < w.heap.size ∧ ∀ (j : Nat) (s : ByteArray), ls[j]? = some s → w.cell? ⟨b, off + j, none⟩ = some (.string s))
theorem StrsV.at {w : World} {a : Option Addr} {n c : Nat} {ls : List ByteArray} (h : StrsV w (.slice a n c) ls) {k : Nat} {x : ByteArray} (hk : ls[k]? = some x) : ∃ b off, a = some ⟨b, off, none⟩ ∧ w.cell? ⟨b, off + k, none⟩ = some (.string x) := by
  obtain ⟨a', c', h1, h2⟩ := h
  rcases h2 with rfl | ⟨b, off, h3, _, h5⟩
  · simp at hk
  · exact ⟨b, off, by rw [(Value.slice.inj h1).1, h3], h5 k x hk⟩
theorem no10_size {x : ByteArray} (h : ∀ j (hj : j < x.size), x[j]'hj ≠ 10) : (10 : UInt8) ∉ x.data.toList := by
  intro hm
  obtain ⟨j, hj, e⟩ := List.mem_iff_getElem.1 hm
  exact h j (by rw [← sizeL]; exact hj) e
theorem InssV.ownR {w : World} {B : Nat} {v : Value} {l : List Ins4} (h : w.ownsRow B 29 4 v l.length (flatI l)) : InssV w v l := by
  have h' := h
  rcases h.2 with ⟨h1, h0⟩ | ⟨g, c, cur, rfl, _, h3, _⟩
  · exact ⟨none, 0, by rw [h1, h0], .inl (List.eq_nil_of_length_eq_zero h0)⟩
  · refine ⟨_, c, rfl, .inr ⟨g, 0, rfl, (Array.getElem?_eq_some_iff.1 h3).1, fun j x hj i u hu => ?_⟩⟩
    have hjl := (List.getElem?_eq_some_iff.1 hj).1
    have hi : i < 4 := (List.getElem?_eq_some_iff.1 hu).1
    have h4 := h'.cellAt (j * 4 + i) (by omega)
    rw [flatI_at l j x hj i hi, hu] at h4
    rw [Nat.zero_add]
    exact h4
theorem infoIns2 : (Tryz.prog.info? 29).map (fun i => (i.zero, i.size, i.bytes)) = some (some (.agg #[.int .u16 0, .int .u8 0, .int .u8 0, .int .u32 0]), 4, 8) := by kernel_rfl
theorem rowNil3 {W : World} {B t : Nat} {v : Value} (h : W.ownsRow B t 4 v 0 (flatI [])) : ∃ a c, v = .slice a 0 c := by
  rcases h.2 with ⟨h, _⟩ | ⟨g, c, _, h, _⟩
  · exact ⟨_, _, h⟩
  · exact ⟨_, _, h⟩
set_option maxRecDepth 100000 in
set_option maxHeartbeats 16000000 in
theorem listprogs_any (v : Value) (ls : List ByteArray) (w : World) (hT : AscT w) (hp : Pow10 w) (hv : StrsV w v ls) :
    Calls Tryz.prog 4 #[v] w fun e w' => e = .returned (.bool true) ∧ Below w.heap.size w w' := by
  obtain ⟨a, cp, rfl, hcs⟩ := hv
  have HV : Hid (StrsV w (.slice a ls.length cp) ls) := ⟨a, cp, rfl, hcs⟩
  clear hcs
  obtain ⟨n, hn⟩ : ∃ n, ls.length = n := ⟨_, rfl⟩
  rw [hn] at HV ⊢
  by_cases hbig : 30 < n
  · have hbz : (30 : Int) < (n : Int) := by omega
    clear hbig hn HV hT hp
    go_enter Tryz.func4, Tryz.ntmps4
    go_wp2
    go_ret
    exact ⟨rfl, Below.refl _ _⟩
  have hbz : ¬ (30 : Int) < (n : Int) := by omega
  obtain ⟨i0, hi0, hz0, hz1, hz2⟩ := info_parts infoIns2
  have HN := Lib.hid hn
  have HT := Lib.hid hT
  have HP := Lib.hid hp
  clear hn hT hp
  go_enter Tryz.func4, Tryz.ntmps4
  go_upto_region 7 with fail
  go_loopw [3, 4, 5, 6, 7] (fun s3 s4 s5 s6 s7 wr => ∃ (i bad wrong m : Nat) (T : ByteArray) (wn : List Ins4), i ≤ n ∧ s7 = .int .i64 i ∧ s3 = .string T ∧ s5 = .int .i64 bad ∧ s6 = .int .i64 wrong ∧ T.size ≤ 61 * i ∧ m ≤ i ∧ bad ≤ i ∧ Hid (T.data.toList = joinT (ls.take i)) ∧ Hid (WantR (ls.take i) wn bad wrong) ∧ Hid (wn.length = m) ∧ Hid (wr.ownsRow w.heap.size 29 4 s4 m (flatI wn)) ∧ Hid (Below w.heap.size w wr) ∧ Hid (∀ x ∈ ls.take i, (10 : UInt8) ∉ x.data.toList)) (fun _ _ _ _ s7 _ => n - (intOf s7).toNat)
  case atStart => exact ⟨0, 0, 0, 0, ⟨#[]⟩, [], Nat.zero_le _, rfl, rfl, rfl, rfl, Nat.zero_le _, Nat.le_refl _, Nat.le_refl _, rfl, .inl ⟨rfl, rfl, (fun x hx => by simp at hx), rfl⟩, rfl, World.ownsRow_nil _ _ _ _, Below.refl _ _, (show Hid _ from fun x hx => by simp at hx)⟩
  case round =>
    obtain ⟨i, bad, wrong, m, T, wn, hi, rfl, rfl, rfl, rfl, hTs, hm, hbi, HTL, HW, HM, HO, HB, HNO⟩ := hrel
    have hiz0 : (0 : Int) ≤ (i : Int) := by omega
    by_cases hlt : i < n
    · have hltz : (i : Int) < (n : Int) := by omega
      obtain ⟨X, hX⟩ : ∃ X, ls[i]? = some X := ⟨_, List.getElem?_eq_getElem (by rw [HN.out]; exact hlt)⟩
      obtain ⟨b, off, rfl, hcl⟩ := HV.out.at hX
      have d0 := lcell HB.out hcl
      by_cases h60 : 60 < X.size
      · have h60z : (60 : Int) < (X.size : Int) := by omega
        clear h60 hX hcl
        go_wp2
        go_ret
        exact ⟨rfl, HB.out⟩
      have h60z : ¬ (60 : Int) < (X.size : Int) := by omega
      have hjt := joinT_take ls i X hX
      have HJT := Lib.hid hjt
      have HX := Lib.hid hX
      have htk : ls.take (i + 1) = ls.take i ++ [X] := by rw [List.take_add_one, hX]; rfl
      have HTK := Lib.hid htk
      clear hX hjt htk hcl
      go_upto_region 12 with fail
      go_loopg [8] (X.size + 1) (fun gg s8 wx => wr = wx ∧ ∃ q : Nat, q ≤ X.size ∧ X.size - q < gg ∧ s8 = .int .i64 q ∧ Hid (∀ j (hj : j < X.size), j < q → X[j]'hj ≠ 10))
      case atStart => exact ⟨rfl, 0, Nat.zero_le _, by omega, rfl, (show Hid _ from fun j hj h => absurd h (Nat.not_lt_zero _))⟩
      case round =>
        obtain ⟨rfl, q, hq, hgq, rfl, HQ⟩ := hrel
        have hq0 : (0 : Int) ≤ (q : Int) := by omega
        by_cases hltq : q < X.size
        · have hltqz : (q : Int) < (X.size : Int) := by omega
          by_cases h10 : X[q]'hltq = 10
          · have h10z : (((X[q]'hltq).toNat : Nat) : Int) = 10 := by rw [h10]; rfl
            clear h10
            go_wp2
            go_ret
            exact ⟨rfl, HB.out⟩
          · have h10z : ¬ (((X[q]'hltq).toNat : Nat) : Int) = 10 := ne_int (d := 10) h10
            have h10b : ((((X[q]'hltq).toNat : Nat) : Int) == 10) = false := by simpa using h10z
            have HQ2 : Hid (∀ j (hj : j < X.size), j < q + 1 → X[j]'hj ≠ 10) := fun j hj h => by
              by_cases e : j = q
              · subst e; exact h10
              · exact HQ.out j hj (by omega)
            clear h10
            go_wp2
            go_roundg (X.size - q)
            case measure => omega
            case rel => exact ⟨rfl, q + 1, by omega, by omega, by go_num, HQ2⟩
        · obtain rfl : q = X.size := by omega
          have hno := no10_size (fun j hj => HQ.out j hj hj)
          have hrr := fun W => rread3_any X (by omega) W
          rw [show listAns X.data.toList = ansB X from rfl] at hrr
          have hcd := listAns_code (l := X.data.toList)
          rw [show listAns X.data.toList = ansB X from rfl] at hcd
          have hwok : ∀ wrong', WantR (ls.take i) wn 0 wrong' → okP X = true → _ := fun wrong' h1 h2 => wantR_ok (x := X) h1 h2
          have hwbad : ∀ wrong', WantR (ls.take i) wn 0 wrong' → okP X = false → _ := fun wrong' h1 h2 => wantR_bad (x := X) h1 h2
          have hwpast : ∀ bad' wrong', WantR (ls.take i) wn bad' wrong' → 0 < bad' → _ := fun bad' wrong' h1 h2 => wantR_past X h1 h2
          have hok : okP X = ((ansB X).2 == 0 || (ansB X).2 == 4) := rfl
          obtain ⟨⟨⟨c, jt, jf, kk⟩, er⟩, hans⟩ : ∃ y, ansB X = y := ⟨_, rfl⟩
          rw [hans] at hrr hcd hok hwok hwbad
          have HRR := Lib.hid hrr
          have HOK := Lib.hid hok
          have HWOK := Lib.hid hwok
          have HWBAD := Lib.hid hwbad
          have HWPAST := Lib.hid hwpast
          have HNO2 : Hid (∀ x ∈ ls.take (i + 1), (10 : UInt8) ∉ x.data.toList) := by
            show ∀ x ∈ ls.take (i + 1), _
            rw [HTK.out]
            intro x hx
            rcases List.mem_append.1 hx with hx | hx
            · exact HNO.out x hx
            · rw [List.mem_singleton.1 hx]; exact hno
          obtain ⟨T2, hT2⟩ : ∃ T2 : ByteArray, T ++ (X ++ ⟨#[10]⟩) = T2 := ⟨_, rfl⟩
          have HTL2 : Hid (T2.data.toList = joinT (ls.take (i + 1))) := by
            show _ = _
            rw [← hT2, HJT.out, ← HTL.out, list_app, list_app]
          have hT2s : T2.size ≤ 61 * (i + 1) := by
            rw [← hT2, ByteArray.size_append, ByteArray.size_append, show (⟨#[10]⟩ : ByteArray).size = 1 from rfl]
            omega
          have q1 : X.size + (⟨#[10]⟩ : ByteArray).size ≤ 1000000 := by rw [show (⟨#[10]⟩ : ByteArray).size = 1 from rfl]; omega
          have q2 : T.size + (X ++ ⟨#[10]⟩ : ByteArray).size ≤ 1000000 := by rw [ByteArray.size_append, show (⟨#[10]⟩ : ByteArray).size = 1 from rfl]; omega
          have hlen : Hid ((ls.take i).length = i) := by show _ = _; rw [List.length_take, HN.out]; omega
          have hcs : er = 0 ∨ er = 4 ∨ er = 13 := hcd
          clear hno hrr hcd hok hwok hwbad hwpast hans HQ
          go_wp2_with fail
          refine (HRR.out _).mono ?_
          rintro e w2 ⟨he, hb2⟩
          obtain rfl : e = .returned (.tuple #[.agg #[.int .u16 (c : Int), .int .u8 (jt : Int), .int .u8 (jf : Int), .int .u32 (kk : Int)], .int .i64 (er : Int)]) := he
          have HB2' := belB HB hb2
          have HA2 := Lib.hid (Blk.new w2 29 #[.int .u16 (c : Int), .int .u8 (jt : Int), .int .u8 (jf : Int), .int .u32 (kk : Int)])
          have HB2 := Lib.hid (HB2'.out.alloc HB2'.out.size (.cells #[.int .u16 (c : Int), .int .u8 (jt : Int), .int .u8 (jf : Int), .int .u32 (kk : Int)] 29))
          have HO2 := Lib.hid (ownsRow_belowP (ownsRow_belowP HO.out hb2) ((Below.refl _ w2).alloc (Nat.le_refl _) (.cells #[.int .u16 (c : Int), .int .u8 (jt : Int), .int .u8 (jf : Int), .int .u32 (kk : Int)] 29)))
          clear hb2 HB HO HB2' d0 HRR
          go_upto_region 18 with fail
          clear hT2 q1 q2
          generalize w2.alloc (.cells #[.int .u16 (c : Int), .int .u8 (jt : Int), .int .u8 (jf : Int), .int .u32 (kk : Int)] 29) = W0 at *
          generalize w2.heap.size = B8 at *
          have c0 := HA2.out.cell 0
          have c1 := HA2.out.cell 1
          have c2 := HA2.out.cell 2
          have c3 := HA2.out.cell 3
          simp only [List.getElem?_toArray, List.getElem?_cons_zero, List.getElem?_cons_succ] at c0 c1 c2 c3
          obtain ⟨ez, hez⟩ : ∃ ez : Int, (er : Int) = ez := ⟨_, rfl⟩
          rw [hez]
          have hib : (i : Int) + 1 ≤ 31 := by omega
          by_cases hb0 : bad = 0
          · subst hb0
            have hw0 := HW.out
            rcases hcs with rfl | rfl | rfl
            · obtain rfl : ez = 0 := hez.symm
              clear hez
              have HWN : Hid (WantR (ls.take (i + 1)) (wn ++ [(c, jt, jf, kk)]) 0 wrong) := by
                show WantR _ _ _ _
                rw [HTK.out]
                exact HWOK.out wrong hw0 HOK.out
              have hfl : Hid (flatI (wn ++ [(c, jt, jf, kk)]) = flatI wn ++ [.int .u16 (c : Int), .int .u8 (jt : Int), .int .u8 (jf : Int), .int .u32 (kk : Int)]) := flatI_snoc _ _
              have HMN : Hid ((wn ++ [(c, jt, jf, kk)]).length = m + 1) := by show _ = _; rw [List.length_append, HM.out]; rfl
              have HO3 := Lib.hid (ownsRow_belowP HO2.out ((Below.refl _ W0).alloc (Nat.le_refl _) (.cells #[.int .u16 (c : Int), .int .u8 (jt : Int), .int .u8 (jf : Int), .int .u32 (kk : Int)] 29)))
              have HB3 := Lib.hid (HB2.out.alloc HB2.out.size (.cells #[.int .u16 (c : Int), .int .u8 (jt : Int), .int .u8 (jf : Int), .int .u32 (kk : Int)] 29))
              clear hw0 HWOK HWBAD HWPAST HOK HTL HW HM HO2
              go_wp2_with (at_builtin; refine wpList_append_own _ rfl _ _ 36 rfl w.heap.size 29 i0 (.agg #[.int .u16 0, .int .u8 0, .int .u8 0, .int .u32 0]) 4 8 Tryz.underlying36 hi0 hz0 hz1 hz2 rfl (by decide) _ m _ rfl HO3.out ⟨W0.heap.size, 0, none⟩ 1 1 [.int .u16 (c : Int), .int .u8 (jt : Int), .int .u8 (jf : Int), .int .u32 (kk : Int)] rfl ?c1 ?c2 ?c3 ?c4 ?c5 ?c6 ?_; (case c1 => rfl); (case c2 => exact cells_newF W0 [.int .u16 (c : Int), .int .u8 (jt : Int), .int .u8 (jf : Int), .int .u32 (kk : Int)] 29); (case c3 => simp [Value.oneCell']); (case c4 => unfold maxLen; omega); (case c5 => omega); (case c6 => exact HB3.out.size); intro v' w6 hown' hgrow _; obtain ⟨g', cap', rfl⟩ := ownsRow_succ hown')
              go_roundw
              case rel => exact ⟨i + 1, 0, wrong, m + 1, T2, _, by omega, by go_num, rfl, rfl, rfl, by omega, by omega, by omega, HTL2, HWN, HMN, by show World.ownsRow _ _ _ _ _ _ _; rw [hfl.out]; exact hown', HB3.out.grown hgrow HB3.out.size (fun k e => (HO3.out.lt k e).1), HNO2⟩
              case measure => simp [intOf]; omega
            · obtain rfl : ez = 4 := hez.symm
              clear hez
              have HWN : Hid (WantR (ls.take (i + 1)) wn 0 wrong) := by
                show WantR _ _ _ _
                rw [HTK.out]
                have h := HWOK.out wrong hw0 HOK.out
                simp at h
                exact h
              clear hw0 HWOK HWBAD HWPAST HOK HTL HW
              go_wp2
              go_roundw
              case rel => exact ⟨i + 1, 0, wrong, m, T2, wn, by omega, by go_num, rfl, rfl, rfl, by omega, by omega, by omega, HTL2, HWN, HM, HO2, HB2, HNO2⟩
              case measure => simp [intOf]; omega
            · obtain rfl : ez = 13 := hez.symm
              clear hez
              have HWN : Hid (WantR (ls.take (i + 1)) wn (i + 1) 13) := by
                show WantR _ _ _ _
                rw [HTK.out]
                have h := HWBAD.out wrong hw0 HOK.out
                rw [hlen.out] at h
                exact h
              clear hw0 HWOK HWBAD HWPAST HOK HTL HW
              go_wp2
              go_roundw
              case rel => exact ⟨i + 1, i + 1, 13, m, T2, wn, by omega, by go_num, rfl, by go_num, rfl, by omega, by omega, by omega, HTL2, HWN, HM, HO2, HB2, HNO2⟩
              case measure => simp [intOf]; omega
          · have hbz2 : ¬ (bad : Int) = 0 := by omega
            have hbb : ((bad : Int) == 0) = false := by simpa using hbz2
            have HWN : Hid (WantR (ls.take (i + 1)) wn bad wrong) := by
              show WantR _ _ _ _
              rw [HTK.out]
              exact HWPAST.out bad wrong HW.out (by omega)
            clear HWOK HWBAD HWPAST HOK HTL HW hb0
            rcases hcs with rfl | rfl | rfl
            · obtain rfl : ez = 0 := hez.symm
              clear hez
              go_wp2
              go_roundw
              case rel => exact ⟨i + 1, bad, wrong, m, T2, wn, by omega, by go_num, rfl, rfl, rfl, by omega, by omega, by omega, HTL2, HWN, HM, HO2, HB2, HNO2⟩
              case measure => simp [intOf]; omega
            · obtain rfl : ez = 4 := hez.symm
              clear hez
              go_wp2
              go_roundw
              case rel => exact ⟨i + 1, bad, wrong, m, T2, wn, by omega, by go_num, rfl, rfl, rfl, by omega, by omega, by omega, HTL2, HWN, HM, HO2, HB2, HNO2⟩
              case measure => simp [intOf]; omega
            · obtain rfl : ez = 13 := hez.symm
              clear hez
              go_wp2
              go_roundw
              case rel => exact ⟨i + 1, bad, wrong, m, T2, wn, by omega, by go_num, rfl, rfl, rfl, by omega, by omega, by omega, HTL2, HWN, HM, HO2, HB2, HNO2⟩
              case measure => simp [intOf]; omega
    · obtain rfl : i = n := by omega
      have hall : ls.take i = ls := List.take_of_length_le (by rw [HN.out]; exact Nat.le_refl _)
      have hTL := HTL.out
      have hW := HW.out
      have hNO := HNO.out
      rw [hall] at hTL hW hNO
      have hpa := wantR_prog hW hTL (by omega) hNO
      have hpr := fun W hW => program_any T W hW
      clear hall hTL hW hNO HTL HW HNO
      rcases hpa with ⟨rfl, hpa⟩ | ⟨hb0, hpa⟩
      · rw [hpa, HM.out] at hpr
        dsimp only at hpr
        have HPR := Lib.hid hpr
        clear hpa hpr
        go_wp2_with fail
        refine (HPR.out _ (HT.out.below HB.out)).mono ?_
        rintro e w3 ⟨v3, rfl, ho3, hb3⟩
        have HB3 := belB HB hb3
        have ho4 := ownsRow_belowP HO.out hb3
        rw [← HM.out] at ho3 ho4
        have hv3 := InssV.own ho3
        have hv4 := InssV.ownR ho4
        obtain ⟨a3, cp3, rfl, _⟩ := id hv3
        obtain ⟨a4, cp4, hs4, _⟩ := id hv4
        subst hs4
        rw [HM.out] at hv3 hv4 ⊢
        have HV3 := Lib.hid hv3
        have HV4 := Lib.hid hv4
        clear ho3 ho4 hb3 HPR hv3 hv4 HB HO
        go_upto_region 28 with fail
        go_loopw [14] (fun s14 wr => ∃ j : Nat, j ≤ m ∧ s14 = .int .i64 j ∧ Hid (Below w3.heap.size w3 wr)) (fun s14 _ => m - (intOf s14).toNat)
        case atStart => exact ⟨0, Nat.zero_le _, rfl, Below.refl _ _⟩
        case round =>
          obtain ⟨j, hj, rfl, HBw⟩ := hrel
          have hj0 : (0 : Int) ≤ (j : Int) := by omega
          by_cases hltj : j < m
          · have hltz : (j : Int) < (m : Int) := by omega
            obtain ⟨x, hx⟩ : ∃ x, wn[j]? = some x := ⟨_, List.getElem?_eq_getElem (by rw [HM.out]; exact hltj)⟩
            obtain ⟨b, off, rfl, hcl⟩ := HV4.out.at hx
            obtain ⟨b3, off3, rfl, hcl3⟩ := HV3.out.at hx
            obtain ⟨c, jt, jf, kk⟩ := x
            have c0 := lcell HBw.out (hcl3 0 _ rfl)
            have c1 := lcell HBw.out (hcl3 1 _ rfl)
            have c2 := lcell HBw.out (hcl3 2 _ rfl)
            have c3 := lcell HBw.out (hcl3 3 _ rfl)
            have d0 := lcell HBw.out (hcl 0 _ rfl)
            have d1 := lcell HBw.out (hcl 1 _ rfl)
            have d2 := lcell HBw.out (hcl 2 _ rfl)
            have d3 := lcell HBw.out (hcl 3 _ rfl)
            simp only [Nat.add_zero] at c0 d0
            clear hcl hcl3 hx
            go_upto_region 30 with fail
            obtain ⟨W0, hW0⟩ : ∃ W0, W0 = wr := ⟨_, rfl⟩
            subst hW0
            go_region_held3 (fun w' => w'.cell? ⟨b3, off3 + j * 4, none⟩ = some (.int .u16 (c : Int)) ∧ w'.cell? ⟨b3, off3 + j * 4 + 1, none⟩ = some (.int .u8 (jt : Int)) ∧ w'.cell? ⟨b3, off3 + j * 4 + 2, none⟩ = some (.int .u8 (jf : Int)) ∧ w'.cell? ⟨b3, off3 + j * 4 + 3, none⟩ = some (.int .u32 (kk : Int)) ∧ w'.cell? ⟨b, off + j * 4, none⟩ = some (.int .u16 (c : Int)) ∧ w'.cell? ⟨b, off + j * 4 + 1, none⟩ = some (.int .u8 (jt : Int)) ∧ w'.cell? ⟨b, off + j * 4 + 2, none⟩ = some (.int .u8 (jf : Int)) ∧ w'.cell? ⟨b, off + j * 4 + 3, none⟩ = some (.int .u32 (kk : Int)) ∧ Below W0.heap.size W0 w') (first | exact ⟨c0, c1, c2, c3, d0, d1, d2, d3, (Below.refl _ W0).drew⟩ | exact keepL8 (by assumption) hbx | go_keep) (first | (go_at_call 9; refine (of3_any _ _ _ _ _).mono ?_; rintro e wx ⟨rfl, hbx⟩))
            have hfin : Below W0.heap.size W0 wx := (show wx.cell? ⟨b3, off3 + j * 4, none⟩ = some (.int .u16 (c : Int)) ∧ wx.cell? ⟨b3, off3 + j * 4 + 1, none⟩ = some (.int .u8 (jt : Int)) ∧ wx.cell? ⟨b3, off3 + j * 4 + 2, none⟩ = some (.int .u8 (jf : Int)) ∧ wx.cell? ⟨b3, off3 + j * 4 + 3, none⟩ = some (.int .u32 (kk : Int)) ∧ wx.cell? ⟨b, off + j * 4, none⟩ = some (.int .u16 (c : Int)) ∧ wx.cell? ⟨b, off + j * 4 + 1, none⟩ = some (.int .u8 (jt : Int)) ∧ wx.cell? ⟨b, off + j * 4 + 2, none⟩ = some (.int .u8 (jf : Int)) ∧ wx.cell? ⟨b, off + j * 4 + 3, none⟩ = some (.int .u32 (kk : Int)) ∧ Below W0.heap.size W0 wx by assumption).2.2.2.2.2.2.2.2
            have HBX : Hid (Below w3.heap.size w3 wx) := HBw.out.trans (hfin.mono HBw.out.size)
            clear hfin
            go_wp2
            go_roundw
            case rel => exact ⟨j + 1, by omega, by go_num, HBX⟩
            case measure => simp [intOf]; omega
          · obtain rfl : j = m := by omega
            have HBW := Lib.hid (HB3.out.trans (HBw.out.mono HB3.out.size))
            go_wp2_with fail
            refine (awake03_any _ (HT.out.below HBW.out) (HP.out.below HBW.out)).mono ?_
            rintro e w5 ⟨rfl, hb5⟩
            go_wp2
            go_ret
            exact ⟨rfl, HBW.out.trans (hb5.mono HBW.out.size)⟩
      · rw [hpa] at hpr
        dsimp only [List.length_nil] at hpr
        have HPR := Lib.hid hpr
        have hb0z : (0 : Int) < (bad : Int) := by omega
        clear hpa hpr
        go_wp2_with fail
        refine (HPR.out _ (HT.out.below HB.out)).mono ?_
        rintro e w3 ⟨v3, rfl, ho3, hb3⟩
        have HB3 := belB HB hb3
        obtain ⟨a3, c3, rfl⟩ := rowNil3 ho3
        clear ho3 hb3 HPR HB HO
        go_wp2_with (go_at_call 10; refine (awake03_any _ (HT.out.below HB3.out) (HP.out.below HB3.out)).mono ?_; rintro e w5 ⟨rfl, hb5⟩)
        go_ret
        exact ⟨rfl, HB3.out.trans (hb5.mono HB3.out.size)⟩
end Go.Proofs.YtokehnclakedeaaGreatDoor
