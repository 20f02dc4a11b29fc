/- strainerlaw14.PolicyMore: the walk. -/
import Derived.Test.YtmjipkdejggbfaaGreatDoorQPolMoreP
import Derived.Test.YtmjipkdejggbfaaGreatDoorQPolOpen
namespace Go.Proofs.YtmjipkdejggbfaaGreatDoor
open Go Go.Proofs Go.RowKit Go.Deep

theorem wp_buildZ {P : Program} {o : Oper} {a : Act} (w : World) {K : Act → World → Prop} {Q : Exit → Act → World → Prop} (t : TypeId) {e : TypeId} {ie : TypeInfo} {sz : Nat} (ho : o.op = .buildSlice t 0 #[]) (hu : P.underlying t = some (.slice e)) (hie : P.info? e = some ie) (hs : ie.size = sz)
    (h : K (a.put o.dst (.slice (some ⟨w.heap.size, 0, none⟩) 0 0)) (w.alloc (.cells #[] e))) : o.wp P a w K Q := by
  have hr : (Instr.buildSlice t 0 #[]).run P w = .ok (.slice (some ⟨w.heap.size, 0, none⟩) 0 0) (w.alloc (.cells #[] e)) := by
    have hz : Array.range 0 = #[] := by simp [Array.range]
    simp [Instr.buildSlice, run_underlying hu, sizeOf, typeInfo, hie, Instr.fill, newRow, hz]
  unfold Oper.wp execOp
  simp only [ho, Sem.run_bind, List.map_toArray, List.map_nil, hr, Result.andThen_ok]
  exact h
theorem own_slice {W : World} {B e s n m : Nat} {v : Value} {xs : List Value} (h : W.ownsRow B e s v n xs) (hm : n = m) : ∃ a c, v = .slice a m c := by
  subst hm
  rcases h.2 with ⟨rfl, rfl⟩ | ⟨g, c, _, rfl, _⟩
  · exact ⟨_, _, rfl⟩
  · exact ⟨_, _, rfl⟩
/-- What Print tells of a light policy. -/
theorem print_form {p : PSt} (hl : LightP p.rules) (hn : PolN p) : ∃ (T : ByteArray) (F : Int), printV p = .tuple #[.string T, .int .i64 F] ∧ (F ≠ 0 ∨ (F = 0 ∧ polOk p = true ∧ T = ⟨(polTx p).toArray⟩)) := by
  cases hok : polOk p with
  | false => exact ⟨_, _, printV_bad hok, .inl (by decide)⟩
  | true => exact ⟨_, _, printV_ok hok (by have := light_fits hl hok hn; omega), .inr ⟨rfl, rfl, rfl⟩⟩
theorem ofL_any {k n : Int} {x : Bool} {rs : List PRule} {vr : Value} {N0 L : Nat} (hl : LightP rs) (hL : rs.length = L) (w : World) (hN0 : N0 ≤ w.heap.size) (hR : RulesI N0 w vr rs) :
    Calls Tryz.prog 14 #[.agg #[.int .i64 k, .int .i64 n, .bool x, vr]] w fun e w' => ∃ a c, e = .returned (.agg #[.int .i64 k, .int .i64 n, .bool x, .slice a L c]) ∧ RulesR TRl TCd w.heap.size w' (.slice a L c) rs ∧ Below w.heap.size w w' := by
  refine (ofI_any (k := k) (n := n) (x := x) hl.few.1 hl.few.2 w hN0 hR).mono ?_
  rintro e w' ⟨vo, rfl, hr, hb'⟩
  obtain ⟨a, c, rfl⟩ := hr.slice
  rw [← hL]
  exact ⟨a, c, rfl, hr, hb'⟩
theorem printL_any {k n : Int} {x : Bool} {rs : List PRule} {a : Option Addr} {c L lo : Nat} {V : Value} (hl : LightP rs) (hn : PolN ⟨k, n, x, rs⟩) (hL : rs.length = L) (hV : printV ⟨k, n, x, rs⟩ = V) (w : World) (hp : ActP.Pow10 w) (h : RulesR TRl TCd lo w (.slice a L c) rs) :
    Calls Tryz.prog 16 #[.agg #[.int .i64 k, .int .i64 n, .bool x, .slice a L c]] w fun e w' => e = .returned V ∧ Below w.heap.size w w' := by
  subst hL hV
  exact printI_any (p := ⟨k, n, x, rs⟩) hl hn w hp h
theorem toldFew_any {k n : Int} {x : Bool} {rs : List PRule} {a1 : Option Addr} {c1 lo N0 L : Nat} {v : Value} (h1 : rs.length ≤ 500) (h2 : ∀ r ∈ rs, r.conds.length ≤ 1000000) (hL : rs.length = L) (w : World) (hN0 : N0 ≤ w.heap.size) (hr : RulesR TRl TCd lo w (.slice a1 L c1) rs) (hi : RulesI N0 w v rs) :
    Calls Tryz.prog 11 #[.agg #[.int .i64 k, .int .i64 n, .bool x, .slice a1 L c1], .agg #[.int .i64 k, .int .i64 n, .bool x, v]] w fun e w' => e = .returned (.bool true) ∧ Below w.heap.size w w' := by
  subst hL
  refine (told14_whole (p := ⟨k, n, x, rs⟩) (s := ⟨k, n, x, rs⟩) h1 h2 w hN0 hr hi).mono ?_
  rintro e w' ⟨b, rfl, hb, hbe⟩
  rw [hb.2 rfl]
  exact ⟨rfl, hbe⟩
set_option maxRecDepth 100000 in
set_option maxHeartbeats 16000000 in
/-- The ways on which nothing is printed. -/
theorem polmore_dark {p q : PSt} {v1 v2 : Value} (w : World) (h1 : RulesI w.heap.size w v1 p.rules) (h2 : RulesI w.heap.size w v2 q.rules) (hd : ¬ (LightP p.rules ∧ LightP q.rules ∧ q.rules ≠ [])) :
    Calls Tryz.prog 7 #[PolV p.k p.n p.x v1, PolV q.k q.n q.x v2] w fun e w' => e = .returned (.bool true) ∧ Below w.heap.size w w' := by
  obtain ⟨k, n, x, rs⟩ := p
  obtain ⟨k2, n2, x2, ss⟩ := q
  dsimp only at *
  obtain ⟨a1, c1, rfl, _⟩ := id h1
  obtain ⟨a2, c2, rfl, _⟩ := id h2
  unfold PolV
  have HX := Lib.hid ((Blk.new w TPr #[.int .i64 k, .int .i64 n, .bool x, .slice a1 rs.length c1]).alloc (.cells #[.int .i64 k2, .int .i64 n2, .bool x2, .slice a2 ss.length c2] TPr))
  have hb : Below w.heap.size w ((w.alloc (.cells #[.int .i64 k, .int .i64 n, .bool x, .slice a1 rs.length c1] TPr)).alloc (.cells #[.int .i64 k2, .int .i64 n2, .bool x2, .slice a2 ss.length c2] TPr)) := ((Below.refl w.heap.size w).alloc (Nat.le_refl _) _).alloc (by simp) _
  have hy := Blk.new (w.alloc (.cells #[.int .i64 k, .int .i64 n, .bool x, .slice a1 rs.length c1] TPr)) TPr #[.int .i64 k2, .int .i64 n2, .bool x2, .slice a2 ss.length c2]
  simp only [World.size_alloc] at hy
  have HY := Lib.hid hy
  have HLA := Lib.hid (fun W (hb : Below w.heap.size w W) => light_any (k := k) (n := n) (x := x) W hb.size (h1.below hb (Nat.le_refl _)))
  have HLB := Lib.hid (fun W (hb : Below w.heap.size w W) => light_any (k := k2) (n := n2) (x := x2) W hb.size (h2.below hb (Nat.le_refl _)))
  unfold PolV at HLA HLB
  have HD : Hid (LightP rs → LightP ss → ss.length = 0) := fun e1 e2 => by
    by_cases h : ss = []
    · rw [h]; rfl
    · exact absurd ⟨e1, e2, h⟩ hd
  have HB := Lib.hid hb
  generalize rs.length = L1 at *
  generalize ss.length = L2 at *
  clear h1 h2 hb hd hy
  go_enter Tryz.func7, Tryz.ntmps7
  go_wp2_with fail
  refine (HLA.out _ HB.out).mono ?_
  rintro e w1 ⟨b1, rfl, hb1, hc1⟩
  have HB1 := belP HB hc1
  have HBI := Lib.hid hb1
  clear hb1
  cases b1 with
  | false =>
    clear hc1
    go_wp2
    go_ret
    exact ⟨rfl, HB1.out⟩
  | true =>
    have HY1 := blkHP HY hc1
    have y0 := HY1.out.cell 0
    have y1 := HY1.out.cell 1
    have y2 := HY1.out.cell 2
    have y3 := HY1.out.cell 3
    simp only [List.getElem?_toArray, List.getElem?_cons_zero, List.getElem?_cons_succ] at y0 y1 y2 y3
    clear hc1
    go_wp2_with fail
    refine (HLB.out _ HB1.out).mono ?_
    rintro e w2 ⟨b2, rfl, hb2, hc2⟩
    have HB2 := belP HB1 hc2
    cases b2 with
    | false =>
      clear hb2 hc2 y0 y1 y2 y3
      go_wp2
      go_ret
      exact ⟨rfl, HB2.out⟩
    | true =>
      obtain rfl : L2 = 0 := HD.out (HBI.out.1 (by trivial)) (hb2.1 (by trivial))
      have HY2 := blkHP HY1 hc2
      have t3 := HY2.out.cell 3
      simp only [List.getElem?_toArray, List.getElem?_cons_zero, List.getElem?_cons_succ] at t3
      clear hb2 hc2 y0 y1 y2 y3
      go_wp2
      go_ret
      exact ⟨rfl, HB2.out⟩
set_option maxRecDepth 100000 in
set_option maxHeartbeats 32000000 in
theorem polmore_light {p q : PSt} {pa a2 : Option Addr} {pc qc : Nat} (w : World) (hE : CondP.ErrV w) (hp : ActP.Pow10 w) (h1 : RulesI w.heap.size w (.slice pa p.rules.length pc) p.rules) (h2 : RulesI w.heap.size w (.slice a2 q.rules.length qc) q.rules) (f1 : SForm pa p.rules.length pc) (f2 : q.rules.length ≤ qc) (n1 : PolN p) (n2 : PolN q)
    (l1 : LightP p.rules) (l2 : LightP q.rules) (hne : q.rules ≠ []) :
    Calls Tryz.prog 7 #[PolV p.k p.n p.x (.slice pa p.rules.length pc), PolV q.k q.n q.x (.slice a2 q.rules.length qc)] w fun e w' => e = .returned (.bool true) ∧ Below w.heap.size w w' := by
  obtain ⟨k, n, x, rs⟩ := p
  obtain ⟨k2, m2, x2, ss⟩ := q
  dsimp only at *
  cases ss with
  | nil => exact absurd rfl hne
  | cons q0 ss' =>
  obtain ⟨LQ, hLQ⟩ : ∃ LQ, (q0 :: ss').length = LQ := ⟨_, rfl⟩
  have hq1 : 1 ≤ LQ := by rw [← hLQ]; simp
  have hq2 : 1 ≤ qc := by rw [hLQ] at f2; omega
  -- the first rule of q
  obtain ⟨a', c', e0, hat⟩ := id h2
  obtain ⟨rfl, _, rfl⟩ := Value.slice.inj e0
  obtain ⟨qg, qo, qu, quc, rfl, hqg, q0c, q1c, q2c, q3c, hqc⟩ := hat 0 q0 rfl
  clear hat e0
  simp only [Nat.zero_mul, Nat.add_zero] at q0c q1c q2c q3c
  have lO : LightP [q0] := ⟨by simp, fun r hr => by rcases List.mem_singleton.1 hr with rfl; exact l2.2 _ (by simp)⟩
  have lH : LightP [] := ⟨by simp, fun r hr => by cases hr⟩
  have nO : PolN ⟨k, n, x, [q0]⟩ := fun r hr => by rcases List.mem_singleton.1 hr with rfl; exact n2 _ (by simp)
  have nH : PolN ⟨k, n, x, []⟩ := fun r hr => by cases hr
  have hO : RulesI w.heap.size w (.slice (some ⟨qg, qo, none⟩) 1 qc) [q0] := ⟨_, _, rfl, fun i r hr => by
    match i, hr with
    | 0, hr =>
      obtain rfl := Option.some.inj hr
      exact ⟨qg, qo, qu, quc, rfl, hqg, by simpa using q0c, by simpa using q1c, by simpa using q2c, by simpa using q3c, hqc⟩
    | i + 1, hr => simp at hr⟩
  have hH : RulesI w.heap.size w (.slice none 0 0) [] := ⟨none, 0, rfl, fun i r hr => by simp at hr⟩
  obtain ⟨us, hus, hnw⟩ := h1.us
  obtain ⟨LP, hLP⟩ : ∃ LP, rs.length = LP := ⟨_, rfl⟩
  rw [hLP] at h1 f1
  obtain ⟨T1, F1, hV1, g1⟩ := print_form (p := ⟨k, n, x, rs⟩) l1 n1
  obtain ⟨T2, F2, hV2, g2⟩ := print_form (p := ⟨k, n, x, [q0]⟩) lO nO
  obtain ⟨T3, F3, hV3, g3⟩ := print_form (p := ⟨k, n, x, []⟩) lH nH
  -- the contracts
  have HOF1 := Lib.hid (fun W (hb : Below w.heap.size w W) => ofL_any (k := k) (n := n) (x := x) (L := LP) l1 hLP W hb.size (h1.below hb (Nat.le_refl _)))
  have HOF2 := Lib.hid (fun W (hb : Below w.heap.size w W) => ofL_any (k := k) (n := n) (x := x) (L := 1) lO rfl W hb.size (hO.below hb (Nat.le_refl _)))
  have HOF3 := Lib.hid (fun W (hb : Below w.heap.size w W) => ofL_any (k := k) (n := n) (x := x) (L := 0) lH rfl W hb.size (hH.below hb (Nat.le_refl _)))
  have HPR1 := Lib.hid (fun (W : World) (a : Option Addr) (c lo : Nat) hW hR => printL_any (a := a) (c := c) (lo := lo) l1 n1 hLP hV1 W hW hR)
  have HPR2 := Lib.hid (fun (W : World) (a : Option Addr) (c lo : Nat) hW hR => printL_any (a := a) (c := c) (L := 1) (lo := lo) lO nO rfl hV2 W hW hR)
  have HPR3 := Lib.hid (fun (W : World) (a : Option Addr) (c lo : Nat) hW hR => printL_any (a := a) (c := c) (L := 0) (lo := lo) lH nH rfl hV3 W hW hR)
  have HLA := Lib.hid (fun W (hb : Below w.heap.size w W) => light_any (k := k) (n := n) (x := x) W hb.size (h1.below hb (Nat.le_refl _)))
  have HLB := Lib.hid (fun W (hb : Below w.heap.size w W) => light_any (k := k2) (n := m2) (x := x2) W hb.size (h2.below hb (Nat.le_refl _)))
  unfold PolV at HLA HLB
  have hRSl : (rs ++ [q0]).length = LP + 1 := by rw [List.length_append, hLP]; rfl
  have hRS1 : (rs ++ [q0]).length ≤ 500 := by have := l1.1; omega
  have hRS2 : ∀ r ∈ rs ++ [q0], r.conds.length ≤ 1000000 := fun r hr => by
    rcases List.mem_append.1 hr with hr | hr
    · exact l1.few.2 r hr
    · exact lO.few.2 r hr
  have HTD := Lib.hid (fun (W : World) (a1 : Option Addr) (c1 lo N0 : Nat) (v : Value) h0 hr hi => toldFew_any (k := k) (n := n) (x := x) (a1 := a1) (c1 := c1) (lo := lo) (N0 := N0) (v := v) hRS1 hRS2 hRSl W h0 hr hi)
  -- what the texts together say
  have HPP : Hid (F1 = 0 → F2 = 0 → F3 = 0 → T3.size ≤ T2.size ∧ T2.extract 0 T3.size = T3 ∧ T1.size + (T2.extract T3.size T2.size).size ≤ 1000000 ∧ T2.size ≤ 1000000 ∧ ∀ W, CondP.ErrV W → Calls Tryz.prog 9 #[.string (T1 ++ T2.extract T3.size T2.size)] W fun e w' => ∃ a c, e = .returned (.tuple #[.agg #[.int .i64 k, .int .i64 n, .bool x, .slice a (LP + 1) c], .int .i64 0, .int .i64 0]) ∧ RulesR TRl TCd W.heap.size w' (.slice a (LP + 1) c) (rs ++ [q0]) ∧ Below W.heap.size W w') := by
    intro e1 e2 e3
    obtain ⟨_, o1, rfl⟩ := g1.resolve_left (fun h => h e1)
    obtain ⟨_, o2, rfl⟩ := g2.resolve_left (fun h => h e2)
    obtain ⟨_, o3, rfl⟩ := g3.resolve_left (fun h => h e3)
    have t2 := one_text ⟨k, n, x, rs⟩ q0
    have t3 := none_text ⟨k, n, x, rs⟩
    dsimp only at t2 t3
    have okq : ruleOk q0 = true := (polOk_parts o2).2.2 q0 (by simp)
    have okp := plus_ok o1 okq l1.1
    have np : PolN (plusR ⟨k, n, x, rs⟩ q0) := fun r hr => by
      rcases List.mem_append.1 hr with hr | hr
      · exact n1 r hr
      · exact nO r hr
    have hlen := polTx_len okp np
    have hlen1 : (plusR ⟨k, n, x, rs⟩ q0).rules.length ≤ 41 := by show (rs ++ [q0]).length ≤ 41; have := l1.1; omega
    have ht := plus_text ⟨k, n, x, rs⟩ q0
    have hsz : (polTx ⟨k, n, x, rs⟩).length + (ruleTx q0).length ≤ 20000 := by
      rw [← List.length_append, ← ht]
      omega
    have hh : (headTx k n x).length ≤ 48 := headTx_len (polOk_parts o1).1 x
    have x1 : (⟨(polTx ⟨k, n, x, [q0]⟩).toArray⟩ : ByteArray).extract 0 (⟨(polTx ⟨k, n, x, []⟩).toArray⟩ : ByteArray).size = ⟨(polTx ⟨k, n, x, []⟩).toArray⟩ := by
      apply bytes_list
      rw [ByteArray.data_extract, Array.toList_extract, toS, t2, t3]
      simp [List.extract]
    have x2' : (⟨(polTx ⟨k, n, x, [q0]⟩).toArray⟩ : ByteArray).extract (⟨(polTx ⟨k, n, x, []⟩).toArray⟩ : ByteArray).size (⟨(polTx ⟨k, n, x, [q0]⟩).toArray⟩ : ByteArray).size = ⟨(ruleTx q0).toArray⟩ := by
      apply bytes_list
      rw [ByteArray.data_extract, Array.toList_extract, toS, toS, t2, t3]
      simp [List.extract]
    rw [x2', x1, toS, toS, toS, toS]
    refine ⟨by rw [t2, t3, List.length_append]; omega, rfl, by omega, by rw [t2, List.length_append]; omega, fun W hW => ?_⟩
    have hans : polAns (⟨(polTx ⟨k, n, x, rs⟩).toArray⟩ ++ ⟨(ruleTx q0).toArray⟩) = (plusR ⟨k, n, x, rs⟩ q0, 0, 0) := by
      refine polAns_text okp np (by omega) ?_
      rw [list_append, toL, toL, ht]
    have hpp := parse_any (⟨(polTx ⟨k, n, x, rs⟩).toArray⟩ ++ ⟨(ruleTx q0).toArray⟩) W hW
    rw [hans] at hpp
    refine hpp.mono ?_
    rintro e w' ⟨v, rfl, h, hb⟩
    have h : RulesR TRl TCd W.heap.size w' v (rs ++ [q0]) := h
    obtain ⟨a, c, rfl⟩ := h.slice
    rw [hRSl] at h ⊢
    exact ⟨a, c, rfl, h, hb⟩
  have HSF : Hid (SForm pa LP pc) := f1
  have HNL0 : Hid ((flatR rs us).length = LP * 4) := by rw [← hLP]; exact flatR_length rs us hus.1
  have HNW0 : Hid (∀ W, Below w.heap.size w W → ∀ ad, pa = some ad → ∀ j u, (flatR rs us)[j]? = some u → W.cell? (ad.add j) = some u) := fun W hb ad e j u hj => lcellP hb (hnw ad e j u hj)
  have HON0 : Hid (∀ u ∈ flatR rs us, u.oneCell' = true) := hus.one
  have HFIN0 : Hid (∀ (LO : Nat) (v2 : Value) (W2 : World), Below w.heap.size w W2 → W2.ownsRow LO TRr 4 v2 (0 + LP + 1) ([] ++ flatR rs us ++ [.string q0.name, .int .i64 q0.k, .int .i64 q0.n, .slice qu q0.conds.length quc]) → RulesI W2.heap.size W2 v2 (rs ++ [q0])) := fun LO v2 W2 hb ho => by
    refine RulesI.ofOwn (N := w.heap.size) (us := us ++ [.slice qu q0.conds.length quc]) (lo := LO) (t := TRr) ?_ ((hus.below hb (Nat.le_refl _)).snoc (hqc.below hb (Nat.le_refl _))) hb.size
    rw [hRSl, flatR_snoc rs us q0 _ hus.1]
    rw [Nat.zero_add, List.nil_append] at ho
    exact ho
  have HLPS : Hid (LP ≤ 40) := by have := l1.1; show _ ≤ _; omega
  have HAW := Lib.hid (fun W hW => awake14_any W hW)
  have HE := Lib.hid hE
  have HP := Lib.hid hp
  have HBL1 := Lib.hid l1
  have HBL2 := Lib.hid l2
  have HQC : Hid (∀ W, Below w.heap.size w W → W.cell? ⟨qg, qo, none⟩ = some (.string q0.name) ∧ W.cell? ⟨qg, qo + 1, none⟩ = some (.int .i64 q0.k) ∧ W.cell? ⟨qg, qo + 2, none⟩ = some (.int .i64 q0.n) ∧ W.cell? ⟨qg, qo + 3, none⟩ = some (.slice qu q0.conds.length quc)) := fun W hb => ⟨lcellP hb q0c, lcellP hb q1c, lcellP hb q2c, lcellP hb q3c⟩
  unfold PolV
  rw [hLP, hLQ]
  rw [hLQ] at HLB
  generalize hRS : rs ++ [q0] = RS at *
  generalize hNEWS : flatR rs us = NEWS at *
  generalize q0.name = qn at *
  generalize q0.k = qk at *
  generalize q0.n = qm at *
  generalize q0.conds.length = qcl at *
  have HX := Lib.hid ((Blk.new w TPr #[.int .i64 k, .int .i64 n, .bool x, .slice pa LP pc]).alloc (.cells #[.int .i64 k2, .int .i64 m2, .bool x2, .slice (some ⟨qg, qo, none⟩) LQ qc] TPr))
  have hb : Below w.heap.size w ((w.alloc (.cells #[.int .i64 k, .int .i64 n, .bool x, .slice pa LP pc] TPr)).alloc (.cells #[.int .i64 k2, .int .i64 m2, .bool x2, .slice (some ⟨qg, qo, none⟩) LQ qc] TPr)) := ((Below.refl w.heap.size w).alloc (Nat.le_refl _) _).alloc (by simp) _
  have hy := Blk.new (w.alloc (.cells #[.int .i64 k, .int .i64 n, .bool x, .slice pa LP pc] TPr)) TPr #[.int .i64 k2, .int .i64 m2, .bool x2, .slice (some ⟨qg, qo, none⟩) LQ qc]
  simp only [World.size_alloc] at hy
  have HY := Lib.hid hy
  have HB := Lib.hid hb
  have hLQ0 : ¬ (LQ : Int) = 0 := by omega
  have hLQ1 : ((LQ : Int) == 0) = false := by simpa using hLQ0
  have hLQ2 : (0 : Int) < (LQ : Int) := by omega
  have hqz : (1 : Int) ≤ (qc : Int) := by omega
  have hqz0 : ¬ qc = 0 := by omega
  have hLQn : 0 < LQ := by omega
  clear hb hy h1 h2 f1 f2 n1 n2 l1 l2 hne hq1 hq2 hqg q0c q1c q2c q3c hqc lO lH nO nH hO hH hus hnw g1 g2 g3 hRS1 hRS2 hE hp hLP hLQ hRSl hV1 hV2 hV3
  go_enter Tryz.func7, Tryz.ntmps7
  go_wp2_with fail
  refine (HLA.out _ HB.out).mono ?_
  rintro e wa ⟨b1, rfl, hb1, hc1⟩
  obtain rfl : b1 = true := hb1.2 HBL1.out
  have HB1 := belP HB hc1
  have HX1 := blkHP HX hc1
  have HY1 := blkHP HY hc1
  have y0 := HY1.out.cell 0
  have y1 := HY1.out.cell 1
  have y2 := HY1.out.cell 2
  have y3 := HY1.out.cell 3
  simp only [List.getElem?_toArray, List.getElem?_cons_zero, List.getElem?_cons_succ] at y0 y1 y2 y3
  clear hc1 hb1 HB HX HY HLA HBL1
  go_wp2_with fail
  refine (HLB.out _ HB1.out).mono ?_
  rintro e W0 ⟨b2, rfl, hb2, hc2⟩
  obtain rfl : b2 = true := hb2.2 HBL2.out
  have HB2 := belP HB1 hc2
  have HX2 := blkHP HX1 hc2
  have HY2 := blkHP HY1 hc2
  clear hc2 hb2 HB1 HX1 HY1 HLB HBL2 y0 y1 y2 y3
  have t3 := HY2.out.cell 3
  simp only [List.getElem?_toArray, List.getElem?_cons_zero, List.getElem?_cons_succ] at t3
  have hYB : w.heap.size + 1 < W0.heap.size := HY2.out.lt
  generalize w.heap.size + 1 = YB at *
  go_upto_region 3 with fail
  clear t3
  have SOK3 : Hid (∀ w', Below W0.heap.size W0 w' → (w'.cell? ⟨w.heap.size, 0, none⟩ = some (.int .i64 k) ∧ w'.cell? ⟨w.heap.size, 1, none⟩ = some (.int .i64 n) ∧ w'.cell? ⟨w.heap.size, 2, none⟩ = some (.bool x) ∧ w'.cell? ⟨YB, 3, none⟩ = some (.slice (some ⟨qg, qo, none⟩) LQ qc))) := fun w' hb => ⟨(HX2.out.below hb HX2.out.lt).cell 0, (HX2.out.below hb HX2.out.lt).cell 1, (HX2.out.below hb HX2.out.lt).cell 2, (HY2.out.below hb HY2.out.lt).cell 3⟩
  refine wp_region_noPanic ?_
  refine wp_region_held_drew (S := fun w' => w'.cell? ⟨w.heap.size, 0, none⟩ = some (.int .i64 k) ∧ w'.cell? ⟨w.heap.size, 1, none⟩ = some (.int .i64 n) ∧ w'.cell? ⟨w.heap.size, 2, none⟩ = some (.bool x) ∧ w'.cell? ⟨YB, 3, none⟩ = some (.slice (some ⟨qg, qo, none⟩) LQ qc)) (by kernel_rfl) (by first | exact SOK3.out _ (Below.refl _ W0).drew) (fun hHeld => ?_)
  refine wpAnyH_take (i := 0) (oi := { dst := some 30, op := Op.fieldAddr 33 (Operand.tmp 2) 0, type := 0, pos := "outright.go:90", after := #[], guard := none }) (v := ?vm0) rfl (by kernel_rfl) (by kernel_rfl) (by kernel_rfl) (fun _ _ _ h => h) (Or.inl ⟨by rfl, ?hym0⟩) (by assumption) ?restm0
  case hym0 =>
    intro w hSw
    try dsimp only at hSw
    try obtain ⟨hSw, hSw2⟩ := hSw
    try go_split_ands
    go_simp
    try with_reducible rfl
  try simp only [Act.put, List.setIfInBounds_toArray, List.set_cons_zero, List.set_cons_succ]
  refine wpAnyH_take (i := 1) (oi := { dst := some 31, op := Op.load 30 (Operand.tmp 30), type := 30, pos := "outright.go:90", after := #[{ on := 0, ground := Ground.data }], guard := none }) (v := ?vm1) rfl (by kernel_rfl) (by kernel_rfl) (by kernel_rfl) (fun _ _ _ h => h) (Or.inl ⟨by rfl, ?hym1⟩) (by assumption) ?restm1
  case hym1 =>
    intro w hSw
    try dsimp only at hSw
    try obtain ⟨hSw, hSw2⟩ := hSw
    try go_split_ands
    go_simp
    try with_reducible rfl
  try simp only [Act.put, List.setIfInBounds_toArray, List.set_cons_zero, List.set_cons_succ]
  refine wpAnyH_take (i := 2) (oi := { dst := some 32, op := Op.fieldAddr 33 (Operand.tmp 2) 1, type := 0, pos := "outright.go:90", after := #[], guard := none }) (v := ?vm2) rfl (by kernel_rfl) (by kernel_rfl) (by kernel_rfl) (fun _ _ _ h => h) (Or.inl ⟨by rfl, ?hym2⟩) (by assumption) ?restm2
  case hym2 =>
    intro w hSw
    try dsimp only at hSw
    try obtain ⟨hSw, hSw2⟩ := hSw
    try go_split_ands
    go_simp
    try with_reducible rfl
  try simp only [Act.put, List.setIfInBounds_toArray, List.set_cons_zero, List.set_cons_succ]
  refine wpAnyH_take (i := 3) (oi := { dst := some 33, op := Op.load 4 (Operand.tmp 32), type := 4, pos := "outright.go:90", after := #[{ on := 2, ground := Ground.data }], guard := none }) (v := ?vm3) rfl (by kernel_rfl) (by kernel_rfl) (by kernel_rfl) (fun _ _ _ h => h) (Or.inl ⟨by rfl, ?hym3⟩) (by assumption) ?restm3
  case hym3 =>
    intro w hSw
    try dsimp only at hSw
    try obtain ⟨hSw, hSw2⟩ := hSw
    try go_split_ands
    go_simp
    try with_reducible rfl
  try simp only [Act.put, List.setIfInBounds_toArray, List.set_cons_zero, List.set_cons_succ]
  refine wpAnyH_take (i := 4) (oi := { dst := some 34, op := Op.fieldAddr 33 (Operand.tmp 3) 2, type := 0, pos := "outright.go:90", after := #[], guard := none }) (v := ?vm4) rfl (by kernel_rfl) (by kernel_rfl) (by kernel_rfl) (fun _ _ _ h => h) (Or.inl ⟨by rfl, ?hym4⟩) (by assumption) ?restm4
  case hym4 =>
    intro w hSw
    try dsimp only at hSw
    try obtain ⟨hSw, hSw2⟩ := hSw
    try go_split_ands
    go_simp
    try with_reducible rfl
  try simp only [Act.put, List.setIfInBounds_toArray, List.set_cons_zero, List.set_cons_succ]
  refine wpAnyH_take (i := 5) (oi := { dst := some 35, op := Op.load 31 (Operand.tmp 34), type := 31, pos := "outright.go:90", after := #[{ on := 4, ground := Ground.data }], guard := none }) (v := ?vm5) rfl (by kernel_rfl) (by kernel_rfl) (by kernel_rfl) (fun _ _ _ h => h) (Or.inl ⟨by rfl, ?hym5⟩) (by assumption) ?restm5
  case hym5 =>
    intro w hSw
    try dsimp only at hSw
    try obtain ⟨hSw, hSw2⟩ := hSw
    try go_split_ands
    go_simp
    try with_reducible rfl
  try simp only [Act.put, List.setIfInBounds_toArray, List.set_cons_zero, List.set_cons_succ]
  refine wpAnyH_take (i := 6) (oi := { dst := some 36, op := Op.slice 31 (Operand.tmp 35) none (some (Operand.const (Value.int IntKind.i64 1))) none, type := 31, pos := "outright.go:90", after := #[{ on := 5, ground := Ground.data }], guard := none }) (v := (.slice (some ⟨qg, qo, none⟩) 1 qc)) rfl (by kernel_rfl) (by kernel_rfl) (by kernel_rfl) (fun _ _ _ h => h) (Or.inl ⟨by rfl, ?hym6⟩) (by assumption) ?restm6
  case hym6 =>
    intro w hSw
    try dsimp only at hSw
    try obtain ⟨hSw, hSw2⟩ := hSw
    try go_split_ands
    go_simp
    try with_reducible rfl
    try omega
  try simp only [Act.put, List.setIfInBounds_toArray, List.set_cons_zero, List.set_cons_succ]
  refine wpAnyH_take (i := 7) (oi := { dst := some 37, op := Op.build 33 #[(0, Operand.tmp 31), (1, Operand.tmp 33), (2, Operand.tmp 36)], type := 33, pos := "outright.go:90", after := #[{ on := 1, ground := Ground.data }, { on := 3, ground := Ground.data }, { on := 6, ground := Ground.data }], guard := none }) (v := ?vm7) rfl (by kernel_rfl) (by kernel_rfl) (by kernel_rfl) (fun _ _ _ h => h) (Or.inl ⟨by rfl, ?hym7⟩) (by assumption) ?restm7
  case hym7 =>
    intro w hSw
    try dsimp only at hSw
    try obtain ⟨hSw, hSw2⟩ := hSw
    try go_split_ands
    go_simp
    try with_reducible rfl
  try simp only [Act.put, List.setIfInBounds_toArray, List.set_cons_zero, List.set_cons_succ]
  have hm0 := Lib.hid ((Below.refl W0.heap.size W0).drew)
  clear hHeld
  generalize W0.drew = wm0 at *
  refine wpAnyH_ready (rs := [8]) (by kernel_rfl) (by simp) ?_
  refine AllReadyH.cons (o := { dst := some 5, op := Op.alloc 33, type := 0, pos := "outright.go:90", after := #[], guard := none }) rfl (fun K' hK => ?_) AllReadyH.nil
  have hm1 := Lib.hid (hm0.out.alloc hm0.out.size (.cells #[.int .i64 0, .int .i64 0, .bool false, .slice none 0 0] TPr))
  have fm1 := Lib.hid (Blk.new wm0 TPr #[.int .i64 0, .int .i64 0, .bool false, .slice none 0 0])
  have lz5 : W0.heap.size ≤ wm0.heap.size := hm0.out.size
  go_simp
  refine hK.out _ _ (SOK3.out _ hm1.out) (fun hHeld => ?_)
  clear hK K'
  try simp only [Act.put, List.setIfInBounds_toArray, List.set_cons_zero, List.set_cons_succ]
  clear hHeld hm0
  generalize wm0.alloc (.cells #[.int .i64 0, .int .i64 0, .bool false, .slice none 0 0] TPr) = wm1 at *
  generalize wm0.heap.size = B5 at *
  refine wpAnyH_ready (rs := [9]) (by kernel_rfl) (by simp) ?_
  refine AllReadyH.cons (o := { dst := none, op := Op.store 33 (Operand.tmp 5) (Operand.tmp 37), type := 0, pos := "outright.go:90", after := #[{ on := 8, ground := Ground.data }, { on := 7, ground := Ground.data }, { on := 0, ground := Ground.phase }, { on := 1, ground := Ground.phase }, { on := 2, ground := Ground.phase }, { on := 3, ground := Ground.phase }, { on := 4, ground := Ground.phase }, { on := 5, ground := Ground.phase }, { on := 6, ground := Ground.phase }, { on := 7, ground := Ground.phase }, { on := 8, ground := Ground.phase }], guard := none }) rfl (fun K' hK => ?_) AllReadyH.nil
  have z0 := fm1.out.frozen 0
  have z1 := fm1.out.frozen 1
  have z2 := fm1.out.frozen 2
  have z3 := fm1.out.frozen 3
  have y0 : wm1.cell? ⟨B5, 0, none⟩ = some (.int .i64 0) := fm1.out.cell 0
  have y1 : wm1.cell? ⟨B5, 1, none⟩ = some (.int .i64 0) := fm1.out.cell 1
  have y2 : wm1.cell? ⟨B5, 2, none⟩ = some (.bool false) := fm1.out.cell 2
  have y3 : wm1.cell? ⟨B5, 3, none⟩ = some (.slice none 0 0) := fm1.out.cell 3
  have HM : Hid (Below W0.heap.size W0 ((((wm1.setCell ⟨B5, 0, none⟩ (.int .i64 k)).setCell ⟨B5, 1, none⟩ (.int .i64 n)).setCell ⟨B5, 2, none⟩ (.bool x)).setCell ⟨B5, 3, none⟩ (.slice (some ⟨qg, qo, none⟩) 1 qc))) := ((((hm1.out.setCell (p := ⟨B5, 0, none⟩) lz5 _).setCell (p := ⟨B5, 1, none⟩) lz5 _).setCell (p := ⟨B5, 2, none⟩) lz5 _).setCell (p := ⟨B5, 3, none⟩) lz5 _)
  have HF5 : Hid (Blk ((((wm1.setCell ⟨B5, 0, none⟩ (.int .i64 k)).setCell ⟨B5, 1, none⟩ (.int .i64 n)).setCell ⟨B5, 2, none⟩ (.bool x)).setCell ⟨B5, 3, none⟩ (.slice (some ⟨qg, qo, none⟩) 1 qc)) B5 TPr #[.int .i64 k, .int .i64 n, .bool x, .slice (some ⟨qg, qo, none⟩) 1 qc]) := ((((fm1.out.set 0 (.int .i64 k)).set 1 (.int .i64 n)).set 2 (.bool x)).set 3 (.slice (some ⟨qg, qo, none⟩) 1 qc))
  go_simp
  refine hK.out _ _ (SOK3.out _ HM.out) (fun hHeld => ?_)
  clear hK K'
  try simp only [Act.put, List.setIfInBounds_toArray, List.set_cons_zero, List.set_cons_succ]
  clear hHeld z0 z1 z2 z3 y0 y1 y2 y3 hm1 fm1
  generalize ((((wm1.setCell ⟨B5, 0, none⟩ (.int .i64 k)).setCell ⟨B5, 1, none⟩ (.int .i64 n)).setCell ⟨B5, 2, none⟩ (.bool x)).setCell ⟨B5, 3, none⟩ (.slice (some ⟨qg, qo, none⟩) 1 qc)) = W1 at *
  refine wpAnyH_done (by kernel_rfl) ?_ _
  refine NoPanic.normal ?_
  have HB3 : Hid (Below w.heap.size w W1) := HB2.out.trans (HM.out.mono HB2.out.size)
  have HX3 := Lib.hid (HX2.out.below HM.out HX2.out.lt)
  have HY3 := Lib.hid (HY2.out.below HM.out HY2.out.lt)
  clear SOK3 HM HB2 HX2 HY2
  have x0 := HX3.out.cell 0
  have x1 := HX3.out.cell 1
  have x2' := HX3.out.cell 2
  have x3 := HX3.out.cell 3
  simp only [List.getElem?_toArray, List.getElem?_cons_zero, List.getElem?_cons_succ] at x0 x1 x2' x3
  -- the first text
  go_wp2_with fail
  refine (HOF1.out _ HB3.out).mono ?_
  rintro e w4 ⟨a4, c4, rfl, hr4, hc4⟩
  have HB4 := belP HB3 hc4
  have HX4 := blkHP HX3 hc4
  have HY4 := blkHP HY3 hc4
  have HF4 := blkHP HF5 hc4
  have HR4 := Lib.hid hr4
  clear hr4 hc4 HB3 HX3 HY3 HF5 x0 x1 x2' x3 HOF1
  go_wp2_with fail
  refine (HPR1.out _ _ _ _ (HP.out.below HB4.out) HR4.out).mono ?_
  rintro e w5 ⟨rfl, hc5⟩
  have HB5 := belP HB4 hc5
  have HX5 := blkHP HX4 hc5
  have HY5 := blkHP HY4 hc5
  have HF5 := blkHP HF4 hc5
  clear hc5 HB4 HX4 HY4 HF4 HR4 HPR1
  have x0 := HF5.out.cell 0
  have x1 := HF5.out.cell 1
  have x2' := HF5.out.cell 2
  have x3 := HF5.out.cell 3
  simp only [List.getElem?_toArray, List.getElem?_cons_zero, List.getElem?_cons_succ] at x0 x1 x2' x3
  -- the second text
  go_wp2_with fail
  refine (HOF2.out _ HB5.out).mono ?_
  rintro e w6 ⟨a6, c6, rfl, hr6, hc6⟩
  have HB6 := belP HB5 hc6
  have HX6 := blkHP HX5 hc6
  have HY6 := blkHP HY5 hc6
  have HR6 := Lib.hid hr6
  clear hr6 hc6 HB5 HX5 HY5 HF5 x0 x1 x2' x3 HOF2
  go_wp2_with fail
  refine (HPR2.out _ _ _ _ (HP.out.below HB6.out) HR6.out).mono ?_
  rintro e w7 ⟨rfl, hc7⟩
  have HB7 := belP HB6 hc7
  have HX7 := blkHP HX6 hc7
  have HY7 := blkHP HY6 hc7
  clear hc7 HB6 HX6 HY6 HR6 HPR2
  have x0 := HX7.out.cell 0
  have x1 := HX7.out.cell 1
  have x2' := HX7.out.cell 2
  simp only [List.getElem?_toArray, List.getElem?_cons_zero, List.getElem?_cons_succ] at x0 x1 x2'
  -- the third text
  go_wp2_with fail
  refine (HOF3.out _ HB7.out).mono ?_
  rintro e w8 ⟨a8, c8, rfl, hr8, hc8⟩
  have HB8 := belP HB7 hc8
  have HX8 := blkHP HX7 hc8
  have HY8 := blkHP HY7 hc8
  have HR8 := Lib.hid hr8
  clear hr8 hc8 HB7 HX7 HY7 x0 x1 x2' HOF3
  go_wp2_with fail
  refine (HPR3.out _ _ _ _ (HP.out.below HB8.out) HR8.out).mono ?_
  rintro e w9 ⟨rfl, hc9⟩
  have HB9 := belP HB8 hc9
  have HX9 := blkHP HX8 hc9
  have HY9 := blkHP HY8 hc9
  clear hc9 HB8 HX8 HY8 HR8 HPR3
  by_cases e1 : F1 = 0
  case neg =>
    have b1 : (F1 != 0) = true := by simpa using e1
    go_wp2_with fail
    refine (HAW.out _ (HE.out.below HB9.out)).mono ?_
    rintro e w10 ⟨rfl, hc10⟩
    have HB10 := belP HB9 hc10
    clear hc10 HB9 HAW
    go_wp2
    go_ret
    exact ⟨rfl, HB10.out⟩
  by_cases e2 : F2 = 0
  case neg =>
    subst e1
    have b1 : (F2 != 0) = true := by simpa using e2
    go_wp2_with fail
    refine (HAW.out _ (HE.out.below HB9.out)).mono ?_
    rintro e w10 ⟨rfl, hc10⟩
    have HB10 := belP HB9 hc10
    clear hc10 HB9 HAW
    go_wp2
    go_ret
    exact ⟨rfl, HB10.out⟩
  by_cases e3 : F3 = 0
  case neg =>
    subst e1 e2
    have b1 : (F3 != 0) = true := by simpa using e3
    go_wp2_with fail
    refine (HAW.out _ (HE.out.below HB9.out)).mono ?_
    rintro e w10 ⟨rfl, hc10⟩
    have HB10 := belP HB9 hc10
    clear hc10 HB9 HAW
    go_wp2
    go_ret
    exact ⟨rfl, HB10.out⟩
  obtain ⟨s1, s2, s3, s4, hparse⟩ := HPP.out e1 e2 e3
  subst e1 e2 e3
  have HPA := Lib.hid hparse
  have s1a : (T3.size : Int) ≤ (T2.size : Int) := by omega
  have s1b : ¬ (T2.size : Int) < (T3.size : Int) := by omega
  have s1c : (0 : Int) ≤ (T3.size : Int) := by omega
  generalize hTR : T2.extract T3.size T2.size = TR at *
  clear HPP hparse s1 s4
  go_wp2_with fail
  refine (HPA.out _ (HE.out.below HB9.out)).mono ?_
  rintro e w11 ⟨a11, c11, rfl, hr11, hc11⟩
  have HB11 := Lib.hid ((belP HB9 hc11).out.alloc (belP HB9 hc11).out.size (.cells #[.int .i64 k, .int .i64 n, .bool x, .slice a11 (LP + 1) c11] TPl))
  have HX11 := Lib.hid ((blkHP HX9 hc11).out.alloc (.cells #[.int .i64 k, .int .i64 n, .bool x, .slice a11 (LP + 1) c11] TPl))
  have HY11 := Lib.hid ((blkHP HY9 hc11).out.alloc (.cells #[.int .i64 k, .int .i64 n, .bool x, .slice a11 (LP + 1) c11] TPl))
  have HZ11 := Lib.hid (Blk.new w11 TPl #[.int .i64 k, .int .i64 n, .bool x, .slice a11 (LP + 1) c11])
  have HR11 := Lib.hid (hr11.up (.cells #[.int .i64 k, .int .i64 n, .bool x, .slice a11 (LP + 1) c11] TPl))
  clear hr11 hc11 HB9 HX9 HY9 HPA s1a s1b s1c s2 s3 hTR
  go_upto_region 12 with fail
  generalize w11.alloc (.cells #[.int .i64 k, .int .i64 n, .bool x, .slice a11 (LP + 1) c11] TPl) = w12 at *
  generalize w11.heap.size = ZB at *
  have x0 := HX11.out.cell 0
  have x1 := HX11.out.cell 1
  have x2' := HX11.out.cell 2
  have x3 := HX11.out.cell 3
  simp only [List.getElem?_toArray, List.getElem?_cons_zero, List.getElem?_cons_succ] at x0 x1 x2' x3
  have H1213 := Lib.hid ((Below.refl w12.heap.size w12).alloc (Nat.le_refl _) (.cells #[.int .i64 k, .int .i64 n, .bool x, .slice pa LP pc] TPr))
  have F15 := Lib.hid (Blk.new w12 TPr #[.int .i64 k, .int .i64 n, .bool x, .slice pa LP pc])
  have SOK12 : Hid (∀ w', Below w12.heap.size w12 w' → (w'.cell? ⟨w.heap.size, 3, none⟩ = some (.slice pa LP pc) ∧ w'.cell? ⟨YB, 3, none⟩ = some (.slice (some ⟨qg, qo, none⟩) LQ qc) ∧ w'.cell? ⟨qg, qo, none⟩ = some (.string qn) ∧ w'.cell? ⟨qg, qo + 1, none⟩ = some (.int .i64 qk) ∧ w'.cell? ⟨qg, qo + 2, none⟩ = some (.int .i64 qm) ∧ w'.cell? ⟨qg, qo + 3, none⟩ = some (.slice qu qcl quc))) := fun w' hb => ⟨(HX11.out.below hb HX11.out.lt).cell 3, (HY11.out.below hb HY11.out.lt).cell 3, HQC.out w' (HB11.out.trans (hb.mono HB11.out.size))⟩
  go_upto_region 13 with fail
  clear x0 x1 x2' x3
  generalize hw13 : w12.alloc (.cells #[.int .i64 k, .int .i64 n, .bool x, .slice pa LP pc] TPr) = w13 at *
  clear hw13
  obtain ⟨B15, hB15e⟩ : ∃ B15, w12.heap.size = B15 := ⟨_, rfl⟩
  have hB15 : w12.heap.size ≤ B15 := Nat.le_of_eq hB15e
  have SOK13 : Hid (∀ w', Below w13.heap.size w13 w' → (w'.cell? ⟨w.heap.size, 3, none⟩ = some (.slice pa LP pc) ∧ w'.cell? ⟨YB, 3, none⟩ = some (.slice (some ⟨qg, qo, none⟩) LQ qc) ∧ w'.cell? ⟨qg, qo, none⟩ = some (.string qn) ∧ w'.cell? ⟨qg, qo + 1, none⟩ = some (.int .i64 qk) ∧ w'.cell? ⟨qg, qo + 2, none⟩ = some (.int .i64 qm) ∧ w'.cell? ⟨qg, qo + 3, none⟩ = some (.slice qu qcl quc))) := fun w' hb => SOK12.out w' (H1213.out.trans (hb.mono H1213.out.size))
  obtain ⟨LO, hLO⟩ : ∃ LO, w13.heap.size = LO := ⟨_, rfl⟩
  have HLO : Hid (w13.heap.size = LO) := hLO
  have HNW : Hid (∀ W, Below w13.heap.size w13 W → ∀ ad, pa = some ad → ∀ j u, NEWS[j]? = some u → W.cell? (ad.add j) = some u) := fun W hb => HNW0.out W ((HB11.out.trans (H1213.out.mono HB11.out.size)).trans (hb.mono (HB11.out.trans (H1213.out.mono HB11.out.size)).size))
  have HFIN : Hid (∀ (v2 : Value) (W2 : World), Below w12.heap.size w12 W2 → W2.ownsRow LO TRr 4 v2 (0 + LP + 1) ([] ++ NEWS ++ [.string qn, .int .i64 qk, .int .i64 qm, .slice qu qcl quc]) → RulesI W2.heap.size W2 v2 RS) := fun v2 W2 hb ho => HFIN0.out LO v2 W2 (HB11.out.trans (hb.mono HB11.out.size)) ho
  obtain ⟨i0, hi, hz0, hz1, hz2⟩ := info_parts infoRr
  have hLP40 := HLPS.out
  have h63a : 0 + LP ≤ maxLen := by show 0 + LP ≤ 9223372036854775807; omega
  have h63b : (0 + LP) * 56 ≤ 140737488355328 := by omega
  have h63c : 0 + LP + 1 ≤ maxLen := by show 0 + LP + 1 ≤ 9223372036854775807; omega
  have h63d : (0 + LP + 1) * 56 ≤ 140737488355328 := by omega
  have hqone : ∀ u ∈ ([.string qn, .int .i64 qk, .int .i64 qm, .slice qu qcl quc] : List Value), u.oneCell' = true := fun u hu => by
    simp only [List.mem_cons, List.not_mem_nil, or_false] at hu
    rcases hu with rfl | rfl | rfl | rfl <;> rfl
  have HNL := HNL0
  have HON := HON0
  rw [hB15e] at F15 ⊢
  clear hLO HNL0 HON0 HNW0 HFIN0 hLP40 HQC hRS hNEWS
  go_cut [105] (fun _ wx => ∃ vW, Hid (Blk wx B15 TPr #[.int .i64 k, .int .i64 n, .bool x, vW]) ∧ Hid (RulesI wx.heap.size wx vW RS) ∧ Hid (Below w12.heap.size w12 wx))
  case first =>
    refine wp_region_noPanic ?_
    refine wp_region_held_drew (S := fun w' => w'.cell? ⟨w.heap.size, 3, none⟩ = some (.slice pa LP pc) ∧ w'.cell? ⟨YB, 3, none⟩ = some (.slice (some ⟨qg, qo, none⟩) LQ qc) ∧ w'.cell? ⟨qg, qo, none⟩ = some (.string qn) ∧ w'.cell? ⟨qg, qo + 1, none⟩ = some (.int .i64 qk) ∧ w'.cell? ⟨qg, qo + 2, none⟩ = some (.int .i64 qm) ∧ w'.cell? ⟨qg, qo + 3, none⟩ = some (.slice qu qcl quc)) (by kernel_rfl) (by first | exact SOK13.out _ (Below.refl _ w13).drew) (fun hHeld => ?_)
    refine wpAnyH_take (i := 1) (oi := { dst := some 97, op := Op.fieldAddr 33 (Operand.tmp 2) 2, type := 0, pos := "outright.go:102", after := #[], guard := none }) (v := ?vr1) rfl (by kernel_rfl) (by kernel_rfl) (by kernel_rfl) (fun _ _ _ h => h) (Or.inl ⟨by rfl, ?hyr1⟩) (by assumption) ?restr1
    case hyr1 =>
      intro w hSw
      try dsimp only at hSw
      try obtain ⟨hSw, hSw2⟩ := hSw
      try go_split_ands
      go_simp
      try with_reducible rfl
    try simp only [Act.put, List.setIfInBounds_toArray, List.set_cons_zero, List.set_cons_succ]
    refine wpAnyH_take (i := 2) (oi := { dst := some 98, op := Op.load 31 (Operand.tmp 97), type := 31, pos := "outright.go:102", after := #[{ on := 1, ground := Ground.data }], guard := none }) (v := ?vr2) rfl (by kernel_rfl) (by kernel_rfl) (by kernel_rfl) (fun _ _ _ h => h) (Or.inl ⟨by rfl, ?hyr2⟩) (by assumption) ?restr2
    case hyr2 =>
      intro w hSw
      try dsimp only at hSw
      try obtain ⟨hSw, hSw2⟩ := hSw
      try go_split_ands
      go_simp
      try with_reducible rfl
    try simp only [Act.put, List.setIfInBounds_toArray, List.set_cons_zero, List.set_cons_succ]
    refine wpAnyH_take (i := 4) (oi := { dst := some 100, op := Op.fieldAddr 33 (Operand.tmp 3) 2, type := 0, pos := "outright.go:102", after := #[], guard := none }) (v := ?vr4) rfl (by kernel_rfl) (by kernel_rfl) (by kernel_rfl) (fun _ _ _ h => h) (Or.inl ⟨by rfl, ?hyr4⟩) (by assumption) ?restr4
    case hyr4 =>
      intro w hSw
      try dsimp only at hSw
      try obtain ⟨hSw, hSw2⟩ := hSw
      try go_split_ands
      go_simp
      try with_reducible rfl
    try simp only [Act.put, List.setIfInBounds_toArray, List.set_cons_zero, List.set_cons_succ]
    refine wpAnyH_take (i := 5) (oi := { dst := some 101, op := Op.load 31 (Operand.tmp 100), type := 31, pos := "outright.go:102", after := #[{ on := 4, ground := Ground.data }], guard := none }) (v := ?vr5) rfl (by kernel_rfl) (by kernel_rfl) (by kernel_rfl) (fun _ _ _ h => h) (Or.inl ⟨by rfl, ?hyr5⟩) (by assumption) ?restr5
    case hyr5 =>
      intro w hSw
      try dsimp only at hSw
      try obtain ⟨hSw, hSw2⟩ := hSw
      try go_split_ands
      go_simp
      try with_reducible rfl
    try simp only [Act.put, List.setIfInBounds_toArray, List.set_cons_zero, List.set_cons_succ]
    refine wpAnyH_take (i := 6) (oi := { dst := some 102, op := Op.indexAddr 31 (Operand.tmp 101) (Operand.const (Value.int IntKind.i64 0)), type := 0, pos := "outright.go:102", after := #[{ on := 5, ground := Ground.data }], guard := none }) (v := ?vr6) rfl (by kernel_rfl) (by kernel_rfl) (by kernel_rfl) (fun _ _ _ h => h) (Or.inl ⟨by rfl, ?hyr6⟩) (by assumption) ?restr6
    case hyr6 =>
      intro w hSw
      try dsimp only at hSw
      try obtain ⟨hSw, hSw2⟩ := hSw
      try go_split_ands
      go_simp
      try with_reducible rfl
    try simp only [Act.put, List.setIfInBounds_toArray, List.set_cons_zero, List.set_cons_succ]
    refine wpAnyH_take (i := 7) (oi := { dst := some 103, op := Op.load 48 (Operand.tmp 102), type := 48, pos := "outright.go:102", after := #[{ on := 6, ground := Ground.data }], guard := none }) (v := ?vr7) rfl (by kernel_rfl) (by kernel_rfl) (by kernel_rfl) (fun _ _ _ h => h) (Or.inl ⟨by rfl, ?hyr7⟩) (by assumption) ?restr7
    case hyr7 =>
      intro w hSw
      try dsimp only at hSw
      try obtain ⟨hSw, hSw2⟩ := hSw
      try go_split_ands
      go_simp
      try with_reducible rfl
    try simp only [Act.put, List.setIfInBounds_toArray, List.set_cons_zero, List.set_cons_succ]
    have hn0 := Lib.hid ((Below.refl w13.heap.size w13).drew)
    clear hHeld
    generalize w13.drew = wn0 at *
    refine wpAnyH_ready (rs := [0, 8]) (by kernel_rfl) (by simp) ?_
    refine AllReadyH.cons (o := { dst := some 96, op := Op.buildSlice 31 0 #[], type := 31, pos := "outright.go:102", after := #[], guard := none }) rfl (fun K' hK => ?_) ?_
    ·
      refine wp_buildZ _ 31 (by rfl) Tryz.underlying31 hi hz1 ?_
      have hn1 := Lib.hid (hn0.out.alloc hn0.out.size (.cells #[] TRr))
      have on1 : Hid ((wn0.alloc (.cells #[] TRr)).ownsRow LO TRr 4 (.slice (some ⟨wn0.heap.size, 0, none⟩) 0 0) 0 []) := World.ownsRow_lit (base := LO) wn0 #[] 0 (by have := hn0.out.size; have := HLO.out; omega) (by decide) rfl
      refine hK.out _ _ (SOK13.out _ hn1.out) (fun hHeld => ?_)
      clear hK K'
      try simp only [Act.put, List.setIfInBounds_toArray, List.set_cons_zero, List.set_cons_succ]
      clear hHeld hn0
      generalize wn0.alloc (.cells #[] TRr) = wn1 at *
      generalize wn0.heap.size = Zn1 at *
      refine wpAnyH_ready (rs := [3, 8]) (by kernel_rfl) (by simp) ?_
      refine AllReadyH.cons (o := { dst := some 99, op := Op.call { callee := Callee.builtin Builtin.append, args := #[Operand.tmp 96, Operand.tmp 98], argTypes := #[31, 31] }, type := 31, pos := "outright.go:102", after := #[{ on := 0, ground := Ground.data }, { on := 2, ground := Ground.data }], guard := none }) rfl (fun K' hK => ?_) ?_
      ·
        refine wp_append_any _ _ _ 31 (by rfl) LO TRr i0 (.agg #[.string ⟨#[]⟩, .int .i64 0, .int .i64 0, .slice none 0 0]) 4 56 Tryz.underlying31 hi hz0 hz1 hz2 rfl (by decide) (.slice (some ⟨Zn1, 0, none⟩) 0 0) 0 [] (by rfl) on1.out pa LP pc NEWS (by rfl) HSF.out HNL.out (HNW.out _ hn1.out) HON.out h63a h63b (by have := hn1.out.size; have := HLO.out; omega) ?_
        intro v2 wn2 hown' hgrow
        have hn2 := Lib.hid (hn1.out.grown hgrow hn1.out.size (fun r e => by have := (on1.out.lt r e).1; have := HLO.out; omega))
        have on2 := Lib.hid hown'
        refine hK.out _ _ (SOK13.out _ hn2.out) (fun hHeld => ?_)
        clear hK K'
        try simp only [Act.put, List.setIfInBounds_toArray, List.set_cons_zero, List.set_cons_succ]
        clear hHeld hown' hgrow hn1 on1
        refine wpAnyH_ready (rs := [8]) (by kernel_rfl) (by simp) ?_
        refine AllReadyH.cons (o := { dst := some 104, op := Op.buildSlice 31 1 #[(0, Operand.tmp 103)], type := 31, pos := "outright.go:102", after := #[{ on := 7, ground := Ground.data }], guard := none }) rfl (fun K' hK => ?_) ?_
        ·
          have hn3 := Lib.hid (hn2.out.alloc hn2.out.size (.cells #[.string qn, .int .i64 qk, .int .i64 qm, .slice qu qcl quc] TRr))
          have qn3 := Lib.hid (Blk.new wn2 TRr #[.string qn, .int .i64 qk, .int .i64 qm, .slice qu qcl quc])
          have on3 := Lib.hid (on2.out.alloc (.cells #[.string qn, .int .i64 qk, .int .i64 qm, .slice qu qcl quc] TRr))
          go_simp
          refine hK.out _ _ (SOK13.out _ hn3.out) (fun hHeld => ?_)
          clear hK K'
          try simp only [Act.put, List.setIfInBounds_toArray, List.set_cons_zero, List.set_cons_succ]
          clear hHeld hn2 on2
          generalize wn2.alloc (.cells #[.string qn, .int .i64 qk, .int .i64 qm, .slice qu qcl quc] TRr) = wn3 at *
          generalize wn2.heap.size = Qn3 at *
          refine wpAnyH_ready (rs := [9]) (by kernel_rfl) (by simp) ?_
          refine AllReadyH.cons (o := { dst := some 105, op := Op.call { callee := Callee.builtin Builtin.append, args := #[Operand.tmp 99, Operand.tmp 104], argTypes := #[31, 31] }, type := 31, pos := "outright.go:102", after := #[{ on := 3, ground := Ground.data }, { on := 8, ground := Ground.data }, { on := 3, ground := Ground.chain }], guard := none }) rfl (fun K' hK => ?_) ?_
          ·
            refine wp_append_any _ _ _ 31 (by rfl) LO TRr i0 (.agg #[.string ⟨#[]⟩, .int .i64 0, .int .i64 0, .slice none 0 0]) 4 56 Tryz.underlying31 hi hz0 hz1 hz2 rfl (by decide) v2 (0 + LP) ([] ++ NEWS) (by rfl) on3.out (some ⟨Qn3, 0, none⟩) 1 1 [.string qn, .int .i64 qk, .int .i64 qm, .slice qu qcl quc] (by rfl) (.inr ⟨_, rfl, Nat.le_refl _⟩) rfl (fun ad e j u hj => by cases e; rw [Addr.add_lit, Nat.zero_add, qn3.out.cell j, List.getElem?_toArray]; exact hj) hqone h63c h63d (by have := hn3.out.size; have := HLO.out; omega) ?_
            intro v4 wn4 hown' hgrow
            obtain ⟨sa4, sc4, rfl⟩ : ∃ a c, v4 = .slice a (LP + 1) c := own_slice hown' (by omega)
            have hn4 := Lib.hid (hn3.out.grown hgrow hn3.out.size (fun r e => by have := (on3.out.lt r e).1; have := HLO.out; omega))
            have on4 := Lib.hid hown'
            refine hK.out _ _ (SOK13.out _ hn4.out) (fun hHeld => ?_)
            clear hK K'
            try simp only [Act.put, List.setIfInBounds_toArray, List.set_cons_zero, List.set_cons_succ]
            clear hown' hgrow hn3 on3 qn3
            refine wpAnyH_take (i := 10) (oi := { dst := some 106, op := Op.fieldAddr 33 (Operand.tmp 15) 2, type := 0, pos := "outright.go:102", after := #[{ on := 0, ground := Ground.phase }, { on := 1, ground := Ground.phase }, { on := 2, ground := Ground.phase }, { on := 3, ground := Ground.phase }, { on := 4, ground := Ground.phase }, { on := 5, ground := Ground.phase }, { on := 6, ground := Ground.phase }, { on := 7, ground := Ground.phase }, { on := 8, ground := Ground.phase }, { on := 9, ground := Ground.phase }], guard := none }) (v := ?vn510) rfl (by kernel_rfl) (by kernel_rfl) (by kernel_rfl) (fun _ _ _ h => h) (Or.inl ⟨by rfl, ?hyn510⟩) (by assumption) ?restn510
            case hyn510 =>
              intro w hSw
              try dsimp only at hSw
              try obtain ⟨hSw, hSw2⟩ := hSw
              try go_split_ands
              go_simp
              try with_reducible rfl
            try simp only [Act.put, List.setIfInBounds_toArray, List.set_cons_zero, List.set_cons_succ]
            refine wpAnyH_ready (rs := [11]) (by kernel_rfl) (by simp) ?_
            refine AllReadyH.cons (o := { dst := none, op := Op.store 31 (Operand.tmp 106) (Operand.tmp 105), type := 0, pos := "outright.go:102", after := #[{ on := 10, ground := Ground.data }, { on := 9, ground := Ground.data }, { on := 9, ground := Ground.chain }, { on := 0, ground := Ground.phase }, { on := 1, ground := Ground.phase }, { on := 2, ground := Ground.phase }, { on := 3, ground := Ground.phase }, { on := 4, ground := Ground.phase }, { on := 5, ground := Ground.phase }, { on := 6, ground := Ground.phase }, { on := 7, ground := Ground.phase }, { on := 8, ground := Ground.phase }, { on := 9, ground := Ground.phase }], guard := none }) rfl (fun K' hK => ?_) AllReadyH.nil
            have HF := Lib.hid (F15.out.below hn4.out F15.out.lt)
            have z3 := HF.out.frozen 3
            have y3 : wn4.cell? ⟨B15, 3, none⟩ = some (.slice pa LP pc) := HF.out.cell 3
            have HB12 : Hid (Below w12.heap.size w12 (wn4.setCell ⟨B15, 3, none⟩ (.slice sa4 (LP + 1) sc4))) := (H1213.out.trans (hn4.out.mono H1213.out.size)).setCell (p := ⟨B15, 3, none⟩) hB15 _
            have HFin : Hid (Blk (wn4.setCell ⟨B15, 3, none⟩ (.slice sa4 (LP + 1) sc4)) B15 TPr #[.int .i64 k, .int .i64 n, .bool x, (.slice sa4 (LP + 1) sc4)]) := HF.out.set 3 (.slice sa4 (LP + 1) sc4)
            have HRI : Hid (RulesI (wn4.setCell ⟨B15, 3, none⟩ (.slice sa4 (LP + 1) sc4)).heap.size (wn4.setCell ⟨B15, 3, none⟩ (.slice sa4 (LP + 1) sc4)) (.slice sa4 (LP + 1) sc4) RS) := HFIN.out _ _ HB12.out (ownP_setO on4.out HF.out (by decide))
            go_simp
            refine hK.out _ _ (SOK12.out _ HB12.out) (fun hHeld => ?_)
            clear hK K' hHeld
            try simp only [Act.put, List.setIfInBounds_toArray, List.set_cons_zero, List.set_cons_succ]
            refine wpAnyH_done (by kernel_rfl) ?_ _
            refine NoPanic.normal ?_
            go_wp2_with fail
            go_meet
            exact ⟨_, HFin, HRI, HB12⟩
          exact AllReadyH.nil
        exact AllReadyH.nil
      refine AllReadyH.cons (o := { dst := some 104, op := Op.buildSlice 31 1 #[(0, Operand.tmp 103)], type := 31, pos := "outright.go:102", after := #[{ on := 7, ground := Ground.data }], guard := none }) rfl (fun K' hK => ?_) ?_
      ·
        have hn6 := Lib.hid (hn1.out.alloc hn1.out.size (.cells #[.string qn, .int .i64 qk, .int .i64 qm, .slice qu qcl quc] TRr))
        have qn6 := Lib.hid (Blk.new wn1 TRr #[.string qn, .int .i64 qk, .int .i64 qm, .slice qu qcl quc])
        have on6 := Lib.hid (on1.out.alloc (.cells #[.string qn, .int .i64 qk, .int .i64 qm, .slice qu qcl quc] TRr))
        have nz6 : Zn1 ≠ wn1.heap.size := Nat.ne_of_lt (on1.out.lt Zn1 rfl).2
        go_simp
        refine hK.out _ _ (SOK13.out _ hn6.out) (fun hHeld => ?_)
        clear hK K'
        try simp only [Act.put, List.setIfInBounds_toArray, List.set_cons_zero, List.set_cons_succ]
        clear hHeld hn1 on1
        generalize wn1.alloc (.cells #[.string qn, .int .i64 qk, .int .i64 qm, .slice qu qcl quc] TRr) = wn6 at *
        generalize wn1.heap.size = Qn6 at *
        refine wpAnyH_ready (rs := [3]) (by kernel_rfl) (by simp) ?_
        refine AllReadyH.cons (o := { dst := some 99, op := Op.call { callee := Callee.builtin Builtin.append, args := #[Operand.tmp 96, Operand.tmp 98], argTypes := #[31, 31] }, type := 31, pos := "outright.go:102", after := #[{ on := 0, ground := Ground.data }, { on := 2, ground := Ground.data }], guard := none }) rfl (fun K' hK => ?_) ?_
        ·
          refine wp_append_any _ _ _ 31 (by rfl) LO TRr i0 (.agg #[.string ⟨#[]⟩, .int .i64 0, .int .i64 0, .slice none 0 0]) 4 56 Tryz.underlying31 hi hz0 hz1 hz2 rfl (by decide) (.slice (some ⟨Zn1, 0, none⟩) 0 0) 0 [] (by rfl) on6.out pa LP pc NEWS (by rfl) HSF.out HNL.out (HNW.out _ hn6.out) HON.out h63a h63b (by have := hn6.out.size; have := HLO.out; omega) ?_
          intro v7 wn7 hown' hgrow
          have hn7 := Lib.hid (hn6.out.grown hgrow hn6.out.size (fun r e => by have := (on6.out.lt r e).1; have := HLO.out; omega))
          have on7 := Lib.hid hown'
          have qn7 := Lib.hid (blk_grown qn6.out hgrow (fun r e => by cases e; exact nz6))
          refine hK.out _ _ (SOK13.out _ hn7.out) (fun hHeld => ?_)
          clear hK K'
          try simp only [Act.put, List.setIfInBounds_toArray, List.set_cons_zero, List.set_cons_succ]
          clear hHeld hown' hgrow hn6 on6 qn6
          refine wpAnyH_ready (rs := [9]) (by kernel_rfl) (by simp) ?_
          refine AllReadyH.cons (o := { dst := some 105, op := Op.call { callee := Callee.builtin Builtin.append, args := #[Operand.tmp 99, Operand.tmp 104], argTypes := #[31, 31] }, type := 31, pos := "outright.go:102", after := #[{ on := 3, ground := Ground.data }, { on := 8, ground := Ground.data }, { on := 3, ground := Ground.chain }], guard := none }) rfl (fun K' hK => ?_) ?_
          ·
            refine wp_append_any _ _ _ 31 (by rfl) LO TRr i0 (.agg #[.string ⟨#[]⟩, .int .i64 0, .int .i64 0, .slice none 0 0]) 4 56 Tryz.underlying31 hi hz0 hz1 hz2 rfl (by decide) v7 (0 + LP) ([] ++ NEWS) (by rfl) on7.out (some ⟨Qn6, 0, none⟩) 1 1 [.string qn, .int .i64 qk, .int .i64 qm, .slice qu qcl quc] (by rfl) (.inr ⟨_, rfl, Nat.le_refl _⟩) rfl (fun ad e j u hj => by cases e; rw [Addr.add_lit, Nat.zero_add, qn7.out.cell j, List.getElem?_toArray]; exact hj) hqone h63c h63d (by have := hn7.out.size; have := HLO.out; omega) ?_
            intro v8 wn8 hown' hgrow
            obtain ⟨sa8, sc8, rfl⟩ : ∃ a c, v8 = .slice a (LP + 1) c := own_slice hown' (by omega)
            have hn8 := Lib.hid (hn7.out.grown hgrow hn7.out.size (fun r e => by have := (on7.out.lt r e).1; have := HLO.out; omega))
            have on8 := Lib.hid hown'
            refine hK.out _ _ (SOK13.out _ hn8.out) (fun hHeld => ?_)
            clear hK K'
            try simp only [Act.put, List.setIfInBounds_toArray, List.set_cons_zero, List.set_cons_succ]
            clear hown' hgrow hn7 on7 qn7
            refine wpAnyH_take (i := 10) (oi := { dst := some 106, op := Op.fieldAddr 33 (Operand.tmp 15) 2, type := 0, pos := "outright.go:102", after := #[{ on := 0, ground := Ground.phase }, { on := 1, ground := Ground.phase }, { on := 2, ground := Ground.phase }, { on := 3, ground := Ground.phase }, { on := 4, ground := Ground.phase }, { on := 5, ground := Ground.phase }, { on := 6, ground := Ground.phase }, { on := 7, ground := Ground.phase }, { on := 8, ground := Ground.phase }, { on := 9, ground := Ground.phase }], guard := none }) (v := ?vn910) rfl (by kernel_rfl) (by kernel_rfl) (by kernel_rfl) (fun _ _ _ h => h) (Or.inl ⟨by rfl, ?hyn910⟩) (by assumption) ?restn910
            case hyn910 =>
              intro w hSw
              try dsimp only at hSw
              try obtain ⟨hSw, hSw2⟩ := hSw
              try go_split_ands
              go_simp
              try with_reducible rfl
            try simp only [Act.put, List.setIfInBounds_toArray, List.set_cons_zero, List.set_cons_succ]
            refine wpAnyH_ready (rs := [11]) (by kernel_rfl) (by simp) ?_
            refine AllReadyH.cons (o := { dst := none, op := Op.store 31 (Operand.tmp 106) (Operand.tmp 105), type := 0, pos := "outright.go:102", after := #[{ on := 10, ground := Ground.data }, { on := 9, ground := Ground.data }, { on := 9, ground := Ground.chain }, { on := 0, ground := Ground.phase }, { on := 1, ground := Ground.phase }, { on := 2, ground := Ground.phase }, { on := 3, ground := Ground.phase }, { on := 4, ground := Ground.phase }, { on := 5, ground := Ground.phase }, { on := 6, ground := Ground.phase }, { on := 7, ground := Ground.phase }, { on := 8, ground := Ground.phase }, { on := 9, ground := Ground.phase }], guard := none }) rfl (fun K' hK => ?_) AllReadyH.nil
            have HF := Lib.hid (F15.out.below hn8.out F15.out.lt)
            have z3 := HF.out.frozen 3
            have y3 : wn8.cell? ⟨B15, 3, none⟩ = some (.slice pa LP pc) := HF.out.cell 3
            have HB12 : Hid (Below w12.heap.size w12 (wn8.setCell ⟨B15, 3, none⟩ (.slice sa8 (LP + 1) sc8))) := (H1213.out.trans (hn8.out.mono H1213.out.size)).setCell (p := ⟨B15, 3, none⟩) hB15 _
            have HFin : Hid (Blk (wn8.setCell ⟨B15, 3, none⟩ (.slice sa8 (LP + 1) sc8)) B15 TPr #[.int .i64 k, .int .i64 n, .bool x, (.slice sa8 (LP + 1) sc8)]) := HF.out.set 3 (.slice sa8 (LP + 1) sc8)
            have HRI : Hid (RulesI (wn8.setCell ⟨B15, 3, none⟩ (.slice sa8 (LP + 1) sc8)).heap.size (wn8.setCell ⟨B15, 3, none⟩ (.slice sa8 (LP + 1) sc8)) (.slice sa8 (LP + 1) sc8) RS) := HFIN.out _ _ HB12.out (ownP_setO on8.out HF.out (by decide))
            go_simp
            refine hK.out _ _ (SOK12.out _ HB12.out) (fun hHeld => ?_)
            clear hK K' hHeld
            try simp only [Act.put, List.setIfInBounds_toArray, List.set_cons_zero, List.set_cons_succ]
            refine wpAnyH_done (by kernel_rfl) ?_ _
            refine NoPanic.normal ?_
            go_wp2_with fail
            go_meet
            exact ⟨_, HFin, HRI, HB12⟩
          exact AllReadyH.nil
        exact AllReadyH.nil
      exact AllReadyH.nil
    refine AllReadyH.cons (o := { dst := some 104, op := Op.buildSlice 31 1 #[(0, Operand.tmp 103)], type := 31, pos := "outright.go:102", after := #[{ on := 7, ground := Ground.data }], guard := none }) rfl (fun K' hK => ?_) ?_
    ·
      have hn10 := Lib.hid (hn0.out.alloc hn0.out.size (.cells #[.string qn, .int .i64 qk, .int .i64 qm, .slice qu qcl quc] TRr))
      have qn10 := Lib.hid (Blk.new wn0 TRr #[.string qn, .int .i64 qk, .int .i64 qm, .slice qu qcl quc])
      go_simp
      refine hK.out _ _ (SOK13.out _ hn10.out) (fun hHeld => ?_)
      clear hK K'
      try simp only [Act.put, List.setIfInBounds_toArray, List.set_cons_zero, List.set_cons_succ]
      clear hHeld hn0
      generalize wn0.alloc (.cells #[.string qn, .int .i64 qk, .int .i64 qm, .slice qu qcl quc] TRr) = wn10 at *
      generalize wn0.heap.size = Qn10 at *
      refine wpAnyH_ready (rs := [0]) (by kernel_rfl) (by simp) ?_
      refine AllReadyH.cons (o := { dst := some 96, op := Op.buildSlice 31 0 #[], type := 31, pos := "outright.go:102", after := #[], guard := none }) rfl (fun K' hK => ?_) ?_
      ·
        refine wp_buildZ _ 31 (by rfl) Tryz.underlying31 hi hz1 ?_
        have hn11 := Lib.hid (hn10.out.alloc hn10.out.size (.cells #[] TRr))
        have on11 : Hid ((wn10.alloc (.cells #[] TRr)).ownsRow LO TRr 4 (.slice (some ⟨wn10.heap.size, 0, none⟩) 0 0) 0 []) := World.ownsRow_lit (base := LO) wn10 #[] 0 (by have := hn10.out.size; have := HLO.out; omega) (by decide) rfl
        have qn11 := Lib.hid (qn10.out.alloc (.cells #[] TRr))
        have nz11 : wn10.heap.size ≠ Qn10 := (Nat.ne_of_lt qn10.out.lt).symm
        refine hK.out _ _ (SOK13.out _ hn11.out) (fun hHeld => ?_)
        clear hK K'
        try simp only [Act.put, List.setIfInBounds_toArray, List.set_cons_zero, List.set_cons_succ]
        clear hHeld hn10 qn10
        generalize wn10.alloc (.cells #[] TRr) = wn11 at *
        generalize wn10.heap.size = Zn11 at *
        refine wpAnyH_ready (rs := [3]) (by kernel_rfl) (by simp) ?_
        refine AllReadyH.cons (o := { dst := some 99, op := Op.call { callee := Callee.builtin Builtin.append, args := #[Operand.tmp 96, Operand.tmp 98], argTypes := #[31, 31] }, type := 31, pos := "outright.go:102", after := #[{ on := 0, ground := Ground.data }, { on := 2, ground := Ground.data }], guard := none }) rfl (fun K' hK => ?_) ?_
        ·
          refine wp_append_any _ _ _ 31 (by rfl) LO TRr i0 (.agg #[.string ⟨#[]⟩, .int .i64 0, .int .i64 0, .slice none 0 0]) 4 56 Tryz.underlying31 hi hz0 hz1 hz2 rfl (by decide) (.slice (some ⟨Zn11, 0, none⟩) 0 0) 0 [] (by rfl) on11.out pa LP pc NEWS (by rfl) HSF.out HNL.out (HNW.out _ hn11.out) HON.out h63a h63b (by have := hn11.out.size; have := HLO.out; omega) ?_
          intro v12 wn12 hown' hgrow
          have hn12 := Lib.hid (hn11.out.grown hgrow hn11.out.size (fun r e => by have := (on11.out.lt r e).1; have := HLO.out; omega))
          have on12 := Lib.hid hown'
          have qn12 := Lib.hid (blk_grown qn11.out hgrow (fun r e => by cases e; exact nz11))
          refine hK.out _ _ (SOK13.out _ hn12.out) (fun hHeld => ?_)
          clear hK K'
          try simp only [Act.put, List.setIfInBounds_toArray, List.set_cons_zero, List.set_cons_succ]
          clear hHeld hown' hgrow hn11 on11 qn11
          refine wpAnyH_ready (rs := [9]) (by kernel_rfl) (by simp) ?_
          refine AllReadyH.cons (o := { dst := some 105, op := Op.call { callee := Callee.builtin Builtin.append, args := #[Operand.tmp 99, Operand.tmp 104], argTypes := #[31, 31] }, type := 31, pos := "outright.go:102", after := #[{ on := 3, ground := Ground.data }, { on := 8, ground := Ground.data }, { on := 3, ground := Ground.chain }], guard := none }) rfl (fun K' hK => ?_) ?_
          ·
            refine wp_append_any _ _ _ 31 (by rfl) LO TRr i0 (.agg #[.string ⟨#[]⟩, .int .i64 0, .int .i64 0, .slice none 0 0]) 4 56 Tryz.underlying31 hi hz0 hz1 hz2 rfl (by decide) v12 (0 + LP) ([] ++ NEWS) (by rfl) on12.out (some ⟨Qn10, 0, none⟩) 1 1 [.string qn, .int .i64 qk, .int .i64 qm, .slice qu qcl quc] (by rfl) (.inr ⟨_, rfl, Nat.le_refl _⟩) rfl (fun ad e j u hj => by cases e; rw [Addr.add_lit, Nat.zero_add, qn12.out.cell j, List.getElem?_toArray]; exact hj) hqone h63c h63d (by have := hn12.out.size; have := HLO.out; omega) ?_
            intro v13 wn13 hown' hgrow
            obtain ⟨sa13, sc13, rfl⟩ : ∃ a c, v13 = .slice a (LP + 1) c := own_slice hown' (by omega)
            have hn13 := Lib.hid (hn12.out.grown hgrow hn12.out.size (fun r e => by have := (on12.out.lt r e).1; have := HLO.out; omega))
            have on13 := Lib.hid hown'
            refine hK.out _ _ (SOK13.out _ hn13.out) (fun hHeld => ?_)
            clear hK K'
            try simp only [Act.put, List.setIfInBounds_toArray, List.set_cons_zero, List.set_cons_succ]
            clear hown' hgrow hn12 on12 qn12
            refine wpAnyH_take (i := 10) (oi := { dst := some 106, op := Op.fieldAddr 33 (Operand.tmp 15) 2, type := 0, pos := "outright.go:102", after := #[{ on := 0, ground := Ground.phase }, { on := 1, ground := Ground.phase }, { on := 2, ground := Ground.phase }, { on := 3, ground := Ground.phase }, { on := 4, ground := Ground.phase }, { on := 5, ground := Ground.phase }, { on := 6, ground := Ground.phase }, { on := 7, ground := Ground.phase }, { on := 8, ground := Ground.phase }, { on := 9, ground := Ground.phase }], guard := none }) (v := ?vn1410) rfl (by kernel_rfl) (by kernel_rfl) (by kernel_rfl) (fun _ _ _ h => h) (Or.inl ⟨by rfl, ?hyn1410⟩) (by assumption) ?restn1410
            case hyn1410 =>
              intro w hSw
              try dsimp only at hSw
              try obtain ⟨hSw, hSw2⟩ := hSw
              try go_split_ands
              go_simp
              try with_reducible rfl
            try simp only [Act.put, List.setIfInBounds_toArray, List.set_cons_zero, List.set_cons_succ]
            refine wpAnyH_ready (rs := [11]) (by kernel_rfl) (by simp) ?_
            refine AllReadyH.cons (o := { dst := none, op := Op.store 31 (Operand.tmp 106) (Operand.tmp 105), type := 0, pos := "outright.go:102", after := #[{ on := 10, ground := Ground.data }, { on := 9, ground := Ground.data }, { on := 9, ground := Ground.chain }, { on := 0, ground := Ground.phase }, { on := 1, ground := Ground.phase }, { on := 2, ground := Ground.phase }, { on := 3, ground := Ground.phase }, { on := 4, ground := Ground.phase }, { on := 5, ground := Ground.phase }, { on := 6, ground := Ground.phase }, { on := 7, ground := Ground.phase }, { on := 8, ground := Ground.phase }, { on := 9, ground := Ground.phase }], guard := none }) rfl (fun K' hK => ?_) AllReadyH.nil
            have HF := Lib.hid (F15.out.below hn13.out F15.out.lt)
            have z3 := HF.out.frozen 3
            have y3 : wn13.cell? ⟨B15, 3, none⟩ = some (.slice pa LP pc) := HF.out.cell 3
            have HB12 : Hid (Below w12.heap.size w12 (wn13.setCell ⟨B15, 3, none⟩ (.slice sa13 (LP + 1) sc13))) := (H1213.out.trans (hn13.out.mono H1213.out.size)).setCell (p := ⟨B15, 3, none⟩) hB15 _
            have HFin : Hid (Blk (wn13.setCell ⟨B15, 3, none⟩ (.slice sa13 (LP + 1) sc13)) B15 TPr #[.int .i64 k, .int .i64 n, .bool x, (.slice sa13 (LP + 1) sc13)]) := HF.out.set 3 (.slice sa13 (LP + 1) sc13)
            have HRI : Hid (RulesI (wn13.setCell ⟨B15, 3, none⟩ (.slice sa13 (LP + 1) sc13)).heap.size (wn13.setCell ⟨B15, 3, none⟩ (.slice sa13 (LP + 1) sc13)) (.slice sa13 (LP + 1) sc13) RS) := HFIN.out _ _ HB12.out (ownP_setO on13.out HF.out (by decide))
            go_simp
            refine hK.out _ _ (SOK12.out _ HB12.out) (fun hHeld => ?_)
            clear hK K' hHeld
            try simp only [Act.put, List.setIfInBounds_toArray, List.set_cons_zero, List.set_cons_succ]
            refine wpAnyH_done (by kernel_rfl) ?_ _
            refine NoPanic.normal ?_
            go_wp2_with fail
            go_meet
            exact ⟨_, HFin, HRI, HB12⟩
          exact AllReadyH.nil
        exact AllReadyH.nil
      exact AllReadyH.nil
    exact AllReadyH.nil
  case rest =>
    obtain ⟨vW, HV, HRI, HB12⟩ := hcut
    have HBf : Hid (Below w.heap.size w wc) := HB11.out.trans (HB12.out.mono HB11.out.size)
    have HZ12 := Lib.hid (HZ11.out.below HB12.out HZ11.out.lt)
    have HR12 := Lib.hid (HR11.out.below HB12.out)
    clear SOK12 SOK13 HNW HFIN HB11 HX11 HY11 HZ11 HR11 H1213 F15 HNL HON HLO
    have z0 := HZ12.out.cell 0
    have z1 := HZ12.out.cell 1
    have z2 := HZ12.out.cell 2
    have z3 := HZ12.out.cell 3
    have y0 := HV.out.cell 0
    have y1 := HV.out.cell 1
    have y2 := HV.out.cell 2
    have y3 := HV.out.cell 3
    simp only [List.getElem?_toArray, List.getElem?_cons_zero, List.getElem?_cons_succ] at z0 z1 z2 z3 y0 y1 y2 y3
    go_wp2_with fail
    refine (HTD.out _ _ _ _ _ _ (Nat.le_refl _) HR12.out HRI.out).mono ?_
    rintro e w20 ⟨rfl, hc20⟩
    have HB20 := belP HBf hc20
    clear hc20 HBf HZ12 HR12 HV HRI HB12 z0 z1 z2 z3 y0 y1 y2 y3 HTD
    go_wp2_with fail
    refine (HAW.out _ (HE.out.below HB20.out)).mono ?_
    rintro e w21 ⟨rfl, hc21⟩
    have HB21 := belP HB20 hc21
    clear hc21 HB20 HAW
    go_wp2
    go_ret
    exact ⟨rfl, HB21.out⟩
theorem polmore_law {p q : PSt} {v1 v2 : Value} (w : World) (hE : CondP.ErrV w) (hp : ActP.Pow10 w) (h1 : RulesI w.heap.size w v1 p.rules) (h2 : RulesI w.heap.size w v2 q.rules) (f1 : ∀ a n c, v1 = .slice a n c → SForm a n c) (f2 : ∀ a n c, v2 = .slice a n c → SForm a n c) (n1 : PolN p) (n2 : PolN q) :
    Calls Tryz.prog 7 #[PolV p.k p.n p.x v1, PolV q.k q.n q.x v2] w fun e w' => e = .returned (.bool true) ∧ Below w.heap.size w w' := by
  by_cases hd : LightP p.rules ∧ LightP q.rules ∧ q.rules ≠ []
  · obtain ⟨pa, pc, rfl, _⟩ := id h1
    obtain ⟨qa, qc, rfl, _⟩ := id h2
    refine polmore_light w hE hp h1 h2 (f1 _ _ _ rfl) ?_ n1 n2 hd.1 hd.2.1 hd.2.2
    rcases f2 _ _ _ rfl with ⟨_, e, _⟩ | ⟨_, _, e⟩
    · omega
    · exact e
  · exact polmore_dark w h1 h2 hd
end Go.Proofs.YtmjipkdejggbfaaGreatDoor
