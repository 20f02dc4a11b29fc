/- policy: a rule's line. -/
import Derived.Deep.Cut
import Derived.Deep.DeepCutAuto
import Derived.Deep.RegionWith
import Derived.Test.YtmjipkdejggbfaaGreatDoorQPolR
namespace Go.Proofs.YtmjipkdejggbfaaGreatDoor
open Go Go.Proofs Go.RowKit

/-- What a rule's line leaves: all but the reader's block and the rules' own. -/
def FrV (R : Nat) (row : Option Nat) (w w' : World) : Prop := Below R w w' ∧ w.heap.size ≤ w'.heap.size ∧ ∀ k, k < w.heap.size → k ≠ R → some k ≠ row → w'.heap[k]? = w.heap[k]?
theorem FrR.frV {R : Nat} {w w' : World} (row : Option Nat) (h : FrR R w w') : FrV R row w w' := ⟨h.1, h.2.1, fun k h1 h2 _ => h.2.2 k h1 h2⟩
def rulePost (R : Nat) (k n : Int) (x : Bool) (vr : Value) (cnt : Int) (rs : List PRule) (s : ByteArray) (K N : Int) (w : World) (res : Int ⊕ List PCond) (e : Ending) (w' : World) : Prop :=
  match res with
  | .inl c => e = .panicked (wrongP c) ∧ FrR R w w'
  | .inr cs => e = .returned (.tuple #[]) ∧ FrV R vr.ownBlock w w' ∧ ∃ vr' vw', RdB w' R k n x vr' vw' cnt ∧ RulesR TRl TCd (R + 1) w' vr' (rs ++ [⟨s, K, N, cs⟩])
theorem rulePost_err {R : Nat} {k n : Int} {x : Bool} {vr : Value} {cnt : Int} {rs : List PRule} {s : ByteArray} {K N : Int} {w : World} {res : Int ⊕ List PCond} {c : Int} (h : res = .inl c) {w' : World} (hf : FrR R w w') : rulePost R k n x vr cnt rs s K N w res (.panicked (wrongP c)) w' := by subst h; exact ⟨rfl, hf⟩
theorem FrR.drew {R : Nat} {a b : World} (h : FrR R a b) : FrR R a b.drew := ⟨h.1.drew, h.2.1, h.2.2⟩
/-- An append to a row of the call's own, as a step. -/
theorem wp_append_at {P : Program} (w : World) {o : Oper} {a : Act} {K : Act → World → Prop} {Q : Exit → Act → World → Prop} (s x : Operand) (t : TypeId)
    (ho : o.op = .call { callee := .builtin .append, args := #[s, x], argTypes := #[t, t] })
    (base : Nat) (e : TypeId) (i : TypeInfo) (z : Value) (size bytes : Nat) (ht : P.underlying t = some (.slice e)) (hi : P.info? e = some i) (hz : i.zero = some z)
    (hsize : i.size = size) (hby : i.bytes = bytes) (hzs : z.cells.size = size) (hsz : 0 < size)
    (v : Value) (n : Nat) (xs : List Value) (hs : a.eval s = v) (hown : w.ownsRow base e size v n xs)
    (ad : Addr) (m c : Nat) (news : List Value) (hx : a.eval x = .slice (some ad) m c) (hl : news.length = m * size) (hnews : ∀ j u, news[j]? = some u → w.cell? (ad.add j) = some u) (h1 : ∀ u ∈ news, u.oneCell' = true)
    (h63 : n + m ≤ maxLen) (hbytes : (n + m) * bytes ≤ 140737488355328) (hbase : base ≤ w.heap.size)
    (h : ∀ v' w', w'.ownsRow base e size v' (n + m) (xs ++ news) → w.grownBy w' v.ownBlock → K (a.put o.dst v') w') : Oper.wp P o a w K Q := by
  obtain ⟨v', w', hr, h2, h3, _, _⟩ := run_append_own (P := P) w base t o.type e i z size bytes ht hi hz hsize hby hzs hsz v n xs hown ad m c news hl hnews h1 h63 hbytes hbase
  unfold Oper.wp execOp
  simp only [ho, resolve, invoke, builtin, Sem.run_bind, Sem.run_pure, Result.andThen_ok, List.map_toArray, List.map_cons, List.map_nil, hs, hx, hr]
  exact h v' w' h2 h3
theorem cells4 (w : World) (a b c d : Value) (t : TypeId) : ∀ j u, [a, b, c, d][j]? = some u → (w.alloc (.cells #[a, b, c, d] t)).cell? ((⟨w.heap.size, 0, none⟩ : Addr).add j) = some u := by
  intro j u hj
  have h := (Blk.new w t #[a, b, c, d]).cell j
  rw [Addr.add_lit, Nat.zero_add, h, List.getElem?_toArray]
  exact hj
theorem frR_grown {R : Nat} {a b c : World} {row : Option Nat} (h : FrR R a b) (hg : b.grownBy c row) (hr : ∀ r, row = some r → a.heap.size < r) (hR : R ≤ a.heap.size := by omega) : FrR R a c := by
  refine ⟨h.1.grown hg (Nat.le_trans hR h.2.1) (fun r e => Nat.le_of_lt (Nat.lt_of_le_of_lt hR (hr r e))), Nat.le_trans h.2.1 hg.size, fun k hk hne => ?_⟩
  exact (hg.block k (Nat.lt_of_lt_of_le hk h.2.1) (fun e => by have := hr k e.symm; omega)).trans (h.2.2 k hk hne)
theorem ownP_set {W : World} {B e size n g j : Nat} {v u : Value} {xs : List Value} (h : W.ownsRow B e size v n xs) (hB : g < B) : (W.setCell ⟨g, j, none⟩ u).ownsRow B e size v n xs := by
  refine ⟨h.1, ?_⟩
  rcases h.2 with h2 | ⟨g1, cap, cur, h1, h2, h3, h4⟩
  · exact .inl h2
  · exact .inr ⟨g1, cap, cur, h1, h2, (Below.heap_setCell W ⟨g, j, none⟩ u g1 (show g1 ≠ g by omega)).trans h3, h4⟩
theorem ownP_kept {W W' : World} {B B' e e' n n' : Nat} {v v' : Value} {xs xs' : List Value} {o : Obj} (h : W.ownsRow B e 4 v n xs) (h' : W.ownsRow B' e' 4 v' n' xs') (he : e ≠ e') (hg : (W.alloc o).grownBy W' v'.ownBlock) : W'.ownsRow B e 4 v n xs := by
  have hne : ∀ g, v'.ownBlock = some g → v.ownBlock ≠ some g := fun g hg => ownsRow_ne h h' he hg
  have h0 := h.alloc o
  refine ⟨h0.1, ?_⟩
  rcases h0.2 with h2 | ⟨g, cap, cur, h1, h2, h3, h4⟩
  · exact .inl h2
  · exact .inr ⟨g, cap, cur, h1, h2, (hg.block g (Array.getElem?_eq_some_iff.1 h3).1 (fun e => hne g e.symm (by rw [h1]; rfl))).trans h3, h4⟩
theorem rules_snoc {R : Nat} {wr w7 : World} {v uc v' : Value} {rs : List PRule} {us : List Value} {s : ByteArray} {K N : Int} {acc : List PCond} {o : Obj} (h1 : us.length = rs.length) (h2 : wr.ownsRow (R + 1) TRl 4 v rs.length (flatR rs us)) (h3 : ∀ (j : Nat) (u : Value) (r : PRule), us[j]? = some u → rs[j]? = some r → wr.ownsRow (R + 1) TCd 4 u r.conds.length (flatC r.conds))
    (hu : wr.ownsRow (R + 1) TCd 4 uc acc.length (flatC acc)) (hg : (wr.alloc o).grownBy w7 v.ownBlock) (hown : w7.ownsRow (R + 1) TRl 4 v' (rs.length + 1) (flatR rs us ++ [.string s, .int .i64 K, .int .i64 N, uc])) : RulesR TRl TCd (R + 1) (w7.setCell ⟨R, 3, none⟩ v') v' (rs ++ [⟨s, K, N, acc⟩]) := by
  refine ⟨us ++ [uc], by simp [h1], ?_, fun j u r hj hr => ?_⟩
  · rw [flatR_snoc _ _ _ _ h1, List.length_append]
    exact ownP_set hown (Nat.lt_succ_self _)
  · refine ownP_set ?_ (Nat.lt_succ_self _)
    by_cases hlt : j < us.length
    · rw [List.getElem?_append_left hlt] at hj
      rw [List.getElem?_append_left (by omega)] at hr
      exact ownP_kept (h3 j u r hj hr) h2 (by decide) hg
    · rw [List.getElem?_append_right (by omega)] at hj
      rw [List.getElem?_append_right (by omega)] at hr
      have e : j = us.length := by
        have := (List.getElem?_eq_some_iff.1 hj).1
        simp at this
        omega
      subst e
      rw [h1] at hr
      simp at hj hr
      subst hj hr
      exact ownP_kept hu h2 (by decide) hg
theorem frV_end {R : Nat} {w wr w7 : World} {row : Option Nat} {o : Obj} {u : Value} (h : FrR R w wr) (hg : (wr.alloc o).grownBy w7 row) (hr : ∀ r, row = some r → R + 1 ≤ r ∧ r < wr.heap.size) (hR : R < wr.heap.size) : FrV R row w (w7.setCell ⟨R, 3, none⟩ u) := by
  have hb : Below R w w7 := (h.1.alloc (Nat.le_of_lt hR) o).grown hg (by simp; omega) (fun r e => by have := hr r e; omega)
  refine ⟨hb.setCell (p := ⟨R, 3, none⟩) (Nat.le_refl _) u, ?_, fun k hk hne hrow => ?_⟩
  · have h1 := h.2.1
    have h2 := hg.size
    simp at h2 ⊢
    omega
  · refine (Below.heap_setCell w7 ⟨R, 3, none⟩ u k hne).trans ?_
    have hk2 : k < wr.heap.size := Nat.lt_of_lt_of_le hk h.2.1
    refine (hg.block k (by simp; omega) hrow).trans ?_
    exact (Below.heap_alloc wr o k hk2).trans (h.2.2 k hk hne)
def wdB (acc : List PCond) : ByteArray := if acc.length = 0 then ⟨#[105, 102]⟩ else ⟨#[97, 110, 100]⟩
theorem wdB_list (acc : List PCond) : (wdB acc).toList = wordC acc := by unfold wdB wordC; split <;> decide +kernel
theorem infoCd : (Tryz.prog.info? 74).map (fun i => (i.zero, i.size, i.bytes)) = some (some (.agg #[.int .i64 0, .int .i64 0, .int .u64 0, .int .u64 0]), 4, 32) := by kernel_rfl
theorem infoRl : (Tryz.prog.info? 71).map (fun i => (i.zero, i.size, i.bytes)) = some (some (.agg #[.string ⟨#[]⟩, .int .i64 0, .int .i64 0, .slice none 0 0]), 4, 56) := by kernel_rfl
set_option maxRecDepth 100000 in
set_option maxHeartbeats 16000000 in
theorem rule_main {R : Nat} {k n : Int} {x : Bool} {vr vw : Value} {cnt : Int} {rs : List PRule} {ws : List ByteArray} {K N : Int} {m : Nat} (s : ByteArray) (hs : s.size ≤ 1000000) (hbig : ws.length ≤ 1000000) (hsz : ∀ s ∈ ws, s.size ≤ 1000000) (w : World) (hE : CondP.ErrV w) (hgR : 5 < R) (hR : RdB w R k n x vr vw cnt) (hRR : RulesR TRl TCd (R + 1) w vr rs) (hW : PWords R w vw ws) (hp : 0 < cnt) (hn : nameB s = true) (hm : rs.length < 500)
    (hans : ActP.readAns ws = (K, N, (m : Int), 0)) (hml : m ≤ ws.length) :
    Calls Tryz.prog 45 #[.pointer (some ⟨R, 0, none⟩), .string s] w (rulePost R k n x vr cnt rs s K N w (condsGo [] (ws.drop m))) := by
  have HRU := Lib.hid hRR
  obtain ⟨a0, c0, rfl⟩ := hRR.slice
  have hRl := Blk.lt hR
  have z5 := hR.parts.2.2.2.2.2
  have hmz : (rs.length : Int) < 500 := by omega
  have hnm := fun W => pnamed_any s hs W
  rw [hn] at hnm
  have HNM := Lib.hid hnm
  have HACT := Lib.hid (fun W hR hW => act_ok (R := R) (k := k) (n := n) (x := x) (vr := .slice a0 rs.length c0) (vw := vw) (cnt := cnt) hbig hsz hans hml W hR hW)
  have HW := Lib.hid hW
  have HR := Lib.hid hR
  have HSZ := Lib.hid hsz
  have HE := Lib.hid hE
  obtain ⟨L, hL⟩ : ∃ L, rs.length = L := ⟨_, rfl⟩
  have HL := Lib.hid hL
  rw [hL] at HR hmz HACT HRU hm ⊢
  obtain ⟨RES, hRES⟩ : ∃ RES, condsGo [] (ws.drop m) = RES := ⟨_, rfl⟩
  rw [hRES]
  have HRES := Lib.hid hRES
  clear hR hnm hn hRR hL hans hsz hW hE hRES
  go_enter Tryz.func45, Tryz.ntmps45
  go_wp2_with fail
  refine (HNM.out _).mono ?_
  rintro e w1 ⟨rfl, hb⟩
  have HF := Lib.hid (FrR.below hb (Nat.le_of_lt hRl))
  have HR1 := Lib.hid (RdB.below HR.out hb hRl)
  have HW1 := Lib.hid (HW.out.below HF.out.1 HF.out.2.1)
  have z3 := HR1.out.parts.2.2.2.1
  clear hb HNM z5 HR HW
  go_wp2_with fail
  refine (pneed_true _ _).mono ?_
  rintro e _ ⟨rfl, rfl⟩
  go_wp2_with fail
  refine (pneed_true _ _).mono ?_
  rintro e _ ⟨rfl, rfl⟩
  clear z3
  go_wp2_with fail
  refine (HACT.out _ HR1.out HW1.out).mono ?_
  rintro e w2 ⟨rfl, vw2, hw2, hr2, hf2⟩
  have hsz2 : w1.heap.size ≤ w2.heap.size := hf2.2.1
  have hsz1 : w.heap.size ≤ w1.heap.size := HF.out.2.1
  have HFA := Lib.hid ((HF.out.trans hf2).trans (FrR.alloc (.cells #[.string s, .int .i64 K, .int .i64 N, .slice none 0 0] TRl) (by omega)))
  have HWA := Lib.hid (hw2.below ((Below.refl R w2).alloc (by omega) (.cells #[.string s, .int .i64 K, .int .i64 N, .slice none 0 0] TRl)) (by simp))
  have HRA := Lib.hid (RdB.below hr2 ((Below.refl w2.heap.size w2).alloc (Nat.le_refl _) (.cells #[.string s, .int .i64 K, .int .i64 N, .slice none 0 0] TRl)) (by omega))
  have HOA := Lib.hid (Blk.new w2 TRl #[.string s, .int .i64 K, .int .i64 N, .slice none 0 0])
  have hROB : R < w2.heap.size := by omega
  clear HF HR1 HW1 HACT hw2 hr2 hf2
  go_upto_region 3 with fail
  generalize w2.alloc (.cells #[.string s, .int .i64 K, .int .i64 N, .slice none 0 0] TRl) = w3 at *
  have hwOB : w.heap.size ≤ w2.heap.size := by omega
  generalize w2.heap.size = OB at *
  go_loopg [5] (ws.length + 1) (fun gg _ wr => ∃ (wl : List ByteArray) (acc : List PCond) (vw uc : Value), wl.length < gg ∧ acc.length ≤ 6 ∧ wl.length ≤ 1000000 ∧ Hid (∀ s ∈ wl, s.size ≤ 1000000) ∧ Hid (condsGo acc wl = RES) ∧ Hid (PWords R wr vw wl) ∧ Hid (RdB wr R k n x (.slice a0 L c0) vw cnt) ∧ Hid (Blk wr OB TRl #[.string s, .int .i64 K, .int .i64 N, uc]) ∧ Hid (wr.ownsRow (OB + 1) TCd 4 uc acc.length (flatC acc)) ∧ Hid (FrR R w wr))
  case atStart => exact ⟨ws.drop m, [], vw2, .slice none 0 0, by rw [List.length_drop]; omega, by simp, by rw [List.length_drop]; omega, (show Hid _ from fun s h => HSZ.out s (List.mem_of_mem_drop h)), HRES, HWA, HRA, HOA, World.ownsRow_nil _ _ _ _, HFA⟩
  case round =>
    obtain ⟨wl, acc, vw, uc, hgg, hacc, hwl, HSZ2, HCG, HWr, HRr, HOr, HOW, HFr⟩ := hrel
    clear HSZ HRES HWA HRA HOA HFA
    have z4 := HRr.out.parts.2.2.2.2.1
    match wl, HSZ2, HCG, HWr, hgg, hwl with
    | [], HSZ2, HCG, HWr, hgg, hwl =>
      have HRES : Hid (RES = .inr acc) := by show _ = _; rw [← HCG.out, condsGo_nil]
      obtain ⟨av, cv, rfl, _, _⟩ := id HWr.out
      simp only [List.length_nil] at z4
      go_upto_region 10 with fail
      obtain ⟨us, hu1, hu2, hu3⟩ := RulesR.fr HRU.out HFr.out
      have HU1 := Lib.hid hu1
      have HU3 := Lib.hid hu3
      rw [HL.out] at hu2
      have HU2 := Lib.hid hu2
      have HU2d : Hid (wr.drew.ownsRow (R + 1) TRl 4 (.slice a0 L c0) L (flatR rs us)) := hu2
      have HUC := Lib.hid (ownP_mono HOW.out (by omega : R + 1 ≤ OB + 1))
      have HVO : Hid (∀ r, (Value.slice a0 L c0).ownBlock = some r → R + 1 ≤ r ∧ r < wr.heap.size) := fun r e => hu2.lt r e
      have hRwr : R < wr.heap.size := Blk.lt HRr.out
      obtain ⟨i1, hj, hy0, hy1, hy2⟩ := info_parts infoRl
      have huc1 : uc.oneCell' = true := by
        rcases HOW.out.2 with ⟨h, _⟩ | ⟨g, cc, _, h, _⟩ <;> rw [h] <;> rfl
      have hoc2 : ∀ u ∈ ([.string s, .int .i64 K, .int .i64 N, uc] : List Value), u.oneCell' = true := by
        intro u hu
        simp at hu
        rcases hu with rfl | rfl | rfl | rfl
        · rfl
        · rfl
        · rfl
        · exact huc1
      have h632 : L + 1 ≤ maxLen := by unfold maxLen; omega
      have hby2 : (L + 1) * 56 ≤ 140737488355328 := by omega
      have d3 := HRr.out.parts.2.2.2.1
      have d4 := HOr.out.cell 0
      have d5 := HOr.out.cell 1
      have d6 := HOr.out.cell 2
      have d7 := HOr.out.cell 3
      simp only [List.getElem?_toArray, List.getElem?_cons_zero, List.getElem?_cons_succ] at d4 d5 d6 d7
      clear hu1 hu2 hu3 huc1
      refine wp_region_held_drew (S := fun _ => True) (by kernel_rfl) trivial (fun hHeld => ?_)
      refine wpAnyH_take (i := 0) (oi := { dst := some 55, op := Op.move (Operand.tmp 0), type := 53, pos := "policy.go:149", after := #[], guard := none }) (v := ?vr0) rfl (by kernel_rfl) (by kernel_rfl) (by kernel_rfl) (fun _ _ _ h => h) (Or.inl ⟨by rfl, ?hyr0⟩) (by assumption) ?restr0
      case hyr0 =>
        intro w hSw
        try dsimp only at hSw
        try obtain ⟨hSw, hSw2⟩ := hSw
        try go_split_ands
        go_simp
        try with_reducible rfl
      try simp only [Act.put, List.setIfInBounds_toArray, List.set_cons_zero, List.set_cons_succ]
      refine wpAnyH_take (i := 1) (oi := { dst := some 56, op := Op.move (Operand.tmp 0), type := 53, pos := "policy.go:149", after := #[], guard := none }) (v := ?vr1) rfl (by kernel_rfl) (by kernel_rfl) (by kernel_rfl) (fun _ _ _ h => h) (Or.inl ⟨by rfl, ?hyr1⟩) (by assumption) ?restr1
      case hyr1 =>
        intro w hSw
        try dsimp only at hSw
        try obtain ⟨hSw, hSw2⟩ := hSw
        try go_split_ands
        go_simp
        try with_reducible rfl
      try simp only [Act.put, List.setIfInBounds_toArray, List.set_cons_zero, List.set_cons_succ]
      refine wpAnyH_take (i := 2) (oi := { dst := some 57, op := Op.nilCheck (Operand.tmp 56), type := 0, pos := "policy.go:149", after := #[{ on := 1, ground := Ground.data }], guard := none }) (v := ?vr2) rfl (by kernel_rfl) (by kernel_rfl) (by kernel_rfl) (fun _ _ _ h => h) (Or.inl ⟨by rfl, ?hyr2⟩) (by assumption) ?restr2
      case hyr2 =>
        intro w hSw
        try dsimp only at hSw
        try obtain ⟨hSw, hSw2⟩ := hSw
        try go_split_ands
        go_simp
        try with_reducible rfl
      try simp only [Act.put, List.setIfInBounds_toArray, List.set_cons_zero, List.set_cons_succ]
      refine wpAnyH_take (i := 3) (oi := { dst := some 58, op := Op.fieldAddr 56 (Operand.tmp 57) 0, type := 0, pos := "policy.go:149", after := #[{ on := 2, ground := Ground.data }], guard := none }) (v := ?vr3) rfl (by kernel_rfl) (by kernel_rfl) (by kernel_rfl) (fun _ _ _ h => h) (Or.inl ⟨by rfl, ?hyr3⟩) (by assumption) ?restr3
      case hyr3 =>
        intro w hSw
        try dsimp only at hSw
        try obtain ⟨hSw, hSw2⟩ := hSw
        try go_split_ands
        go_simp
        try with_reducible rfl
      try simp only [Act.put, List.setIfInBounds_toArray, List.set_cons_zero, List.set_cons_succ]
      refine wpAnyH_take (i := 4) (oi := { dst := some 59, op := Op.fieldAddr 26 (Operand.tmp 58) 2, type := 0, pos := "policy.go:149", after := #[{ on := 3, ground := Ground.data }], guard := none }) (v := ?vr4) rfl (by kernel_rfl) (by kernel_rfl) (by kernel_rfl) (fun _ _ _ h => h) (Or.inl ⟨by rfl, ?hyr4⟩) (by assumption) ?restr4
      case hyr4 =>
        intro w hSw
        try dsimp only at hSw
        try obtain ⟨hSw, hSw2⟩ := hSw
        try go_split_ands
        go_simp
        try with_reducible rfl
      try simp only [Act.put, List.setIfInBounds_toArray, List.set_cons_zero, List.set_cons_succ]
      refine wpAnyH_ready (rs := [5, 6]) (by kernel_rfl) (by simp) ?_
      refine AllReadyH.cons (o := { dst := some 60, op := Op.load 24 (Operand.tmp 59), type := 24, pos := "policy.go:149", after := #[{ on := 4, ground := Ground.data }], guard := none }) rfl (fun K' hK => ?ra) (AllReadyH.cons (o := { dst := some 61, op := Op.load 71 (Operand.tmp 4), type := 71, pos := "policy.go:149", after := #[], guard := none }) rfl (fun K' hK => ?rb) AllReadyH.nil)
      case ra =>
        go_simp
        clear hHeld
        refine hK.out _ _ trivial (fun hHeld => ?_)
        clear hK K'
        try simp only [Act.put, List.setIfInBounds_toArray, List.set_cons_zero, List.set_cons_succ]
        refine wpAnyH_ready (rs := [6]) (by kernel_rfl) (by simp) ?_
        refine AllReadyH.cons (o := { dst := some 61, op := Op.load 71 (Operand.tmp 4), type := 71, pos := "policy.go:149", after := #[], guard := none }) rfl (fun K' hK => ?rc) AllReadyH.nil
        case rc =>
          go_simp
          clear hHeld
          refine hK.out _ _ trivial (fun hHeld => ?_)
          clear hK K'
          try simp only [Act.put, List.setIfInBounds_toArray, List.set_cons_zero, List.set_cons_succ]
          refine wpAnyH_ready (rs := [7]) (by kernel_rfl) (by simp) ?_
          refine AllReadyH.cons (o := { dst := some 62, op := Op.buildSlice 24 1 #[(0, Operand.tmp 61)], type := 24, pos := "policy.go:149", after := #[{ on := 6, ground := Ground.data }], guard := none }) rfl (fun K' hK => ?rd) AllReadyH.nil
          case rd =>
            go_simp
            clear hHeld
            refine hK.out _ _ trivial (fun hHeld => ?_)
            clear hK K'
            try simp only [Act.put, List.setIfInBounds_toArray, List.set_cons_zero, List.set_cons_succ]
            refine wpAnyH_ready (rs := [8]) (by kernel_rfl) (by simp) ?_
            refine AllReadyH.cons (o := { dst := some 63, op := Op.call { callee := Callee.builtin Builtin.append, args := #[Operand.tmp 60, Operand.tmp 62], argTypes := #[24, 24] }, type := 24, pos := "policy.go:149", after := #[{ on := 5, ground := Ground.data }, { on := 7, ground := Ground.data }], guard := none }) rfl (fun K' hK => ?rpa) AllReadyH.nil
            case rpa =>
              refine wp_append_at _ _ _ 24 (by rfl) (R + 1) 71 i1 (.agg #[.string ⟨#[]⟩, .int .i64 0, .int .i64 0, .slice none 0 0]) 4 56 Tryz.underlying24 hj hy0 hy1 hy2 rfl (by decide) (.slice a0 L c0) L (flatR rs us) (by rfl) (HU2d.out.alloc (.cells #[.string s, .int .i64 K, .int .i64 N, uc] 71)) ⟨wr.heap.size, 0, none⟩ 1 1 [.string s, .int .i64 K, .int .i64 N, uc] (by rfl) rfl (cells4 wr (.string s) (.int .i64 K) (.int .i64 N) uc 71) hoc2 h632 hby2 (by simp; omega) ?_
              intro v' w7 hown' hgrow
              have hgrow2 : (wr.alloc (.cells #[.string s, .int .i64 K, .int .i64 N, uc] 71)).grownBy w7 (Value.slice a0 L c0).ownBlock := ⟨hgrow.os, hgrow.tape, hgrow.output, hgrow.size, hgrow.block⟩
              have HR7 : Hid (RdB w7 R k n x (.slice a0 L c0) (.slice av 0 cv) cnt) := (hgrow2.block R (by have := Blk.lt HRr.out; simp; omega) (fun e => by have := HVO.out R e.symm; omega)).trans (Blk.alloc HRr.out _)
              obtain ⟨g7, q7, rfl⟩ := ownsRow_succ hown'
              have HRN : Hid (RulesR TRl TCd (R + 1) (w7.setCell ⟨R, 3, none⟩ (.slice (some ⟨g7, 0, none⟩) (L + 1) q7)) (.slice (some ⟨g7, 0, none⟩) (L + 1) q7) (rs ++ [⟨s, K, N, acc⟩])) := rules_snoc HU1.out (by rw [HL.out]; exact HU2.out) HU3.out HUC.out hgrow2 (by rw [HL.out]; exact hown')
              have HFV : Hid (FrV R (Value.slice a0 L c0).ownBlock w (w7.setCell ⟨R, 3, none⟩ (.slice (some ⟨g7, 0, none⟩) (L + 1) q7))) := frV_end HFr.out hgrow2 (fun r e => by have := HVO.out r e; omega) (by omega)
              clear hown' hgrow hgrow2
              clear hHeld
              refine hK.out _ _ trivial (fun hHeld => ?_)
              clear hK K'
              try simp only [Act.put, List.setIfInBounds_toArray, List.set_cons_zero, List.set_cons_succ]
              refine wpAnyH_take (i := 9) (oi := { dst := some 64, op := Op.nilCheck (Operand.tmp 55), type := 0, pos := "policy.go:149", after := #[{ on := 0, ground := Ground.data }, { on := 0, ground := Ground.phase }, { on := 1, ground := Ground.phase }, { on := 2, ground := Ground.phase }, { on := 3, ground := Ground.phase }, { on := 4, ground := Ground.phase }, { on := 5, ground := Ground.phase }, { on := 6, ground := Ground.phase }, { on := 7, ground := Ground.phase }, { on := 8, ground := Ground.phase }], guard := none }) (v := ?vua9) rfl (by kernel_rfl) (by kernel_rfl) (by kernel_rfl) (fun _ _ _ h => h) (Or.inl ⟨by rfl, ?hyua9⟩) (by assumption) ?restua9
              case hyua9 =>
                intro w hSw
                try dsimp only at hSw
                try obtain ⟨hSw, hSw2⟩ := hSw
                try go_split_ands
                go_simp
                try with_reducible rfl
              try simp only [Act.put, List.setIfInBounds_toArray, List.set_cons_zero, List.set_cons_succ]
              refine wpAnyH_take (i := 10) (oi := { dst := some 65, op := Op.fieldAddr 56 (Operand.tmp 64) 0, type := 0, pos := "policy.go:149", after := #[{ on := 9, ground := Ground.data }, { on := 0, ground := Ground.phase }, { on := 1, ground := Ground.phase }, { on := 2, ground := Ground.phase }, { on := 3, ground := Ground.phase }, { on := 4, ground := Ground.phase }, { on := 5, ground := Ground.phase }, { on := 6, ground := Ground.phase }, { on := 7, ground := Ground.phase }, { on := 8, ground := Ground.phase }], guard := none }) (v := ?vua10) rfl (by kernel_rfl) (by kernel_rfl) (by kernel_rfl) (fun _ _ _ h => h) (Or.inl ⟨by rfl, ?hyua10⟩) (by assumption) ?restua10
              case hyua10 =>
                intro w hSw
                try dsimp only at hSw
                try obtain ⟨hSw, hSw2⟩ := hSw
                try go_split_ands
                go_simp
                try with_reducible rfl
              try simp only [Act.put, List.setIfInBounds_toArray, List.set_cons_zero, List.set_cons_succ]
              refine wpAnyH_take (i := 11) (oi := { dst := some 66, op := Op.fieldAddr 26 (Operand.tmp 65) 2, type := 0, pos := "policy.go:149", after := #[{ on := 10, ground := Ground.data }, { on := 0, ground := Ground.phase }, { on := 1, ground := Ground.phase }, { on := 2, ground := Ground.phase }, { on := 3, ground := Ground.phase }, { on := 4, ground := Ground.phase }, { on := 5, ground := Ground.phase }, { on := 6, ground := Ground.phase }, { on := 7, ground := Ground.phase }, { on := 8, ground := Ground.phase }], guard := none }) (v := ?vua11) rfl (by kernel_rfl) (by kernel_rfl) (by kernel_rfl) (fun _ _ _ h => h) (Or.inl ⟨by rfl, ?hyua11⟩) (by assumption) ?restua11
              case hyua11 =>
                intro w hSw
                try dsimp only at hSw
                try obtain ⟨hSw, hSw2⟩ := hSw
                try go_split_ands
                go_simp
                try with_reducible rfl
              try simp only [Act.put, List.setIfInBounds_toArray, List.set_cons_zero, List.set_cons_succ]
              refine wpAnyH_ready (rs := [12]) (by kernel_rfl) (by simp) ?_
              refine AllReadyH.cons (o := { dst := none, op := Op.store 24 (Operand.tmp 66) (Operand.tmp 63), type := 0, pos := "policy.go:149", after := #[{ on := 11, ground := Ground.data }, { on := 8, ground := Ground.data }, { on := 8, ground := Ground.chain }, { on := 0, ground := Ground.phase }, { on := 1, ground := Ground.phase }, { on := 2, ground := Ground.phase }, { on := 3, ground := Ground.phase }, { on := 4, ground := Ground.phase }, { on := 5, ground := Ground.phase }, { on := 6, ground := Ground.phase }, { on := 7, ground := Ground.phase }, { on := 8, ground := Ground.phase }], guard := none }) rfl (fun K' hK => ?rsa) AllReadyH.nil
              case rsa =>
                have f3 := Blk.frozen HR7.out 3
                have u3 := HR7.out.parts.2.2.2.1
                have HRZ : Hid (RdB (w7.setCell ⟨R, 3, none⟩ (.slice (some ⟨g7, 0, none⟩) (L + 1) q7)) R k n x (.slice (some ⟨g7, 0, none⟩) (L + 1) q7) (.slice av 0 cv) cnt) := Blk.set 3 _ HR7.out
                go_simp
                clear hHeld
                refine hK.out _ _ trivial (fun hHeld => ?_)
                clear hK K'
                try simp only [Act.put, List.setIfInBounds_toArray, List.set_cons_zero, List.set_cons_succ]
                refine wpAnyH_done (by kernel_rfl) ?_ _
                clear hHeld f3 u3
                go_wp2
                rw [HRES.out]
                first
                  | (go_end0; exact ⟨rfl, HFV.out, _, _, HRZ.out, HRN.out⟩)
                  | (refine bodyPost_ret (results_none rfl _ _ _) rfl ?_; exact ⟨rfl, HFV.out, _, _, HRZ.out, HRN.out⟩)
      case rb =>
        go_simp
        clear hHeld
        refine hK.out _ _ trivial (fun hHeld => ?_)
        clear hK K'
        try simp only [Act.put, List.setIfInBounds_toArray, List.set_cons_zero, List.set_cons_succ]
        refine wpAnyH_ready (rs := [5, 7]) (by kernel_rfl) (by simp) ?_
        refine AllReadyH.cons (o := { dst := some 60, op := Op.load 24 (Operand.tmp 59), type := 24, pos := "policy.go:149", after := #[{ on := 4, ground := Ground.data }], guard := none }) rfl (fun K' hK => ?re) (AllReadyH.cons (o := { dst := some 62, op := Op.buildSlice 24 1 #[(0, Operand.tmp 61)], type := 24, pos := "policy.go:149", after := #[{ on := 6, ground := Ground.data }], guard := none }) rfl (fun K' hK => ?rf) AllReadyH.nil)
        case re =>
          go_simp
          clear hHeld
          refine hK.out _ _ trivial (fun hHeld => ?_)
          clear hK K'
          try simp only [Act.put, List.setIfInBounds_toArray, List.set_cons_zero, List.set_cons_succ]
          refine wpAnyH_ready (rs := [7]) (by kernel_rfl) (by simp) ?_
          refine AllReadyH.cons (o := { dst := some 62, op := Op.buildSlice 24 1 #[(0, Operand.tmp 61)], type := 24, pos := "policy.go:149", after := #[{ on := 6, ground := Ground.data }], guard := none }) rfl (fun K' hK => ?rg) AllReadyH.nil
          case rg =>
            go_simp
            clear hHeld
            refine hK.out _ _ trivial (fun hHeld => ?_)
            clear hK K'
            try simp only [Act.put, List.setIfInBounds_toArray, List.set_cons_zero, List.set_cons_succ]
            refine wpAnyH_ready (rs := [8]) (by kernel_rfl) (by simp) ?_
            refine AllReadyH.cons (o := { dst := some 63, op := Op.call { callee := Callee.builtin Builtin.append, args := #[Operand.tmp 60, Operand.tmp 62], argTypes := #[24, 24] }, type := 24, pos := "policy.go:149", after := #[{ on := 5, ground := Ground.data }, { on := 7, ground := Ground.data }], guard := none }) rfl (fun K' hK => ?rpb) AllReadyH.nil
            case rpb =>
              refine wp_append_at _ _ _ 24 (by rfl) (R + 1) 71 i1 (.agg #[.string ⟨#[]⟩, .int .i64 0, .int .i64 0, .slice none 0 0]) 4 56 Tryz.underlying24 hj hy0 hy1 hy2 rfl (by decide) (.slice a0 L c0) L (flatR rs us) (by rfl) (HU2d.out.alloc (.cells #[.string s, .int .i64 K, .int .i64 N, uc] 71)) ⟨wr.heap.size, 0, none⟩ 1 1 [.string s, .int .i64 K, .int .i64 N, uc] (by rfl) rfl (cells4 wr (.string s) (.int .i64 K) (.int .i64 N) uc 71) hoc2 h632 hby2 (by simp; omega) ?_
              intro v' w7 hown' hgrow
              have hgrow2 : (wr.alloc (.cells #[.string s, .int .i64 K, .int .i64 N, uc] 71)).grownBy w7 (Value.slice a0 L c0).ownBlock := ⟨hgrow.os, hgrow.tape, hgrow.output, hgrow.size, hgrow.block⟩
              have HR7 : Hid (RdB w7 R k n x (.slice a0 L c0) (.slice av 0 cv) cnt) := (hgrow2.block R (by have := Blk.lt HRr.out; simp; omega) (fun e => by have := HVO.out R e.symm; omega)).trans (Blk.alloc HRr.out _)
              obtain ⟨g7, q7, rfl⟩ := ownsRow_succ hown'
              have HRN : Hid (RulesR TRl TCd (R + 1) (w7.setCell ⟨R, 3, none⟩ (.slice (some ⟨g7, 0, none⟩) (L + 1) q7)) (.slice (some ⟨g7, 0, none⟩) (L + 1) q7) (rs ++ [⟨s, K, N, acc⟩])) := rules_snoc HU1.out (by rw [HL.out]; exact HU2.out) HU3.out HUC.out hgrow2 (by rw [HL.out]; exact hown')
              have HFV : Hid (FrV R (Value.slice a0 L c0).ownBlock w (w7.setCell ⟨R, 3, none⟩ (.slice (some ⟨g7, 0, none⟩) (L + 1) q7))) := frV_end HFr.out hgrow2 (fun r e => by have := HVO.out r e; omega) (by omega)
              clear hown' hgrow hgrow2
              clear hHeld
              refine hK.out _ _ trivial (fun hHeld => ?_)
              clear hK K'
              try simp only [Act.put, List.setIfInBounds_toArray, List.set_cons_zero, List.set_cons_succ]
              refine wpAnyH_take (i := 9) (oi := { dst := some 64, op := Op.nilCheck (Operand.tmp 55), type := 0, pos := "policy.go:149", after := #[{ on := 0, ground := Ground.data }, { on := 0, ground := Ground.phase }, { on := 1, ground := Ground.phase }, { on := 2, ground := Ground.phase }, { on := 3, ground := Ground.phase }, { on := 4, ground := Ground.phase }, { on := 5, ground := Ground.phase }, { on := 6, ground := Ground.phase }, { on := 7, ground := Ground.phase }, { on := 8, ground := Ground.phase }], guard := none }) (v := ?vub9) rfl (by kernel_rfl) (by kernel_rfl) (by kernel_rfl) (fun _ _ _ h => h) (Or.inl ⟨by rfl, ?hyub9⟩) (by assumption) ?restub9
              case hyub9 =>
                intro w hSw
                try dsimp only at hSw
                try obtain ⟨hSw, hSw2⟩ := hSw
                try go_split_ands
                go_simp
                try with_reducible rfl
              try simp only [Act.put, List.setIfInBounds_toArray, List.set_cons_zero, List.set_cons_succ]
              refine wpAnyH_take (i := 10) (oi := { dst := some 65, op := Op.fieldAddr 56 (Operand.tmp 64) 0, type := 0, pos := "policy.go:149", after := #[{ on := 9, ground := Ground.data }, { on := 0, ground := Ground.phase }, { on := 1, ground := Ground.phase }, { on := 2, ground := Ground.phase }, { on := 3, ground := Ground.phase }, { on := 4, ground := Ground.phase }, { on := 5, ground := Ground.phase }, { on := 6, ground := Ground.phase }, { on := 7, ground := Ground.phase }, { on := 8, ground := Ground.phase }], guard := none }) (v := ?vub10) rfl (by kernel_rfl) (by kernel_rfl) (by kernel_rfl) (fun _ _ _ h => h) (Or.inl ⟨by rfl, ?hyub10⟩) (by assumption) ?restub10
              case hyub10 =>
                intro w hSw
                try dsimp only at hSw
                try obtain ⟨hSw, hSw2⟩ := hSw
                try go_split_ands
                go_simp
                try with_reducible rfl
              try simp only [Act.put, List.setIfInBounds_toArray, List.set_cons_zero, List.set_cons_succ]
              refine wpAnyH_take (i := 11) (oi := { dst := some 66, op := Op.fieldAddr 26 (Operand.tmp 65) 2, type := 0, pos := "policy.go:149", after := #[{ on := 10, ground := Ground.data }, { on := 0, ground := Ground.phase }, { on := 1, ground := Ground.phase }, { on := 2, ground := Ground.phase }, { on := 3, ground := Ground.phase }, { on := 4, ground := Ground.phase }, { on := 5, ground := Ground.phase }, { on := 6, ground := Ground.phase }, { on := 7, ground := Ground.phase }, { on := 8, ground := Ground.phase }], guard := none }) (v := ?vub11) rfl (by kernel_rfl) (by kernel_rfl) (by kernel_rfl) (fun _ _ _ h => h) (Or.inl ⟨by rfl, ?hyub11⟩) (by assumption) ?restub11
              case hyub11 =>
                intro w hSw
                try dsimp only at hSw
                try obtain ⟨hSw, hSw2⟩ := hSw
                try go_split_ands
                go_simp
                try with_reducible rfl
              try simp only [Act.put, List.setIfInBounds_toArray, List.set_cons_zero, List.set_cons_succ]
              refine wpAnyH_ready (rs := [12]) (by kernel_rfl) (by simp) ?_
              refine AllReadyH.cons (o := { dst := none, op := Op.store 24 (Operand.tmp 66) (Operand.tmp 63), type := 0, pos := "policy.go:149", after := #[{ on := 11, ground := Ground.data }, { on := 8, ground := Ground.data }, { on := 8, ground := Ground.chain }, { on := 0, ground := Ground.phase }, { on := 1, ground := Ground.phase }, { on := 2, ground := Ground.phase }, { on := 3, ground := Ground.phase }, { on := 4, ground := Ground.phase }, { on := 5, ground := Ground.phase }, { on := 6, ground := Ground.phase }, { on := 7, ground := Ground.phase }, { on := 8, ground := Ground.phase }], guard := none }) rfl (fun K' hK => ?rsb) AllReadyH.nil
              case rsb =>
                have f3 := Blk.frozen HR7.out 3
                have u3 := HR7.out.parts.2.2.2.1
                have HRZ : Hid (RdB (w7.setCell ⟨R, 3, none⟩ (.slice (some ⟨g7, 0, none⟩) (L + 1) q7)) R k n x (.slice (some ⟨g7, 0, none⟩) (L + 1) q7) (.slice av 0 cv) cnt) := Blk.set 3 _ HR7.out
                go_simp
                clear hHeld
                refine hK.out _ _ trivial (fun hHeld => ?_)
                clear hK K'
                try simp only [Act.put, List.setIfInBounds_toArray, List.set_cons_zero, List.set_cons_succ]
                refine wpAnyH_done (by kernel_rfl) ?_ _
                clear hHeld f3 u3
                go_wp2
                rw [HRES.out]
                first
                  | (go_end0; exact ⟨rfl, HFV.out, _, _, HRZ.out, HRN.out⟩)
                  | (refine bodyPost_ret (results_none rfl _ _ _) rfl ?_; exact ⟨rfl, HFV.out, _, _, HRZ.out, HRN.out⟩)
        case rf =>
          go_simp
          clear hHeld
          refine hK.out _ _ trivial (fun hHeld => ?_)
          clear hK K'
          try simp only [Act.put, List.setIfInBounds_toArray, List.set_cons_zero, List.set_cons_succ]
          refine wpAnyH_ready (rs := [5]) (by kernel_rfl) (by simp) ?_
          refine AllReadyH.cons (o := { dst := some 60, op := Op.load 24 (Operand.tmp 59), type := 24, pos := "policy.go:149", after := #[{ on := 4, ground := Ground.data }], guard := none }) rfl (fun K' hK => ?rh) AllReadyH.nil
          case rh =>
            go_simp
            clear hHeld
            refine hK.out _ _ trivial (fun hHeld => ?_)
            clear hK K'
            try simp only [Act.put, List.setIfInBounds_toArray, List.set_cons_zero, List.set_cons_succ]
            refine wpAnyH_ready (rs := [8]) (by kernel_rfl) (by simp) ?_
            refine AllReadyH.cons (o := { dst := some 63, op := Op.call { callee := Callee.builtin Builtin.append, args := #[Operand.tmp 60, Operand.tmp 62], argTypes := #[24, 24] }, type := 24, pos := "policy.go:149", after := #[{ on := 5, ground := Ground.data }, { on := 7, ground := Ground.data }], guard := none }) rfl (fun K' hK => ?rpc) AllReadyH.nil
            case rpc =>
              refine wp_append_at _ _ _ 24 (by rfl) (R + 1) 71 i1 (.agg #[.string ⟨#[]⟩, .int .i64 0, .int .i64 0, .slice none 0 0]) 4 56 Tryz.underlying24 hj hy0 hy1 hy2 rfl (by decide) (.slice a0 L c0) L (flatR rs us) (by rfl) (HU2d.out.alloc (.cells #[.string s, .int .i64 K, .int .i64 N, uc] 71)) ⟨wr.heap.size, 0, none⟩ 1 1 [.string s, .int .i64 K, .int .i64 N, uc] (by rfl) rfl (cells4 wr (.string s) (.int .i64 K) (.int .i64 N) uc 71) hoc2 h632 hby2 (by simp; omega) ?_
              intro v' w7 hown' hgrow
              have hgrow2 : (wr.alloc (.cells #[.string s, .int .i64 K, .int .i64 N, uc] 71)).grownBy w7 (Value.slice a0 L c0).ownBlock := ⟨hgrow.os, hgrow.tape, hgrow.output, hgrow.size, hgrow.block⟩
              have HR7 : Hid (RdB w7 R k n x (.slice a0 L c0) (.slice av 0 cv) cnt) := (hgrow2.block R (by have := Blk.lt HRr.out; simp; omega) (fun e => by have := HVO.out R e.symm; omega)).trans (Blk.alloc HRr.out _)
              obtain ⟨g7, q7, rfl⟩ := ownsRow_succ hown'
              have HRN : Hid (RulesR TRl TCd (R + 1) (w7.setCell ⟨R, 3, none⟩ (.slice (some ⟨g7, 0, none⟩) (L + 1) q7)) (.slice (some ⟨g7, 0, none⟩) (L + 1) q7) (rs ++ [⟨s, K, N, acc⟩])) := rules_snoc HU1.out (by rw [HL.out]; exact HU2.out) HU3.out HUC.out hgrow2 (by rw [HL.out]; exact hown')
              have HFV : Hid (FrV R (Value.slice a0 L c0).ownBlock w (w7.setCell ⟨R, 3, none⟩ (.slice (some ⟨g7, 0, none⟩) (L + 1) q7))) := frV_end HFr.out hgrow2 (fun r e => by have := HVO.out r e; omega) (by omega)
              clear hown' hgrow hgrow2
              clear hHeld
              refine hK.out _ _ trivial (fun hHeld => ?_)
              clear hK K'
              try simp only [Act.put, List.setIfInBounds_toArray, List.set_cons_zero, List.set_cons_succ]
              refine wpAnyH_take (i := 9) (oi := { dst := some 64, op := Op.nilCheck (Operand.tmp 55), type := 0, pos := "policy.go:149", after := #[{ on := 0, ground := Ground.data }, { on := 0, ground := Ground.phase }, { on := 1, ground := Ground.phase }, { on := 2, ground := Ground.phase }, { on := 3, ground := Ground.phase }, { on := 4, ground := Ground.phase }, { on := 5, ground := Ground.phase }, { on := 6, ground := Ground.phase }, { on := 7, ground := Ground.phase }, { on := 8, ground := Ground.phase }], guard := none }) (v := ?vuc9) rfl (by kernel_rfl) (by kernel_rfl) (by kernel_rfl) (fun _ _ _ h => h) (Or.inl ⟨by rfl, ?hyuc9⟩) (by assumption) ?restuc9
              case hyuc9 =>
                intro w hSw
                try dsimp only at hSw
                try obtain ⟨hSw, hSw2⟩ := hSw
                try go_split_ands
                go_simp
                try with_reducible rfl
              try simp only [Act.put, List.setIfInBounds_toArray, List.set_cons_zero, List.set_cons_succ]
              refine wpAnyH_take (i := 10) (oi := { dst := some 65, op := Op.fieldAddr 56 (Operand.tmp 64) 0, type := 0, pos := "policy.go:149", after := #[{ on := 9, ground := Ground.data }, { on := 0, ground := Ground.phase }, { on := 1, ground := Ground.phase }, { on := 2, ground := Ground.phase }, { on := 3, ground := Ground.phase }, { on := 4, ground := Ground.phase }, { on := 5, ground := Ground.phase }, { on := 6, ground := Ground.phase }, { on := 7, ground := Ground.phase }, { on := 8, ground := Ground.phase }], guard := none }) (v := ?vuc10) rfl (by kernel_rfl) (by kernel_rfl) (by kernel_rfl) (fun _ _ _ h => h) (Or.inl ⟨by rfl, ?hyuc10⟩) (by assumption) ?restuc10
              case hyuc10 =>
                intro w hSw
                try dsimp only at hSw
                try obtain ⟨hSw, hSw2⟩ := hSw
                try go_split_ands
                go_simp
                try with_reducible rfl
              try simp only [Act.put, List.setIfInBounds_toArray, List.set_cons_zero, List.set_cons_succ]
              refine wpAnyH_take (i := 11) (oi := { dst := some 66, op := Op.fieldAddr 26 (Operand.tmp 65) 2, type := 0, pos := "policy.go:149", after := #[{ on := 10, ground := Ground.data }, { on := 0, ground := Ground.phase }, { on := 1, ground := Ground.phase }, { on := 2, ground := Ground.phase }, { on := 3, ground := Ground.phase }, { on := 4, ground := Ground.phase }, { on := 5, ground := Ground.phase }, { on := 6, ground := Ground.phase }, { on := 7, ground := Ground.phase }, { on := 8, ground := Ground.phase }], guard := none }) (v := ?vuc11) rfl (by kernel_rfl) (by kernel_rfl) (by kernel_rfl) (fun _ _ _ h => h) (Or.inl ⟨by rfl, ?hyuc11⟩) (by assumption) ?restuc11
              case hyuc11 =>
                intro w hSw
                try dsimp only at hSw
                try obtain ⟨hSw, hSw2⟩ := hSw
                try go_split_ands
                go_simp
                try with_reducible rfl
              try simp only [Act.put, List.setIfInBounds_toArray, List.set_cons_zero, List.set_cons_succ]
              refine wpAnyH_ready (rs := [12]) (by kernel_rfl) (by simp) ?_
              refine AllReadyH.cons (o := { dst := none, op := Op.store 24 (Operand.tmp 66) (Operand.tmp 63), type := 0, pos := "policy.go:149", after := #[{ on := 11, ground := Ground.data }, { on := 8, ground := Ground.data }, { on := 8, ground := Ground.chain }, { on := 0, ground := Ground.phase }, { on := 1, ground := Ground.phase }, { on := 2, ground := Ground.phase }, { on := 3, ground := Ground.phase }, { on := 4, ground := Ground.phase }, { on := 5, ground := Ground.phase }, { on := 6, ground := Ground.phase }, { on := 7, ground := Ground.phase }, { on := 8, ground := Ground.phase }], guard := none }) rfl (fun K' hK => ?rsc) AllReadyH.nil
              case rsc =>
                have f3 := Blk.frozen HR7.out 3
                have u3 := HR7.out.parts.2.2.2.1
                have HRZ : Hid (RdB (w7.setCell ⟨R, 3, none⟩ (.slice (some ⟨g7, 0, none⟩) (L + 1) q7)) R k n x (.slice (some ⟨g7, 0, none⟩) (L + 1) q7) (.slice av 0 cv) cnt) := Blk.set 3 _ HR7.out
                go_simp
                clear hHeld
                refine hK.out _ _ trivial (fun hHeld => ?_)
                clear hK K'
                try simp only [Act.put, List.setIfInBounds_toArray, List.set_cons_zero, List.set_cons_succ]
                refine wpAnyH_done (by kernel_rfl) ?_ _
                clear hHeld f3 u3
                go_wp2
                rw [HRES.out]
                first
                  | (go_end0; exact ⟨rfl, HFV.out, _, _, HRZ.out, HRN.out⟩)
                  | (refine bodyPost_ret (results_none rfl _ _ _) rfl ?_; exact ⟨rfl, HFV.out, _, _, HRZ.out, HRN.out⟩)
    | w0 :: r, HSZ2, HCG, HWr, hgg, hwl =>
      obtain ⟨b, off, cv, rfl, hcl, hbR⟩ := HWr.out.head
      have hl0 : (0 : Int) < ((r.length + 1 : Nat) : Int) := by omega
      obtain ⟨LR, hLR⟩ : ∃ LR, r.length + 1 = LR := ⟨_, rfl⟩
      have HNX := Lib.hid (next_any (by simp at hwl; omega) wr HRr.out HWr.out)
      rw [hLR] at z4 hl0
      have o3 := HOr.out.cell 3
      simp only [List.getElem?_toArray, List.getElem?_cons_zero, List.getElem?_cons_succ] at o3
      obtain ⟨ua, uq, rfl⟩ : ∃ ua uq, uc = .slice ua acc.length uq := by
        rcases HOW.out.2 with ⟨h, h0⟩ | ⟨g, cc, _, h, _⟩
        · exact ⟨none, 0, by rw [h, h0]⟩
        · exact ⟨_, _, h⟩
      obtain ⟨AL, hAL⟩ : ∃ AL, acc.length = AL := ⟨_, rfl⟩
      have HAL := Lib.hid hAL
      have hWD : Hid (wdB acc = if AL = 0 then ⟨#[105, 102]⟩ else ⟨#[97, 110, 100]⟩) := by show _ = _; rw [← hAL]; rfl
      rw [hAL] at o3 HOW hacc HOr
      clear hAL hcl
      go_upto_if 37 with fail
      go_cut [5] (fun s5 wx => s5 = .string (wdB acc) ∧ wr = wx)
      case first =>
        by_cases h0 : AL = 0
        · subst h0
          go_wp2_with fail
          go_meet
          exact ⟨by rw [hWD.out]; simp, rfl⟩
        · have h0z : ¬ (AL : Int) = 0 := by omega
          have h0b : ((AL : Int) == 0) = false := by simpa using h0z
          go_wp2_with fail
          go_meet
          exact ⟨by rw [hWD.out, if_neg h0], rfl⟩
      case rest =>
        obtain ⟨rfl, rfl⟩ := hcut
        have HWL := Lib.hid (wdB_list acc)
        have hcst : condsStep acc w0 r = if (w0.toList == (wdB acc).toList) = false then .inl 13 else if 6 ≤ acc.length then .inl 3 else if (CondP.readAns r).e ≠ 0 then .inl (formE (CondP.readAns r).e) else .inr (acc ++ [⟨(CondP.readAns r).a, (CondP.readAns r).o, (CondP.readAns r).m, (CondP.readAns r).v⟩], r.drop (CondP.readAns r).n.toNat) := by rw [wdB_list]; rfl
        have HCS := Lib.hid hcst
        clear hcst hWD o3
        generalize wdB acc = WD at *
        go_wp2_with fail
        refine HNX.out.mono ?_
        rintro e w5 ⟨rfl, vw5, hw5, hr5, hs5⟩
        have HF5 := Lib.hid (HFr.out.trans (FrR.ofSet hs5))
        have HW5 := Lib.hid hw5
        have HR5 := Lib.hid hr5
        have HO5 : Hid (Blk w5 OB TRl #[.string s, .int .i64 K, .int .i64 N, .slice ua AL uq]) := by rw [hs5]; exact HOr.out.other (by omega) 4 vw5
        have HOW5 : Hid (w5.ownsRow (OB + 1) TCd 4 (.slice ua AL uq) AL (flatC acc)) := (FrR.ofSet hs5).own HOW.out (by omega)
        clear HNX hw5 hr5 hs5 HFr HRr HOr HOW HWr z4
        by_cases hwd : (w0.toList == WD.toList) = true
        case neg =>
          have hwd2 : (w0.toList == WD.toList) = false := by simpa using hwd
          have hwd3 : ¬ w0.toList = WD.toList := by simpa using hwd2
          have HERR : Hid (RES = .inl 13) := by show _ = _; rw [← HCG.out]; exact condsGo_err (by rw [HCS.out, if_pos hwd2])
          clear hwd HCS
          go_wp2_with (go_at_call 65; refine (pneed_false _ _).mono ?_; rintro e w' ⟨rfl, rfl⟩)
          exact ⟨rfl, rulePost_err HERR.out HF5.out⟩
        have hwd3 : w0.toList = WD.toList := by simpa using hwd
        go_wp2_with fail
        refine (pneed_true _ _).mono ?_
        rintro e _ ⟨rfl, rfl⟩
        have HCS2 := HCS.out
        rw [if_neg (by rw [hwd]; decide), HAL.out] at HCS2
        have HCS3 := Lib.hid HCS2
        clear HCS HCS2 hwd hwd3
        have o3 := HO5.out.cell 3
        simp only [List.getElem?_toArray, List.getElem?_cons_zero, List.getElem?_cons_succ] at o3
        by_cases h6 : 6 ≤ AL
        · have h6z : ¬ (AL : Int) < 6 := by omega
          have h6d : decide ((AL : Int) < 6) = false := decide_eq_false h6z
          have HERR : Hid (RES = .inl 3) := by show _ = _; rw [← HCG.out]; exact condsGo_err (by rw [HCS3.out, if_pos h6])
          clear HCS3
          go_wp2_with (go_at_call 65; refine (pneed_false _ _).mono ?_; rintro e w' ⟨rfl, rfl⟩)
          exact ⟨rfl, rulePost_err HERR.out HF5.out⟩
        have h6z : (AL : Int) < 6 := by omega
        go_wp2_with fail
        refine (pneed_true _ _).mono ?_
        rintro e _ ⟨rfl, rfl⟩
        clear o3
        have HCS4 := HCS3.out
        rw [if_neg h6] at HCS4
        have hrl : r.length ≤ 1000000 := by simp at hwl; omega
        have HE5 : Hid (CondP.ErrV w5) := HE.out.kept HF5.out.1 hgR
        obtain ⟨⟨A, O, M, V, n5, E⟩, hcans⟩ : ∃ y, CondP.readAns r = y := ⟨_, rfl⟩
        rw [hcans] at HCS4
        dsimp only at HCS4
        have HE5d : Hid (CondP.ErrV w5.drew) := HE5.out
        have HR5d : Hid (RdB w5.drew R k n x (.slice a0 L c0) vw5 cnt) := HR5.out
        have HW5d : Hid (PWords R w5.drew vw5 r) := HW5.out
        go_upto_region 9 with fail
        by_cases hE0 : E = 0
        case neg =>
          have HERR : Hid (RES = .inl (formE E)) := by show _ = _; rw [← HCG.out]; exact condsGo_err (by rw [HCS4, if_pos hE0])
          have HCD := Lib.hid (fun W a b c => cnd_bad (R := R) (k := k) (n := n) (x := x) (vr := .slice a0 L c0) (vw := vw5) (cnt := cnt) hrl (fun s h => HSZ2.out s (by simp [h])) hcans hE0 W a b c)
          have o3 := HO5.out.cell 3
          simp only [List.getElem?_toArray, List.getElem?_cons_zero, List.getElem?_cons_succ] at o3
          clear HCS3 HCS4 hcans
          refine wp_region_held_drew (S := fun w' => w'.cell? ⟨OB, 3, none⟩ = some (.slice ua AL uq)) (by kernel_rfl) o3 (fun hHeld => ?_)
          refine wpAnyH_take (i := 0) (oi := { dst := some 48, op := Op.fieldAddr 71 (Operand.tmp 4) 2, type := 0, pos := "policy.go:147", after := #[], guard := none }) (v := ?vb90) rfl (by kernel_rfl) (by kernel_rfl) (by kernel_rfl) (fun _ _ _ h => h) (Or.inl ⟨by rfl, ?hyb90⟩) (by assumption) ?restb90
          case hyb90 =>
            intro w hSw
            try dsimp only at hSw
            try obtain ⟨hSw, hSw2⟩ := hSw
            try go_split_ands
            go_simp
            try with_reducible rfl
          try simp only [Act.put, List.setIfInBounds_toArray, List.set_cons_zero, List.set_cons_succ]
          refine wpAnyH_take (i := 1) (oi := { dst := some 49, op := Op.load 69 (Operand.tmp 48), type := 69, pos := "policy.go:147", after := #[{ on := 0, ground := Ground.data }], guard := none }) (v := ?vb91) rfl (by kernel_rfl) (by kernel_rfl) (by kernel_rfl) (fun _ _ _ h => h) (Or.inl ⟨by rfl, ?hyb91⟩) (by assumption) ?restb91
          case hyb91 =>
            intro w hSw
            try dsimp only at hSw
            try obtain ⟨hSw, hSw2⟩ := hSw
            try go_split_ands
            go_simp
            try with_reducible rfl
          try simp only [Act.put, List.setIfInBounds_toArray, List.set_cons_zero, List.set_cons_succ]
          refine wpAnyH_take (i := 2) (oi := { dst := some 50, op := Op.move (Operand.tmp 0), type := 53, pos := "policy.go:147", after := #[], guard := none }) (v := ?vb92) rfl (by kernel_rfl) (by kernel_rfl) (by kernel_rfl) (fun _ _ _ h => h) (Or.inl ⟨by rfl, ?hyb92⟩) (by assumption) ?restb92
          case hyb92 =>
            intro w hSw
            try dsimp only at hSw
            try obtain ⟨hSw, hSw2⟩ := hSw
            try go_split_ands
            go_simp
            try with_reducible rfl
          try simp only [Act.put, List.setIfInBounds_toArray, List.set_cons_zero, List.set_cons_succ]
          refine wpAnyH_ready (rs := [3]) (by kernel_rfl) (by simp) ?_
          refine AllReadyH.cons (o := { dst := some 51, op := Op.call { callee := Callee.value (Operand.func 67), args := #[Operand.tmp 50], argTypes := #[53] }, type := 74, pos := "policy.go:147", after := #[{ on := 2, ground := Ground.data }], guard := none }) rfl (fun K' hK => ?_) AllReadyH.nil
          go_simp
          refine (HCD.out _ HE5d.out HR5d.out HW5d.out).mono ?_
          rintro e w6 ⟨rfl, hf6⟩
          first
            | exact ⟨rfl, rulePost_err HERR.out (HF5.out.drew.trans hf6)⟩
            | (go_wp2; exact ⟨rfl, rulePost_err HERR.out (HF5.out.drew.trans hf6)⟩)
        subst hE0
        rw [if_neg (by decide)] at HCS4
        obtain ⟨m5, rfl, hm5, hm51⟩ := cnd_cnt hcans
        have HCD := Lib.hid (fun W a b c => cnd_ok (R := R) (k := k) (n := n) (x := x) (vr := .slice a0 L c0) (vw := vw5) (cnt := cnt) hrl (fun s h => HSZ2.out s (by simp [h])) hcans hm5 W a b c)
        have HGO : Hid (condsGo (acc ++ [⟨A, O, M, V⟩]) (r.drop m5) = RES) := by show _ = _; rw [← HCG.out]; exact (condsGo_step HCS4).symm
        clear HCS3 HCS4 hcans
        have o3 := HO5.out.cell 3
        simp only [List.getElem?_toArray, List.getElem?_cons_zero, List.getElem?_cons_succ] at o3
        obtain ⟨i0, hi, hz0, hz1, hz2⟩ := info_parts infoCd
        have hROB' : ¬ OB = R := by omega
        have hoc : ∀ u ∈ ([.int .i64 A, .int .i64 O, .int .u64 M, .int .u64 V] : List Value), u.oneCell' = true := by simp [Value.oneCell']
        have h63 : AL + 1 ≤ maxLen := by unfold maxLen; omega
        have hby : (AL + 1) * 32 ≤ 140737488355328 := by omega
        refine wp_region_held_drew (S := fun _ => True) (by kernel_rfl) trivial (fun hHeld => ?_)
        refine wpAnyH_take (i := 0) (oi := { dst := some 48, op := Op.fieldAddr 71 (Operand.tmp 4) 2, type := 0, pos := "policy.go:147", after := #[], guard := none }) (v := ?vk0) rfl (by kernel_rfl) (by kernel_rfl) (by kernel_rfl) (fun _ _ _ h => h) (Or.inl ⟨by rfl, ?hyk0⟩) (by assumption) ?restk0
        case hyk0 =>
          intro w hSw
          try dsimp only at hSw
          try obtain ⟨hSw, hSw2⟩ := hSw
          try go_split_ands
          go_simp
          try with_reducible rfl
        try simp only [Act.put, List.setIfInBounds_toArray, List.set_cons_zero, List.set_cons_succ]
        refine wpAnyH_take (i := 2) (oi := { dst := some 50, op := Op.move (Operand.tmp 0), type := 53, pos := "policy.go:147", after := #[], guard := none }) (v := ?vk2) rfl (by kernel_rfl) (by kernel_rfl) (by kernel_rfl) (fun _ _ _ h => h) (Or.inl ⟨by rfl, ?hyk2⟩) (by assumption) ?restk2
        case hyk2 =>
          intro w hSw
          try dsimp only at hSw
          try obtain ⟨hSw, hSw2⟩ := hSw
          try go_split_ands
          go_simp
          try with_reducible rfl
        try simp only [Act.put, List.setIfInBounds_toArray, List.set_cons_zero, List.set_cons_succ]
        refine wpAnyH_ready (rs := [1, 3]) (by kernel_rfl) (by simp) ?_
        refine AllReadyH.cons (o := { dst := some 49, op := Op.load 69 (Operand.tmp 48), type := 69, pos := "policy.go:147", after := #[{ on := 0, ground := Ground.data }], guard := none }) rfl (fun K' hK => ?wl1) (AllReadyH.cons (o := { dst := some 51, op := Op.call { callee := Callee.value (Operand.func 67), args := #[Operand.tmp 50], argTypes := #[53] }, type := 74, pos := "policy.go:147", after := #[{ on := 2, ground := Ground.data }], guard := none }) rfl (fun K' hK => ?wc1) AllReadyH.nil)
        case wl1 =>
          go_simp
          clear hHeld
          refine hK.out _ _ trivial (fun hHeld => ?_)
          clear hK K'
          try simp only [Act.put, List.setIfInBounds_toArray, List.set_cons_zero, List.set_cons_succ]
          refine wpAnyH_ready (rs := [3]) (by kernel_rfl) (by simp) ?_
          refine AllReadyH.cons (o := { dst := some 51, op := Op.call { callee := Callee.value (Operand.func 67), args := #[Operand.tmp 50], argTypes := #[53] }, type := 74, pos := "policy.go:147", after := #[{ on := 2, ground := Ground.data }], guard := none }) rfl (fun K' hK => ?wc2) AllReadyH.nil
          case wc2 =>
            go_simp
            refine (HCD.out _ HE5d.out HR5d.out HW5d.out).mono ?_
            rintro e w6 ⟨rfl, vw6, hw6, hr6, hf6⟩
            have hO6 : Blk w6 OB TRl #[.string s, .int .i64 K, .int .i64 N, .slice ua AL uq] := hf6.blk HO5.out hROB'
            have HO6 := Lib.hid hO6
            have p3 := hO6.cell 3
            simp only [List.getElem?_toArray, List.getElem?_cons_zero, List.getElem?_cons_succ] at p3
            have HOW6 : Hid (w6.ownsRow (OB + 1) TCd 4 (.slice ua AL uq) AL (flatC acc)) := hf6.own HOW5.out (by omega)
            have hOB6 : OB < w6.heap.size := hO6.lt
            have HW6 := Lib.hid hw6
            have HR6 := Lib.hid hr6
            have HF6 := Lib.hid (HF5.out.drew.trans hf6)
            clear hO6 hw6 hr6 hf6 o3 HO5 HOW5 HE5 HE5d HW5 HW5d HR5 HR5d HF5 HCD
            clear hHeld
            refine hK.out _ _ trivial (fun hHeld => ?_)
            clear hK K'
            try simp only [Act.put, List.setIfInBounds_toArray, List.set_cons_zero, List.set_cons_succ]
            refine wpAnyH_ready (rs := [4]) (by kernel_rfl) (by simp) ?_
            refine AllReadyH.cons (o := { dst := some 52, op := Op.buildSlice 69 1 #[(0, Operand.tmp 51)], type := 69, pos := "policy.go:147", after := #[{ on := 3, ground := Ground.data }], guard := none }) rfl (fun K' hK => ?wb1) AllReadyH.nil
            case wb1 =>
              go_simp
              clear hHeld
              refine hK.out _ _ trivial (fun hHeld => ?_)
              clear hK K'
              try simp only [Act.put, List.setIfInBounds_toArray, List.set_cons_zero, List.set_cons_succ]
              refine wpAnyH_ready (rs := [5]) (by kernel_rfl) (by simp) ?_
              refine AllReadyH.cons (o := { dst := some 53, op := Op.call { callee := Callee.builtin Builtin.append, args := #[Operand.tmp 49, Operand.tmp 52], argTypes := #[69, 69] }, type := 69, pos := "policy.go:147", after := #[{ on := 1, ground := Ground.data }, { on := 4, ground := Ground.data }, { on := 3, ground := Ground.chain }], guard := none }) rfl (fun K' hK => ?apa) AllReadyH.nil
              case apa =>
                refine wp_append_at _ _ _ 69 (by rfl) (OB + 1) 74 i0 (.agg #[.int .i64 0, .int .i64 0, .int .u64 0, .int .u64 0]) 4 32 Tryz.underlying69 hi hz0 hz1 hz2 rfl (by decide) (.slice ua AL uq) AL (flatC acc) (by rfl) (HOW6.out.alloc (.cells #[.int .i64 A, .int .i64 O, .int .u64 M, .int .u64 V] 74)) ⟨w6.heap.size, 0, none⟩ 1 1 [.int .i64 A, .int .i64 O, .int .u64 M, .int .u64 V] (by rfl) rfl (cells4 w6 (.int .i64 A) (.int .i64 O) (.int .u64 M) (.int .u64 V) 74) hoc h63 hby (by simp; omega) ?_
                intro v' w7 hown' hgrow
                have HVO : Hid (∀ r, (Value.slice ua AL uq).ownBlock = some r → OB + 1 ≤ r) := fun r e => (HOW6.out.lt r e).1
                have HFG := Lib.hid (frR_grown (HF6.out.trans (FrR.alloc (.cells #[.int .i64 A, .int .i64 O, .int .u64 M, .int .u64 V] 74) (by omega))) hgrow (fun r e => by have := HVO.out r e; omega))
                have HR7 : Hid (RdB w7 R k n x (.slice a0 L c0) vw6 cnt) := (hgrow.block R (by have := Blk.lt HR6.out; simp; omega) (fun e => by have := HVO.out R e.symm; omega)).trans (Blk.alloc HR6.out _)
                have HO7 : Hid (Blk w7 OB TRl #[.string s, .int .i64 K, .int .i64 N, .slice ua AL uq]) := (HO6.out.alloc _).kept hgrow (fun e => by have := HVO.out OB e.symm; omega)
                have HW7 : Hid (PWords R w7 vw6 (r.drop m5)) := HW6.out.below (((Below.refl R w6).alloc (by have := Blk.lt HR6.out; omega) (.cells #[.int .i64 A, .int .i64 O, .int .u64 M, .int .u64 V] 74)).grown hgrow (by have := Blk.lt HR6.out; simp; omega) (fun r e => by have := HVO.out r e; omega)) (Nat.le_trans (by simp) hgrow.size)
                obtain ⟨g7, q7, rfl⟩ := ownsRow_succ hown'
                have HOW7 := Lib.hid hown'
                clear hown' hgrow
                clear hHeld
                refine hK.out _ _ trivial (fun hHeld => ?_)
                clear hK K'
                try simp only [Act.put, List.setIfInBounds_toArray, List.set_cons_zero, List.set_cons_succ]
                refine wpAnyH_take (i := 6) (oi := { dst := some 54, op := Op.fieldAddr 71 (Operand.tmp 4) 2, type := 0, pos := "policy.go:147", after := #[{ on := 0, ground := Ground.phase }, { on := 1, ground := Ground.phase }, { on := 2, ground := Ground.phase }, { on := 3, ground := Ground.phase }, { on := 4, ground := Ground.phase }, { on := 5, ground := Ground.phase }], guard := none }) (v := ?vta6) rfl (by kernel_rfl) (by kernel_rfl) (by kernel_rfl) (fun _ _ _ h => h) (Or.inl ⟨by rfl, ?hyta6⟩) (by assumption) ?restta6
                case hyta6 =>
                  intro w hSw
                  try dsimp only at hSw
                  try obtain ⟨hSw, hSw2⟩ := hSw
                  try go_split_ands
                  go_simp
                  try with_reducible rfl
                try simp only [Act.put, List.setIfInBounds_toArray, List.set_cons_zero, List.set_cons_succ]
                refine wpAnyH_ready (rs := [7]) (by kernel_rfl) (by simp) ?_
                refine AllReadyH.cons (o := { dst := none, op := Op.store 69 (Operand.tmp 54) (Operand.tmp 53), type := 0, pos := "policy.go:147", after := #[{ on := 6, ground := Ground.data }, { on := 5, ground := Ground.data }, { on := 5, ground := Ground.chain }, { on := 0, ground := Ground.phase }, { on := 1, ground := Ground.phase }, { on := 2, ground := Ground.phase }, { on := 3, ground := Ground.phase }, { on := 4, ground := Ground.phase }, { on := 5, ground := Ground.phase }], guard := none }) rfl (fun K' hK => ?sta) AllReadyH.nil
                case sta =>
                  have f3 := HO7.out.frozen 3
                  have u3 := HO7.out.cell 3
                  simp only [List.getElem?_toArray, List.getElem?_cons_zero, List.getElem?_cons_succ] at u3
                  go_simp
                  clear hHeld
                  refine hK.out _ _ trivial (fun hHeld => ?_)
                  clear hK K'
                  try simp only [Act.put, List.setIfInBounds_toArray, List.set_cons_zero, List.set_cons_succ]
                  refine wpAnyH_done (by kernel_rfl) ?_ _
                  clear hHeld f3 u3
                  have HLA : Hid ((acc ++ [(⟨A, O, M, V⟩ : PCond)]).length = AL + 1) := by show _ = _; rw [List.length_append, HAL.out]; rfl
                  go_wp2
                  go_roundg (r.length + 1)
                  case measure => simp at hgg; omega
                  case rel => exact ⟨r.drop m5, acc ++ [⟨A, O, M, V⟩], vw6, .slice (some ⟨g7, 0, none⟩) (AL + 1) q7, by rw [List.length_drop]; omega, by rw [HLA.out]; omega, by rw [List.length_drop]; omega, (show Hid _ from fun s h => HSZ2.out s (by simp [List.mem_of_mem_drop h])), HGO, HW7.out.below ((Below.refl R w7).setCell (p := ⟨OB, 3, none⟩) (Nat.le_of_lt hROB) _) (by simp), Blk.other HR7.out (Nat.ne_of_lt hROB) 3 _, HO7.out.set 3 _, by show World.ownsRow _ _ _ _ _ _ _; rw [HLA.out, flatC_snoc]; exact ownP_set HOW7.out (by omega), FrR.setNew HFG.out hwOB (by omega) 3 _⟩
        case wc1 =>
          go_simp
          refine (HCD.out _ HE5d.out HR5d.out HW5d.out).mono ?_
          rintro e w6 ⟨rfl, vw6, hw6, hr6, hf6⟩
          have hO6 : Blk w6 OB TRl #[.string s, .int .i64 K, .int .i64 N, .slice ua AL uq] := hf6.blk HO5.out hROB'
          have HO6 := Lib.hid hO6
          have p3 := hO6.cell 3
          simp only [List.getElem?_toArray, List.getElem?_cons_zero, List.getElem?_cons_succ] at p3
          have HOW6 : Hid (w6.ownsRow (OB + 1) TCd 4 (.slice ua AL uq) AL (flatC acc)) := hf6.own HOW5.out (by omega)
          have hOB6 : OB < w6.heap.size := hO6.lt
          have HW6 := Lib.hid hw6
          have HR6 := Lib.hid hr6
          have HF6 := Lib.hid (HF5.out.drew.trans hf6)
          clear hO6 hw6 hr6 hf6 o3 HO5 HOW5 HE5 HE5d HW5 HW5d HR5 HR5d HF5 HCD
          clear hHeld
          refine hK.out _ _ trivial (fun hHeld => ?_)
          clear hK K'
          try simp only [Act.put, List.setIfInBounds_toArray, List.set_cons_zero, List.set_cons_succ]
          refine wpAnyH_ready (rs := [1, 4]) (by kernel_rfl) (by simp) ?_
          refine AllReadyH.cons (o := { dst := some 49, op := Op.load 69 (Operand.tmp 48), type := 69, pos := "policy.go:147", after := #[{ on := 0, ground := Ground.data }], guard := none }) rfl (fun K' hK => ?wl2) (AllReadyH.cons (o := { dst := some 52, op := Op.buildSlice 69 1 #[(0, Operand.tmp 51)], type := 69, pos := "policy.go:147", after := #[{ on := 3, ground := Ground.data }], guard := none }) rfl (fun K' hK => ?wb2) AllReadyH.nil)
          case wl2 =>
            go_simp
            clear hHeld
            refine hK.out _ _ trivial (fun hHeld => ?_)
            clear hK K'
            try simp only [Act.put, List.setIfInBounds_toArray, List.set_cons_zero, List.set_cons_succ]
            refine wpAnyH_ready (rs := [4]) (by kernel_rfl) (by simp) ?_
            refine AllReadyH.cons (o := { dst := some 52, op := Op.buildSlice 69 1 #[(0, Operand.tmp 51)], type := 69, pos := "policy.go:147", after := #[{ on := 3, ground := Ground.data }], guard := none }) rfl (fun K' hK => ?wb3) AllReadyH.nil
            case wb3 =>
              go_simp
              clear hHeld
              refine hK.out _ _ trivial (fun hHeld => ?_)
              clear hK K'
              try simp only [Act.put, List.setIfInBounds_toArray, List.set_cons_zero, List.set_cons_succ]
              refine wpAnyH_ready (rs := [5]) (by kernel_rfl) (by simp) ?_
              refine AllReadyH.cons (o := { dst := some 53, op := Op.call { callee := Callee.builtin Builtin.append, args := #[Operand.tmp 49, Operand.tmp 52], argTypes := #[69, 69] }, type := 69, pos := "policy.go:147", after := #[{ on := 1, ground := Ground.data }, { on := 4, ground := Ground.data }, { on := 3, ground := Ground.chain }], guard := none }) rfl (fun K' hK => ?apb) AllReadyH.nil
              case apb =>
                refine wp_append_at _ _ _ 69 (by rfl) (OB + 1) 74 i0 (.agg #[.int .i64 0, .int .i64 0, .int .u64 0, .int .u64 0]) 4 32 Tryz.underlying69 hi hz0 hz1 hz2 rfl (by decide) (.slice ua AL uq) AL (flatC acc) (by rfl) (HOW6.out.alloc (.cells #[.int .i64 A, .int .i64 O, .int .u64 M, .int .u64 V] 74)) ⟨w6.heap.size, 0, none⟩ 1 1 [.int .i64 A, .int .i64 O, .int .u64 M, .int .u64 V] (by rfl) rfl (cells4 w6 (.int .i64 A) (.int .i64 O) (.int .u64 M) (.int .u64 V) 74) hoc h63 hby (by simp; omega) ?_
                intro v' w7 hown' hgrow
                have HVO : Hid (∀ r, (Value.slice ua AL uq).ownBlock = some r → OB + 1 ≤ r) := fun r e => (HOW6.out.lt r e).1
                have HFG := Lib.hid (frR_grown (HF6.out.trans (FrR.alloc (.cells #[.int .i64 A, .int .i64 O, .int .u64 M, .int .u64 V] 74) (by omega))) hgrow (fun r e => by have := HVO.out r e; omega))
                have HR7 : Hid (RdB w7 R k n x (.slice a0 L c0) vw6 cnt) := (hgrow.block R (by have := Blk.lt HR6.out; simp; omega) (fun e => by have := HVO.out R e.symm; omega)).trans (Blk.alloc HR6.out _)
                have HO7 : Hid (Blk w7 OB TRl #[.string s, .int .i64 K, .int .i64 N, .slice ua AL uq]) := (HO6.out.alloc _).kept hgrow (fun e => by have := HVO.out OB e.symm; omega)
                have HW7 : Hid (PWords R w7 vw6 (r.drop m5)) := HW6.out.below (((Below.refl R w6).alloc (by have := Blk.lt HR6.out; omega) (.cells #[.int .i64 A, .int .i64 O, .int .u64 M, .int .u64 V] 74)).grown hgrow (by have := Blk.lt HR6.out; simp; omega) (fun r e => by have := HVO.out r e; omega)) (Nat.le_trans (by simp) hgrow.size)
                obtain ⟨g7, q7, rfl⟩ := ownsRow_succ hown'
                have HOW7 := Lib.hid hown'
                clear hown' hgrow
                clear hHeld
                refine hK.out _ _ trivial (fun hHeld => ?_)
                clear hK K'
                try simp only [Act.put, List.setIfInBounds_toArray, List.set_cons_zero, List.set_cons_succ]
                refine wpAnyH_take (i := 6) (oi := { dst := some 54, op := Op.fieldAddr 71 (Operand.tmp 4) 2, type := 0, pos := "policy.go:147", after := #[{ on := 0, ground := Ground.phase }, { on := 1, ground := Ground.phase }, { on := 2, ground := Ground.phase }, { on := 3, ground := Ground.phase }, { on := 4, ground := Ground.phase }, { on := 5, ground := Ground.phase }], guard := none }) (v := ?vtb6) rfl (by kernel_rfl) (by kernel_rfl) (by kernel_rfl) (fun _ _ _ h => h) (Or.inl ⟨by rfl, ?hytb6⟩) (by assumption) ?resttb6
                case hytb6 =>
                  intro w hSw
                  try dsimp only at hSw
                  try obtain ⟨hSw, hSw2⟩ := hSw
                  try go_split_ands
                  go_simp
                  try with_reducible rfl
                try simp only [Act.put, List.setIfInBounds_toArray, List.set_cons_zero, List.set_cons_succ]
                refine wpAnyH_ready (rs := [7]) (by kernel_rfl) (by simp) ?_
                refine AllReadyH.cons (o := { dst := none, op := Op.store 69 (Operand.tmp 54) (Operand.tmp 53), type := 0, pos := "policy.go:147", after := #[{ on := 6, ground := Ground.data }, { on := 5, ground := Ground.data }, { on := 5, ground := Ground.chain }, { on := 0, ground := Ground.phase }, { on := 1, ground := Ground.phase }, { on := 2, ground := Ground.phase }, { on := 3, ground := Ground.phase }, { on := 4, ground := Ground.phase }, { on := 5, ground := Ground.phase }], guard := none }) rfl (fun K' hK => ?stb) AllReadyH.nil
                case stb =>
                  have f3 := HO7.out.frozen 3
                  have u3 := HO7.out.cell 3
                  simp only [List.getElem?_toArray, List.getElem?_cons_zero, List.getElem?_cons_succ] at u3
                  go_simp
                  clear hHeld
                  refine hK.out _ _ trivial (fun hHeld => ?_)
                  clear hK K'
                  try simp only [Act.put, List.setIfInBounds_toArray, List.set_cons_zero, List.set_cons_succ]
                  refine wpAnyH_done (by kernel_rfl) ?_ _
                  clear hHeld f3 u3
                  have HLA : Hid ((acc ++ [(⟨A, O, M, V⟩ : PCond)]).length = AL + 1) := by show _ = _; rw [List.length_append, HAL.out]; rfl
                  go_wp2
                  go_roundg (r.length + 1)
                  case measure => simp at hgg; omega
                  case rel => exact ⟨r.drop m5, acc ++ [⟨A, O, M, V⟩], vw6, .slice (some ⟨g7, 0, none⟩) (AL + 1) q7, by rw [List.length_drop]; omega, by rw [HLA.out]; omega, by rw [List.length_drop]; omega, (show Hid _ from fun s h => HSZ2.out s (by simp [List.mem_of_mem_drop h])), HGO, HW7.out.below ((Below.refl R w7).setCell (p := ⟨OB, 3, none⟩) (Nat.le_of_lt hROB) _) (by simp), Blk.other HR7.out (Nat.ne_of_lt hROB) 3 _, HO7.out.set 3 _, by show World.ownsRow _ _ _ _ _ _ _; rw [HLA.out, flatC_snoc]; exact ownP_set HOW7.out (by omega), FrR.setNew HFG.out hwOB (by omega) 3 _⟩
          case wb2 =>
            go_simp
            clear hHeld
            refine hK.out _ _ trivial (fun hHeld => ?_)
            clear hK K'
            try simp only [Act.put, List.setIfInBounds_toArray, List.set_cons_zero, List.set_cons_succ]
            refine wpAnyH_ready (rs := [1]) (by kernel_rfl) (by simp) ?_
            refine AllReadyH.cons (o := { dst := some 49, op := Op.load 69 (Operand.tmp 48), type := 69, pos := "policy.go:147", after := #[{ on := 0, ground := Ground.data }], guard := none }) rfl (fun K' hK => ?wl3) AllReadyH.nil
            case wl3 =>
              go_simp
              clear hHeld
              refine hK.out _ _ trivial (fun hHeld => ?_)
              clear hK K'
              try simp only [Act.put, List.setIfInBounds_toArray, List.set_cons_zero, List.set_cons_succ]
              refine wpAnyH_ready (rs := [5]) (by kernel_rfl) (by simp) ?_
              refine AllReadyH.cons (o := { dst := some 53, op := Op.call { callee := Callee.builtin Builtin.append, args := #[Operand.tmp 49, Operand.tmp 52], argTypes := #[69, 69] }, type := 69, pos := "policy.go:147", after := #[{ on := 1, ground := Ground.data }, { on := 4, ground := Ground.data }, { on := 3, ground := Ground.chain }], guard := none }) rfl (fun K' hK => ?apc) AllReadyH.nil
              case apc =>
                refine wp_append_at _ _ _ 69 (by rfl) (OB + 1) 74 i0 (.agg #[.int .i64 0, .int .i64 0, .int .u64 0, .int .u64 0]) 4 32 Tryz.underlying69 hi hz0 hz1 hz2 rfl (by decide) (.slice ua AL uq) AL (flatC acc) (by rfl) (HOW6.out.alloc (.cells #[.int .i64 A, .int .i64 O, .int .u64 M, .int .u64 V] 74)) ⟨w6.heap.size, 0, none⟩ 1 1 [.int .i64 A, .int .i64 O, .int .u64 M, .int .u64 V] (by rfl) rfl (cells4 w6 (.int .i64 A) (.int .i64 O) (.int .u64 M) (.int .u64 V) 74) hoc h63 hby (by simp; omega) ?_
                intro v' w7 hown' hgrow
                have HVO : Hid (∀ r, (Value.slice ua AL uq).ownBlock = some r → OB + 1 ≤ r) := fun r e => (HOW6.out.lt r e).1
                have HFG := Lib.hid (frR_grown (HF6.out.trans (FrR.alloc (.cells #[.int .i64 A, .int .i64 O, .int .u64 M, .int .u64 V] 74) (by omega))) hgrow (fun r e => by have := HVO.out r e; omega))
                have HR7 : Hid (RdB w7 R k n x (.slice a0 L c0) vw6 cnt) := (hgrow.block R (by have := Blk.lt HR6.out; simp; omega) (fun e => by have := HVO.out R e.symm; omega)).trans (Blk.alloc HR6.out _)
                have HO7 : Hid (Blk w7 OB TRl #[.string s, .int .i64 K, .int .i64 N, .slice ua AL uq]) := (HO6.out.alloc _).kept hgrow (fun e => by have := HVO.out OB e.symm; omega)
                have HW7 : Hid (PWords R w7 vw6 (r.drop m5)) := HW6.out.below (((Below.refl R w6).alloc (by have := Blk.lt HR6.out; omega) (.cells #[.int .i64 A, .int .i64 O, .int .u64 M, .int .u64 V] 74)).grown hgrow (by have := Blk.lt HR6.out; simp; omega) (fun r e => by have := HVO.out r e; omega)) (Nat.le_trans (by simp) hgrow.size)
                obtain ⟨g7, q7, rfl⟩ := ownsRow_succ hown'
                have HOW7 := Lib.hid hown'
                clear hown' hgrow
                clear hHeld
                refine hK.out _ _ trivial (fun hHeld => ?_)
                clear hK K'
                try simp only [Act.put, List.setIfInBounds_toArray, List.set_cons_zero, List.set_cons_succ]
                refine wpAnyH_take (i := 6) (oi := { dst := some 54, op := Op.fieldAddr 71 (Operand.tmp 4) 2, type := 0, pos := "policy.go:147", after := #[{ on := 0, ground := Ground.phase }, { on := 1, ground := Ground.phase }, { on := 2, ground := Ground.phase }, { on := 3, ground := Ground.phase }, { on := 4, ground := Ground.phase }, { on := 5, ground := Ground.phase }], guard := none }) (v := ?vtc6) rfl (by kernel_rfl) (by kernel_rfl) (by kernel_rfl) (fun _ _ _ h => h) (Or.inl ⟨by rfl, ?hytc6⟩) (by assumption) ?resttc6
                case hytc6 =>
                  intro w hSw
                  try dsimp only at hSw
                  try obtain ⟨hSw, hSw2⟩ := hSw
                  try go_split_ands
                  go_simp
                  try with_reducible rfl
                try simp only [Act.put, List.setIfInBounds_toArray, List.set_cons_zero, List.set_cons_succ]
                refine wpAnyH_ready (rs := [7]) (by kernel_rfl) (by simp) ?_
                refine AllReadyH.cons (o := { dst := none, op := Op.store 69 (Operand.tmp 54) (Operand.tmp 53), type := 0, pos := "policy.go:147", after := #[{ on := 6, ground := Ground.data }, { on := 5, ground := Ground.data }, { on := 5, ground := Ground.chain }, { on := 0, ground := Ground.phase }, { on := 1, ground := Ground.phase }, { on := 2, ground := Ground.phase }, { on := 3, ground := Ground.phase }, { on := 4, ground := Ground.phase }, { on := 5, ground := Ground.phase }], guard := none }) rfl (fun K' hK => ?stc) AllReadyH.nil
                case stc =>
                  have f3 := HO7.out.frozen 3
                  have u3 := HO7.out.cell 3
                  simp only [List.getElem?_toArray, List.getElem?_cons_zero, List.getElem?_cons_succ] at u3
                  go_simp
                  clear hHeld
                  refine hK.out _ _ trivial (fun hHeld => ?_)
                  clear hK K'
                  try simp only [Act.put, List.setIfInBounds_toArray, List.set_cons_zero, List.set_cons_succ]
                  refine wpAnyH_done (by kernel_rfl) ?_ _
                  clear hHeld f3 u3
                  have HLA : Hid ((acc ++ [(⟨A, O, M, V⟩ : PCond)]).length = AL + 1) := by show _ = _; rw [List.length_append, HAL.out]; rfl
                  go_wp2
                  go_roundg (r.length + 1)
                  case measure => simp at hgg; omega
                  case rel => exact ⟨r.drop m5, acc ++ [⟨A, O, M, V⟩], vw6, .slice (some ⟨g7, 0, none⟩) (AL + 1) q7, by rw [List.length_drop]; omega, by rw [HLA.out]; omega, by rw [List.length_drop]; omega, (show Hid _ from fun s h => HSZ2.out s (by simp [List.mem_of_mem_drop h])), HGO, HW7.out.below ((Below.refl R w7).setCell (p := ⟨OB, 3, none⟩) (Nat.le_of_lt hROB) _) (by simp), Blk.other HR7.out (Nat.ne_of_lt hROB) 3 _, HO7.out.set 3 _, by show World.ownsRow _ _ _ _ _ _ _; rw [HLA.out, flatC_snoc]; exact ownP_set HOW7.out (by omega), FrR.setNew HFG.out hwOB (by omega) 3 _⟩
end Go.Proofs.YtmjipkdejggbfaaGreatDoor
