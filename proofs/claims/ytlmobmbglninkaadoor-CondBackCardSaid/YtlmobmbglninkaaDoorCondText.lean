/- cond.Text of a right condition. -/
import Derived.Test.YtlmobmbglninkaaDoorCondBackP
import Derived.Test.YtlmobmbglninkaaDoorCondFu
import Derived.Test.YtlmobmbglninkaaDoorHolds
import Derived.Deep.Cut
import Derived.Deep.DeepCutAuto
import Derived.Shelf.Strings.OnBuilder
import Derived.OwnWalk
import Derived.ArgAppend
namespace Go.Proofs.YtlmobmbglninkaaDoor
open Go Go.Proofs Go.RowKit Go.Shelf

theorem extra156 : Builder.Extra Tryd.prog Tryd.lays156_ren where
  sizeBuilder := by kernel_rfl
  liesBuilder := by kernel_rfl
  t5 := Tryd.underlying5
  a5 := Tryd.isAgg5
  z5 := Tryd.sizeOf5
  v5 := Tryd.zeroValue5
  infoByte := by kernel_rfl
  cellsByte := by kernel_rfl
  sizeByte := by kernel_rfl
  neB5 := by decide
theorem sjoin_any (bk c : Nat) (xs : List ByteArray) (sep : ByteArray) (w : World) (hcells : ∀ (j : Nat) x, xs[j]? = some x → w.cell? ⟨bk, 0 + j, none⟩ = some (.string x)) (hbk : bk < w.heap.size) (hN : xs.length ≤ 140737488355328) (hcap : xs.length ≤ c)
    (hlen : (Lib.join (xs.map (·.data.toList)) sep.data.toList).length ≤ 140737488355328) :
    Calls Tryd.prog 30 #[.slice (some ⟨bk, 0, none⟩) xs.length c, .string sep] w fun e w' => e = .returned (.string ⟨(Lib.join (xs.map (·.data.toList)) sep.data.toList).toArray⟩) ∧ Below w.heap.size w w' :=
  Any.strings_Join Tryd.lays156 extra156 bk 0 c xs sep w hcells hbk hN hcap hlen
theorem infoStr : (Tryd.prog.info? 9).map (fun i => (i.zero, i.size, i.bytes)) = some (some (.string ⟨#[]⟩), 1, 16) := by kernel_rfl
theorem own_below {W W' : World} {B e size n : Nat} {v : Value} {xs : List Value} (h : W.ownsRow B e size v n xs) (hb : Below W.heap.size W W') : W'.ownsRow B e size v n xs := by
  refine ⟨h.1, ?_⟩
  rcases h.2 with h0 | ⟨g, cap, cur, hv, hB, hg, rest⟩
  · exact .inl h0
  · exact .inr ⟨g, cap, cur, hv, hB, (hb.block g (Array.getElem?_eq_some_iff.1 hg).1).trans hg, rest⟩
theorem own_new {w : World} {B n : Nat} {t : TypeId} (xs : List Value) (hn : xs.length = n) (hB : B ≤ w.heap.size) (h1 : 0 < n) (hlen : n ≤ 1000) : (w.alloc (.cells xs.toArray t)).ownsRow B t 1 (.slice (some ⟨w.heap.size, 0, none⟩) n n) n xs := by
  subst hn
  exact ⟨by simp, .inr ⟨w.heap.size, xs.length, xs.toArray, rfl, hB, World.alloc_heap_new w _, Nat.le_refl _, by unfold maxLen; omega, by simp, by simp⟩⟩
theorem cells_new (w : World) (xs : List Value) (t : TypeId) : ∀ j u, xs[j]? = some u → (w.alloc (.cells xs.toArray t)).cell? ((⟨w.heap.size, 0, none⟩ : Addr).add j) = some u := by
  intro j u hu
  have := (Blk.new w t xs.toArray).cell j
  rw [Addr.add_lit, Nat.zero_add, this, List.getElem?_toArray, hu]
theorem own_facts {w : World} {B t n g c : Nat} {xs : List Value} (h : w.ownsRow B t 1 (.slice (some ⟨g, 0, none⟩) n c) n xs) : g < w.heap.size ∧ n ≤ c := by
  rcases h.2 with ⟨h, _⟩ | ⟨_, _, _, h, _, hg, hc, _⟩
  · cases h
  · cases h
    exact ⟨(Array.getElem?_eq_some_iff.1 hg).1, hc⟩

set_option maxRecDepth 100000 in
set_option maxHeartbeats 4000000 in
theorem text10_right (a k m v : Nat) (ha : a ≤ 5) (hk : k < 7) (hm : m < 18446744073709551616) (hv : v < 18446744073709551616) (h0 : k = 6 ∨ m = 0) (w : World) (hp : Pow10 w) :
    Calls Tryd.prog 18 #[.agg #[.int .i64 (a : Int), .int .i64 ((k : Int) + 1), .int .u64 (m : Int), .int .u64 (v : Int)]] w fun e w' => e = .returned (.string (condText a ((k : Int) + 1) m v)) ∧ Below w.heap.size w w' := by
  obtain ⟨K, hKk⟩ : ∃ K : Int, (k : Int) + 1 = K := ⟨_, rfl⟩
  rw [hKk]
  have hR : condRight (a : Int) K (m : Int) = true := decide_eq_true ⟨by omega, by omega, by omega, by omega, by omega⟩
  have HR := Lib.hid (fun W => right_any (a : Int) K (m : Int) (v : Int) W)
  rw [hR] at HR
  have hA := Blk.new w 25 #[.int .i64 (a : Int), .int .i64 K, .int .u64 (m : Int), .int .u64 (v : Int)]
  have hb := (Below.refl w.heap.size w).alloc (Nat.le_refl _) (.cells #[.int .i64 (a : Int), .int .i64 K, .int .u64 (m : Int), .int .u64 (v : Int)] 25)
  have c0 := hA.cell 0
  have c1 := hA.cell 1
  have c2 := hA.cell 2
  have c3 := hA.cell 3
  simp only [List.getElem?_toArray, List.getElem?_cons_zero, List.getElem?_cons_succ] at c0 c1 c2 c3
  have HA := Lib.hid hA
  have HB := Lib.hid hb
  have HP := Lib.hid hp
  have HM := Lib.hid hm
  have HV := Lib.hid hv
  have HM0 := Lib.hid h0
  have HK := Lib.hid hKk
  clear hA hb hp hm hv h0 hR
  go_enter Tryd.func18, Tryd.ntmps18
  go_wp2_with fail
  refine (HR.out _).mono ?_
  rintro e w2 ⟨rfl, hb2⟩
  have HA2 := blkB HA hb2
  have HB2 := belB HB hb2
  have HP2 := Lib.hid (HP.out.below HB2.out)
  clear hb2 HA HB HP HR c0 c1 c2 c3
  go_upto_region 3 with fail
  have c0 := HA2.out.cell 0
  have c1 := HA2.out.cell 1
  simp only [List.getElem?_toArray, List.getElem?_cons_zero, List.getElem?_cons_succ] at c0 c1
  have wk : IntKind.i64.wrap (K - 1) = (k : Int) := by rw [IntWalk.i64_in _ (by omega)]; omega
  have wk2 : IntKind.i64.wrap (k : Int) = (k : Int) := IntWalk.i64_in _ (by omega)
  have k0 : (0 : Int) ≤ (k : Int) := by omega
  have k7 : (k : Int) < 7 := by omega
  have hcat : ¬ 9223372036854775807 < 1 + (decS a).size := by rw [dec_one_size a ha]; decide
  have hIt := Lib.hid (fun W => itoa10_small a (by omega) W)
  refine wp_region_noPanic ?_
  refine wp_region_held_drew (S := fun w' => (w'.cell? ⟨w.heap.size, 0, none⟩ = some (.int .i64 (a : Int)) ∧ w'.cell? ⟨w.heap.size, 1, none⟩ = some (.int .i64 K)) ∧ Below w2.heap.size w2 w') (by kernel_rfl) (by first | exact ⟨⟨c0, c1⟩, (Below.refl _ w2).drew⟩ | go_keep) (fun hHeld => ?_)
  refine wpAnyH_take (i := 0) (oi := { dst := some 7, op := Op.fieldAddr 25 (Operand.tmp 1) 0, type := 0, pos := "cond.go:65", after := #[], guard := none }) (v := ?v0) rfl (by kernel_rfl) (by kernel_rfl) (by kernel_rfl) (fun _ _ _ h => h) (Or.inl ⟨by rfl, ?hy0⟩) (by assumption) ?rest0
  case hy0 =>
    intro w hSw
    try dsimp only at hSw
    try obtain ⟨hSw, hSw2⟩ := hSw
    try go_split_ands
    go_simp
    try with_reducible rfl
  try simp only [Act.put, List.setIfInBounds_toArray, List.set_cons_zero, List.set_cons_succ]
  refine wpAnyH_take (i := 1) (oi := { dst := some 8, op := Op.load 3 (Operand.tmp 7), type := 3, pos := "cond.go:65", after := #[{ on := 0, ground := Ground.data }], guard := none }) (v := ?v1) rfl (by kernel_rfl) (by kernel_rfl) (by kernel_rfl) (fun _ _ _ h => h) (Or.inl ⟨by rfl, ?hy1⟩) (by assumption) ?rest1
  case hy1 =>
    intro w hSw
    try dsimp only at hSw
    try obtain ⟨hSw, hSw2⟩ := hSw
    try go_split_ands
    go_simp
    try with_reducible rfl
  try simp only [Act.put, List.setIfInBounds_toArray, List.set_cons_zero, List.set_cons_succ]
  refine wpAnyH_take (i := 5) (oi := { dst := some 12, op := Op.fieldAddr 25 (Operand.tmp 1) 1, type := 0, pos := "cond.go:65", after := #[], guard := none }) (v := ?v5) rfl (by kernel_rfl) (by kernel_rfl) (by kernel_rfl) (fun _ _ _ h => h) (Or.inl ⟨by rfl, ?hy5⟩) (by assumption) ?rest5
  case hy5 =>
    intro w hSw
    try dsimp only at hSw
    try obtain ⟨hSw, hSw2⟩ := hSw
    try go_split_ands
    go_simp
    try with_reducible rfl
  try simp only [Act.put, List.setIfInBounds_toArray, List.set_cons_zero, List.set_cons_succ]
  refine wpAnyH_take (i := 6) (oi := { dst := some 13, op := Op.load 3 (Operand.tmp 12), type := 3, pos := "cond.go:65", after := #[{ on := 5, ground := Ground.data }], guard := none }) (v := ?v6) rfl (by kernel_rfl) (by kernel_rfl) (by kernel_rfl) (fun _ _ _ h => h) (Or.inl ⟨by rfl, ?hy6⟩) (by assumption) ?rest6
  case hy6 =>
    intro w hSw
    try dsimp only at hSw
    try obtain ⟨hSw, hSw2⟩ := hSw
    try go_split_ands
    go_simp
    try with_reducible rfl
  try simp only [Act.put, List.setIfInBounds_toArray, List.set_cons_zero, List.set_cons_succ]
  refine wpAnyH_take (i := 7) (oi := { dst := some 14, op := Op.binOp BinOp.sub 3 (Operand.tmp 13) (Operand.const (Value.int IntKind.i64 1)) 3, type := 3, pos := "cond.go:65", after := #[{ on := 6, ground := Ground.data }], guard := none }) (v := ?v7) rfl (by kernel_rfl) (by kernel_rfl) (by kernel_rfl) (fun _ _ _ h => h) (Or.inl ⟨by rfl, ?hy7⟩) (by assumption) ?rest7
  case hy7 =>
    intro w hSw
    try dsimp only at hSw
    try obtain ⟨hSw, hSw2⟩ := hSw
    try go_split_ands
    go_simp
    try with_reducible rfl
  try simp only [Act.put, List.setIfInBounds_toArray, List.set_cons_zero, List.set_cons_succ]
  refine wpAnyH_ready (rs := [2]) (by kernel_rfl) (by simp) ?_
  refine AllReadyH.cons (o := { dst := some 9, op := Op.call { callee := Callee.value (Operand.func 28), args := #[Operand.tmp 8], argTypes := #[3] }, type := 9, pos := "cond.go:65", after := #[{ on := 1, ground := Ground.data }], guard := none }) rfl (fun K' hK => ?_) AllReadyH.nil
  go_simp
  refine (hIt.out _).mono ?_
  rintro e wx ⟨rfl, hbx⟩
  refine hK.out _ _ (⟨⟨cellL hbx hHeld.1.1, cellL hbx hHeld.1.2⟩, hHeld.2.trans (hbx.mono hHeld.2.size)⟩) (fun hHeld => ?_)
  clear hK K'
  try simp only [Act.put, List.setIfInBounds_toArray, List.set_cons_zero, List.set_cons_succ]
  refine wpAnyH_take (i := 3) (oi := { dst := some 10, op := Op.binOp BinOp.add 9 (Operand.const (Value.string { data := #[97] })) (Operand.tmp 9) 9, type := 9, pos := "cond.go:65", after := #[{ on := 2, ground := Ground.data }], guard := none }) (v := (.string (⟨#[97]⟩ ++ decS a))) rfl (by kernel_rfl) (by kernel_rfl) (by kernel_rfl) (fun _ _ _ h => h) (Or.inl ⟨by rfl, ?hy3⟩) (by assumption) ?rest3
  case hy3 =>
    intro w hSw
    try dsimp only at hSw
    try obtain ⟨hSw, hSw2⟩ := hSw
    try go_split_ands
    go_simp
    try with_reducible rfl
  try simp only [Act.put, List.setIfInBounds_toArray, List.set_cons_zero, List.set_cons_succ]
  clear hbx
  refine wpAnyH_ready (rs := [4]) (by kernel_rfl) (by simp) ?_
  refine AllReadyH.cons (o := { dst := some 11, op := Op.call { callee := Callee.value (Operand.func 21), args := #[], argTypes := #[] }, type := 53, pos := "cond.go:65", after := #[{ on := 2, ground := Ground.chain }], guard := none }) rfl (fun K' hK => ?_) AllReadyH.nil
  go_simp
  refine (opsI_any _).mono ?_
  rintro e wy ⟨g, rfl, hg, hbx⟩
  have hop := opCell hg k hk
  rw [HK.out] at hop
  refine hK.out _ _ (⟨⟨cellL hbx hHeld.1.1, cellL hbx hHeld.1.2⟩, hHeld.2.trans (hbx.mono hHeld.2.size)⟩) (fun hHeld => ?_)
  clear hK K'
  try simp only [Act.put, List.setIfInBounds_toArray, List.set_cons_zero, List.set_cons_succ]
  refine wpAnyH_weaken (S' := fun w' => ((w'.cell? ⟨w.heap.size, 0, none⟩ = some (.int .i64 (a : Int)) ∧ w'.cell? ⟨w.heap.size, 1, none⟩ = some (.int .i64 K)) ∧ Below w2.heap.size w2 w') ∧ w'.cell? ⟨g, k * 2, none⟩ = some (.string (opText K))) (fun _ h => h.1) _ _ _ _ ?_
  have hHeld2 : (fun w' : World => ((w'.cell? ⟨w.heap.size, 0, none⟩ = some (.int .i64 (a : Int)) ∧ w'.cell? ⟨w.heap.size, 1, none⟩ = some (.int .i64 K)) ∧ Below w2.heap.size w2 w') ∧ w'.cell? ⟨g, k * 2, none⟩ = some (.string (opText K))) wy := ⟨hHeld, hop.1⟩
  clear hHeld hbx hop hg
  refine wpAnyH_take (i := 8) (oi := { dst := some 15, op := Op.indexAddr 53 (Operand.tmp 11) (Operand.tmp 14), type := 0, pos := "cond.go:65", after := #[{ on := 4, ground := Ground.data }, { on := 7, ground := Ground.data }], guard := none }) (v := ?v8) rfl (by kernel_rfl) (by kernel_rfl) (by kernel_rfl) (fun _ _ _ h => h) (Or.inl ⟨by rfl, ?hy8⟩) (by assumption) ?rest8
  case hy8 =>
    intro w hSw
    try dsimp only at hSw
    try obtain ⟨hSw, hSw2⟩ := hSw
    try go_split_ands
    go_simp
    try with_reducible rfl
  try simp only [Act.put, List.setIfInBounds_toArray, List.set_cons_zero, List.set_cons_succ]
  refine wpAnyH_take (i := 9) (oi := { dst := some 16, op := Op.fieldAddr 56 (Operand.tmp 15) 0, type := 0, pos := "cond.go:65", after := #[{ on := 8, ground := Ground.data }], guard := none }) (v := ?v9) rfl (by kernel_rfl) (by kernel_rfl) (by kernel_rfl) (fun _ _ _ h => h) (Or.inl ⟨by rfl, ?hy9⟩) (by assumption) ?rest9
  case hy9 =>
    intro w hSw
    try dsimp only at hSw
    try obtain ⟨hSw, hSw2⟩ := hSw
    try go_split_ands
    go_simp
    try with_reducible rfl
  try simp only [Act.put, List.setIfInBounds_toArray, List.set_cons_zero, List.set_cons_succ]
  refine wpAnyH_take (i := 10) (oi := { dst := some 17, op := Op.load 9 (Operand.tmp 16), type := 9, pos := "cond.go:65", after := #[{ on := 9, ground := Ground.data }], guard := none }) (v := ?v10) rfl (by kernel_rfl) (by kernel_rfl) (by kernel_rfl) (fun _ _ _ h => h) (Or.inl ⟨by rfl, ?hy10⟩) (by assumption) ?rest10
  case hy10 =>
    intro w hSw
    try dsimp only at hSw
    try obtain ⟨hSw, hSw2⟩ := hSw
    try go_split_ands
    go_simp
    try with_reducible rfl
  try simp only [Act.put, List.setIfInBounds_toArray, List.set_cons_zero, List.set_cons_succ]
  refine wpAnyH_ready (rs := [11]) (by kernel_rfl) (by simp) ?_
  refine AllReadyH.cons (o := { dst := some 18, op := Op.buildSlice 22 2 #[(0, Operand.tmp 10), (1, Operand.tmp 17)], type := 22, pos := "cond.go:65", after := #[{ on := 3, ground := Ground.data }, { on := 10, ground := Ground.data }], guard := none }) rfl (fun K' hK => ?_) AllReadyH.nil
  go_simp
  refine hK.out _ _ ⟨⟨⟨cellL ((Below.refl _ wy).alloc (Nat.le_refl _) _) hHeld2.1.1.1, cellL ((Below.refl _ wy).alloc (Nat.le_refl _) _) hHeld2.1.1.2⟩, hHeld2.1.2.alloc hHeld2.1.2.size _⟩, cellL ((Below.refl _ wy).alloc (Nat.le_refl _) _) hHeld2.2⟩ (fun hHeld3 => ?_)
  clear hK K'
  try simp only [Act.put, List.setIfInBounds_toArray, List.set_cons_zero, List.set_cons_succ]
  refine wpAnyH_take (i := 12) (oi := { dst := some 3, op := Op.assign (Operand.tmp 18), type := 22, pos := "cond.go:65", after := #[{ on := 11, ground := Ground.data }, { on := 4, ground := Ground.chain }, { on := 0, ground := Ground.phase }, { on := 1, ground := Ground.phase }, { on := 2, ground := Ground.phase }, { on := 3, ground := Ground.phase }, { on := 4, ground := Ground.phase }, { on := 5, ground := Ground.phase }, { on := 6, ground := Ground.phase }, { on := 7, ground := Ground.phase }, { on := 8, ground := Ground.phase }, { on := 9, ground := Ground.phase }, { on := 10, ground := Ground.phase }, { on := 11, ground := Ground.phase }], guard := none }) (v := ?v12) rfl (by kernel_rfl) (by kernel_rfl) (by kernel_rfl) (fun _ _ _ h => h) (Or.inl ⟨by rfl, ?hy12⟩) (by assumption) ?rest12
  case hy12 =>
    intro w hSw
    try dsimp only at hSw
    try obtain ⟨hSw, hSw2⟩ := hSw
    try go_split_ands
    go_simp
    try with_reducible rfl
  try simp only [Act.put, List.setIfInBounds_toArray, List.set_cons_zero, List.set_cons_succ]
  refine wpAnyH_done (by kernel_rfl) ?_ _
  refine NoPanic.normal ?_
  have HX3 := Lib.hid hHeld3.1.2
  have hO3 : ((wy.alloc (.cells #[.string (⟨#[97]⟩ ++ decS a), .string (opText K)] 9)).ownsRow w2.heap.size 9 1 (.slice (some ⟨wy.heap.size, 0, none⟩) 2 2) 2 [.string (⟨#[97]⟩ ++ decS a), .string (opText K)]) := own_new (n := 2) [.string (⟨#[97]⟩ ++ decS a), .string (opText K)] rfl hHeld2.1.2.size (by decide) (by decide)
  have HO3 := Lib.hid hO3
  clear hHeld3 hHeld2 c0 c1 hIt hcat wk wk2 hO3
  generalize wy.alloc (.cells #[.string (⟨#[97]⟩ ++ decS a), .string (opText K)] 9) = W3 at *
  generalize wy.heap.size = N at *
  obtain ⟨i0, hi, hz0, hz1, hz2⟩ := info_parts infoStr
  have c1 := (HA2.out.below HX3.out HA2.out.lt).cell 1
  simp only [List.getElem?_toArray, List.getElem?_cons_zero, List.getElem?_cons_succ] at c1
  by_cases h7 : K = 7
  · subst h7
    have c2 := (HA2.out.below HX3.out HA2.out.lt).cell 2
    simp only [List.getElem?_toArray, List.getElem?_cons_zero, List.getElem?_cons_succ] at c2
    have hd := Lib.hid (decimal10_any m HM.out W3 (HP2.out.below HX3.out))
    clear hKk
    go_wp2_with fail
    refine hd.out.mono ?_
    rintro e w4 ⟨rfl, hb4⟩
    have HX5 := Lib.hid ((HX3.out.trans (hb4.mono HX3.out.size)).alloc (HX3.out.trans (hb4.mono HX3.out.size)).size (.cells #[.string (decS m), .string ⟨#[61, 61]⟩] 9))
    have HO5 := Lib.hid ((own_below HO3.out hb4).alloc (.cells #[.string (decS m), .string ⟨#[61, 61]⟩] 9))
    clear hb4 hd HX3 HO3 c1 c2
    go_wp2_with (at_builtin; refine wpList_append_own _ rfl _ _ 22 rfl w2.heap.size 9 i0 (.string ⟨#[]⟩) 1 16 Tryd.underlying22 hi hz0 hz1 hz2 rfl (by decide) _ 2 _ rfl HO5.out ⟨w4.heap.size, 0, none⟩ 2 2 [.string (decS m), .string ⟨#[61, 61]⟩] rfl rfl ?ma2 ?ma3 ?ma4 ?ma5 ?ma6 ?_; (case ma2 => exact cells_new _ _ _); (case ma3 => simp [Value.oneCell']); (case ma4 => unfold maxLen; omega); (case ma5 => omega); (case ma6 => exact HX5.out.size); intro v' w6 hown' hgrow _; obtain ⟨g6, c6, rfl⟩ := ownsRow_succ hown'; have HX6 := Lib.hid (HX5.out.grown hgrow HX5.out.size (fun k e => (HO5.out.lt k e).1)); have c3 := (HA2.out.below HX6.out HA2.out.lt).cell 3; simp only [List.getElem?_toArray, List.getElem?_cons_zero, List.getElem?_cons_succ] at c3)
    have HO6 : Hid (w6.ownsRow w2.heap.size 9 1 (.slice (some ⟨g6, 0, none⟩) 4 c6) 4 [.string (⟨#[97]⟩ ++ decS a), .string (opText 7), .string (decS m), .string ⟨#[61, 61]⟩]) := hown'
    clear hown' hgrow HX5 HO5
    have hd := Lib.hid (decimal10_any v HV.out w6 (HP2.out.below HX6.out))
    go_wp2_with fail
    refine hd.out.mono ?_
    rintro e w7 ⟨rfl, hb7⟩
    have HX8 := Lib.hid ((HX6.out.trans (hb7.mono HX6.out.size)).alloc (HX6.out.trans (hb7.mono HX6.out.size)).size (.cells #[.string (decS v)] 9))
    have HO8 := Lib.hid ((own_below HO6.out hb7).alloc (.cells #[.string (decS v)] 9))
    clear hb7 c3 hd HX6 HO6
    go_wp2_with (at_builtin; refine wpList_append_own _ rfl _ _ 22 rfl w2.heap.size 9 i0 (.string ⟨#[]⟩) 1 16 Tryd.underlying22 hi hz0 hz1 hz2 rfl (by decide) _ 4 _ rfl HO8.out ⟨w7.heap.size, 0, none⟩ 1 1 [.string (decS v)] rfl rfl ?mb2 ?mb3 ?mb4 ?mb5 ?mb6 ?_; (case mb2 => exact cells_new _ _ _); (case mb3 => simp [Value.oneCell']); (case mb4 => unfold maxLen; omega); (case mb5 => omega); (case mb6 => exact HX8.out.size); intro v' w9 hown' hgrow _; obtain ⟨g9, c9, rfl⟩ := ownsRow_succ hown')
    have HX9 := Lib.hid (HX8.out.grown hgrow HX8.out.size (fun k e => (HO8.out.lt k e).1))
    obtain ⟨hg9, hc9⟩ := own_facts hown'
    have hcw : condWords a 7 m v = [⟨#[97]⟩ ++ decS a, opText 7, decS m, ⟨#[61, 61]⟩, decS v] := by unfold condWords; rw [if_pos rfl]
    have hjo := sjoin_any g9 c9 [⟨#[97]⟩ ++ decS a, opText 7, decS m, ⟨#[61, 61]⟩, decS v] ⟨#[32]⟩ w9 (fun j x hx => by
      have hj := (List.getElem?_eq_some_iff.1 hx).1
      rw [Nat.zero_add, hown'.cellAt j (by simp at hj; omega)]
      show (List.map Value.string [⟨#[97]⟩ ++ decS a, opText 7, decS m, ⟨#[61, 61]⟩, decS v])[j]? = _
      rw [List.getElem?_map, hx]
      rfl) hg9 (by show 5 ≤ _; decide) hc9 (by
        have := text_size a 7 m v ha HM.out HV.out
        unfold condText at this
        rw [hcw] at this
        have h2 : ((Lib.join (List.map (fun x : ByteArray => x.data.toList) [⟨#[97]⟩ ++ decS a, opText 7, decS m, ⟨#[61, 61]⟩, decS v]) [32]).toArray).size ≤ 60 := this
        rw [List.size_toArray] at h2
        exact Nat.le_trans h2 (by decide))
    have hjo2 : Calls Tryd.prog 30 #[.slice (some ⟨g9, 0, none⟩) 5 c9, .string ⟨#[32]⟩] w9 fun e w' => e = .returned (.string (condText a 7 m v)) ∧ Below w9.heap.size w9 w' := by
      unfold condText
      rw [hcw]
      exact hjo
    have HJ := Lib.hid hjo2
    clear hjo hjo2 hcw hown' hgrow HO8 HX8
    go_wp2_with fail
    refine HJ.out.mono ?_
    rintro e wf ⟨rfl, hbf⟩
    go_wp2
    go_ret
    exact ⟨rfl, HB2.out.trans ((HX9.out.trans (hbf.mono HX9.out.size)).mono HB2.out.size)⟩
  · have hq7 : (K == 7) = false := by simpa using h7
    go_upto_region 6 with fail
    clear c1
    have c3 := (HA2.out.below HX3.out HA2.out.lt).cell 3
    simp only [List.getElem?_toArray, List.getElem?_cons_zero, List.getElem?_cons_succ] at c3
    have hd := Lib.hid (decimal10_any v HV.out W3 (HP2.out.below HX3.out))
    go_wp2_with fail
    refine hd.out.mono ?_
    rintro e w7 ⟨rfl, hb7⟩
    have HX8 := Lib.hid ((HX3.out.trans (hb7.mono HX3.out.size)).alloc (HX3.out.trans (hb7.mono HX3.out.size)).size (.cells #[.string (decS v)] 9))
    have HO8 := Lib.hid ((own_below HO3.out hb7).alloc (.cells #[.string (decS v)] 9))
    clear hb7 c3 hd HX3 HO3
    go_wp2_with (at_builtin; refine wpList_append_own _ rfl _ _ 22 rfl w2.heap.size 9 i0 (.string ⟨#[]⟩) 1 16 Tryd.underlying22 hi hz0 hz1 hz2 rfl (by decide) _ 2 _ rfl HO8.out ⟨w7.heap.size, 0, none⟩ 1 1 [.string (decS v)] rfl rfl ?mc2 ?mc3 ?mc4 ?mc5 ?mc6 ?_; (case mc2 => exact cells_new _ _ _); (case mc3 => simp [Value.oneCell']); (case mc4 => unfold maxLen; omega); (case mc5 => omega); (case mc6 => exact HX8.out.size); intro v' w9 hown' hgrow _; obtain ⟨g9, c9, rfl⟩ := ownsRow_succ hown')
    have HX9 := Lib.hid (HX8.out.grown hgrow HX8.out.size (fun k e => (HO8.out.lt k e).1))
    obtain ⟨hg9, hc9⟩ := own_facts hown'
    have hcw : condWords a K m v = [⟨#[97]⟩ ++ decS a, opText K, decS v] := by unfold condWords; rw [if_neg h7]
    have hjo := sjoin_any g9 c9 [⟨#[97]⟩ ++ decS a, opText K, decS v] ⟨#[32]⟩ w9 (fun j x hx => by
      have hj := (List.getElem?_eq_some_iff.1 hx).1
      rw [Nat.zero_add, hown'.cellAt j (by simp at hj; omega)]
      show (List.map Value.string [⟨#[97]⟩ ++ decS a, opText K, decS v])[j]? = _
      rw [List.getElem?_map, hx]
      rfl) hg9 (by show 3 ≤ _; decide) hc9 (by
        have := text_size a K m v ha HM.out HV.out
        unfold condText at this
        rw [hcw] at this
        have h2 : ((Lib.join (List.map (fun x : ByteArray => x.data.toList) [⟨#[97]⟩ ++ decS a, opText K, decS v]) [32]).toArray).size ≤ 60 := this
        rw [List.size_toArray] at h2
        exact Nat.le_trans h2 (by decide))
    have hjo2 : Calls Tryd.prog 30 #[.slice (some ⟨g9, 0, none⟩) 3 c9, .string ⟨#[32]⟩] w9 fun e w' => e = .returned (.string (condText a K m v)) ∧ Below w9.heap.size w9 w' := by
      unfold condText
      rw [hcw]
      exact hjo
    have HJ := Lib.hid hjo2
    clear hjo hjo2 hcw hown' hgrow HO8 HX8
    go_wp2_with fail
    refine HJ.out.mono ?_
    rintro e wf ⟨rfl, hbf⟩
    go_wp2
    go_ret
    exact ⟨rfl, HB2.out.trans ((HX9.out.trans (hbf.mono HX9.out.size)).mono HB2.out.size)⟩
end Go.Proofs.YtlmobmbglninkaaDoor
