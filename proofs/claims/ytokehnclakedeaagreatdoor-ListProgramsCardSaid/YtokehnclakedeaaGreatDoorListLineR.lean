/- list.line: what the words of a line say. -/
import Derived.Test.YtokehnclakedeaaGreatDoorListFormed
import Derived.Deep.LoopGhost
namespace Go.Proofs.YtokehnclakedeaaGreatDoor
open Go Go.Proofs Go.RowKit Go.Shelf

theorem forms_shape : ∀ f ∈ formsL, f.code < 65536 ∧ (f.other.toList.isEmpty = true → f.jumps = false) := by decide +kernel
theorem formed_any (f : Frm) (hf : f ∈ formsL) (w0 : ByteArray) (r : List ByteArray) (hsz : ∀ s ∈ w0 :: r, s.size ≤ 1000000) (B off cp : Nat) (w : World) (hB : B < w.heap.size) (hcells : ∀ (j : Nat) (s : ByteArray), (w0 :: r)[j]? = some s → w.cell? ⟨B, off + j, none⟩ = some (.string s)) :
    Calls Tryz.prog 35 #[.agg #[.string f.word, .string f.other, .int .u16 (f.code : Int), .bool f.x, .bool f.jumps], .slice (some ⟨B, off, none⟩) (r.length + 1) cp] w fun e w' => formEnd (formedV f (w0 :: r)) e ∧ Below w.heap.size w w' := by
  obtain ⟨h1, h2⟩ := forms_shape f hf
  obtain ⟨h3, h4, h5⟩ := forms_ok f hf
  obtain ⟨_, _, _, _, h6, h7, _⟩ := forms_table f hf
  obtain ⟨fw, fo, fc, fx, fj⟩ := f
  dsimp only at h1 h2 h3 h4 h5 h6 h7 ⊢
  cases he : fo.toList.isEmpty with
  | true =>
    obtain rfl : fj = false := h2 he
    exact formed_e fw fo fc fx he h1 h6 h7 h3 h4 w0 r hsz B off cp w hB hcells
  | false =>
    cases fj with
    | false => exact formed_o fw fo fc fx he h1 h6 h7 h3 h4 w0 r hsz B off cp w hB hcells
    | true => exact formed_j fw fo fc fx he h1 h6 h7 h3 h4 w0 r hsz B off cp w hB hcells

/-- The first form that a line has. -/
def lineF : List Frm → List ByteArray → Option (Nat × Nat × Nat × Nat)
  | [], _ => none
  | f :: l, ws => match formedV f ws with
    | none => none
    | some none => lineF l ws
    | some (some x) => some x
def codeV (r : List ByteArray) : Option (Nat × Nat × Nat × Nat) :=
  match numV (r.getD 0 ⟨#[]⟩).data.toList 16 with
  | none => none
  | some c => (match numV (r.getD 1 ⟨#[]⟩).data.toList 8 with
    | none => none
    | some a => (match numV (r.getD 2 ⟨#[]⟩).data.toList 8 with
      | none => none
      | some b => (match numV (r.getD 3 ⟨#[]⟩).data.toList 32 with
        | none => none
        | some k => some (c, a, b, k))))
def dotCode : List UInt8 := [46, 99, 111, 100, 101]
/-- What a line of these words (one at least) says. -/
def lineV (w0 : ByteArray) (r : List ByteArray) : Option (Nat × Nat × Nat × Nat) :=
  if (w0.toList == dotCode) = true then (if r.length + 1 = 5 then codeV r else none) else lineF formsL (w0 :: r)
def lineEnd (o : Option (Nat × Nat × Nat × Nat)) (e : Ending) : Prop :=
  match o with
  | none => e = .panicked wrongP
  | some (c, a, b, k) => e = .returned (.agg #[.int .u16 (c : Int), .int .u8 (a : Int), .int .u8 (b : Int), .int .u32 (k : Int)])
theorem len5 {α : Type} {r : List α} (h : r.length + 1 = 5) : ∃ a b c d, r = [a, b, c, d] := by
  match r, h with
  | [a, b, c, d], _ => exact ⟨a, b, c, d, rfl⟩
def pickV (V : Option (Option (Nat × Nat × Nat × Nat))) (n : Option (Nat × Nat × Nat × Nat)) : Option (Nat × Nat × Nat × Nat) :=
  match V with
  | none => none
  | some none => n
  | some (some x) => some x
theorem lineF_step {i : Nat} {f : Frm} (hf : formsL[i]? = some f) (ws : List ByteArray) : lineF (formsL.drop i) ws = pickV (formedV f ws) (lineF (formsL.drop (i + 1)) ws) := by
  obtain ⟨hlt, he⟩ := List.getElem?_eq_some_iff.1 hf
  rw [List.drop_eq_getElem_cons hlt, he]
  rfl

set_option maxRecDepth 100000 in
set_option maxHeartbeats 16000000 in
theorem lineR_any (w0 : ByteArray) (r : List ByteArray) (hsz : ∀ s ∈ w0 :: r, s.size ≤ 1000000) (hbig : r.length ≤ 1000000) (B off cp : Nat) (w : World) (hT : AscT w) (hB : B < w.heap.size) (hcells : ∀ (j : Nat) (s : ByteArray), (w0 :: r)[j]? = some s → w.cell? ⟨B, off + j, none⟩ = some (.string s)) :
    Calls Tryz.prog 17 #[.slice (some ⟨B, off, none⟩) (r.length + 1) cp] w fun e w' => lineEnd (lineV w0 r) e ∧ Below w.heap.size w w' := by
  have hbZ := Blk.new w 25 #[.int .u16 0, .int .u8 0, .int .u8 0, .int .u32 0]
  have hb := (Below.refl w.heap.size w).alloc (Nat.le_refl _) (.cells #[.int .u16 0, .int .u8 0, .int .u8 0, .int .u32 0] 25)
  have HS : Hid (∀ W, Below w.heap.size w W → ∀ (j : Nat) (s : ByteArray), (w0 :: r)[j]? = some s → W.cell? ⟨B, off + j, none⟩ = some (.string s)) := fun W hW j s hj => lcellF hW (hcells j s hj)
  have HZ := Lib.hid hbZ
  have HB := Lib.hid hb
  have HT := Lib.hid hT
  have HLB := Lib.hid hB
  clear hbZ hb hcells hT hB
  have t0 := HS.out _ HB.out 0 w0 rfl
  simp only [Nat.add_zero] at t0
  obtain ⟨m, hm⟩ : ∃ m, r.length + 1 = m := ⟨_, rfl⟩
  have hm0 : (0 : Int) < (m : Int) := by omega
  by_cases hq : (w0.toList == dotCode) = true
  case pos =>
    have hv : lineV w0 r = if r.length + 1 = 5 then codeV r else none := by show (if _ then _ else _) = _; rw [if_pos hq]
    rw [hv, hm]
    have hq1 : (w0.toList == [46, 99, 111, 100, 101]) = true := hq
    have hq2 : w0.toList = [46, 99, 111, 100, 101] := by simpa using hq1
    clear hv hq
    by_cases hmn : m = 5
    case neg =>
      rw [if_neg hmn]
      have hmz : ¬ (m : Int) = 5 := by omega
      have hmb : ((m : Int) == 5) = false := by simpa using hmz
      clear HS hsz hm hmn HZ HT HLB
      go_enter Tryz.func17, Tryz.ntmps17
      go_wp2_with fail
      refine (need_false _).mono ?_
      rintro e w1 ⟨rfl, rfl⟩
      go_wp2
      exact ⟨rfl, rfl, HB.out⟩
    subst hmn
    rw [if_pos rfl]
    clear hm0
    obtain ⟨s1, s2, s3, s4, rfl⟩ := len5 hm
    have hcv : codeV [s1, s2, s3, s4] = (match numV s1.data.toList 16 with | none => none | some c => (match numV s2.data.toList 8 with | none => none | some a => (match numV s3.data.toList 8 with | none => none | some b => (match numV s4.data.toList 32 with | none => none | some k => some (c, a, b, k))))) := rfl
    rw [hcv]
    clear hcv hm
    have hnum1 := fun W => number3_any s1 16 (.inr (.inl rfl)) (by have := hsz s1 (by simp); omega) W
    obtain ⟨N1, hN1⟩ : ∃ N, numV s1.data.toList 16 = N := ⟨_, rfl⟩
    have HL1 : Hid (∀ a, N1 = some a → a < 2 ^ 16) := fun a h => numV_lt (hN1.trans h)
    rw [hN1] at hnum1 ⊢
    have HN1 := Lib.hid hnum1
    clear hnum1 hN1
    have hnum2 := fun W => number3_any s2 8 (.inl rfl) (by have := hsz s2 (by simp); omega) W
    obtain ⟨N2, hN2⟩ : ∃ N, numV s2.data.toList 8 = N := ⟨_, rfl⟩
    have HL2 : Hid (∀ a, N2 = some a → a < 2 ^ 8) := fun a h => numV_lt (hN2.trans h)
    rw [hN2] at hnum2 ⊢
    have HN2 := Lib.hid hnum2
    clear hnum2 hN2
    have hnum3 := fun W => number3_any s3 8 (.inl rfl) (by have := hsz s3 (by simp); omega) W
    obtain ⟨N3, hN3⟩ : ∃ N, numV s3.data.toList 8 = N := ⟨_, rfl⟩
    have HL3 : Hid (∀ a, N3 = some a → a < 2 ^ 8) := fun a h => numV_lt (hN3.trans h)
    rw [hN3] at hnum3 ⊢
    have HN3 := Lib.hid hnum3
    clear hnum3 hN3
    have hnum4 := fun W => number3_any s4 32 (.inr (.inr rfl)) (by have := hsz s4 (by simp); omega) W
    obtain ⟨N4, hN4⟩ : ∃ N, numV s4.data.toList 32 = N := ⟨_, rfl⟩
    have HL4 : Hid (∀ a, N4 = some a → a < 2 ^ 32) := fun a h => numV_lt (hN4.trans h)
    rw [hN4] at hnum4 ⊢
    have HN4 := Lib.hid hnum4
    clear hnum4 hN4
    clear hsz HT HLB
    go_enter Tryz.func17, Tryz.ntmps17
    go_wp2_with fail
    refine (need_true _).mono ?_
    rintro e w1 ⟨rfl, rfl⟩
    go_upto_region 3 with fail
    have SOK : Hid (∀ w', Below w.heap.size w w' → (w'.cell? ⟨B, off + 1, none⟩ = some (.string s1) ∧ w'.cell? ⟨B, off + 2, none⟩ = some (.string s2) ∧ w'.cell? ⟨B, off + 3, none⟩ = some (.string s3) ∧ w'.cell? ⟨B, off + 4, none⟩ = some (.string s4))) := fun w' hb => ⟨HS.out _ hb 1 s1 rfl, HS.out _ hb 2 s2 rfl, HS.out _ hb 3 s3 rfl, HS.out _ hb 4 s4 rfl⟩
    refine wp_region_held_drew (S := fun w' => w'.cell? ⟨B, off + 1, none⟩ = some (.string s1) ∧ w'.cell? ⟨B, off + 2, none⟩ = some (.string s2) ∧ w'.cell? ⟨B, off + 3, none⟩ = some (.string s3) ∧ w'.cell? ⟨B, off + 4, none⟩ = some (.string s4)) (by kernel_rfl) (SOK.out _ HB.out.drew) (fun hHeld => ?_)
    have HZ5 := blkH HZ (Below.refl _ (w.alloc (.cells #[.int .u16 0, .int .u8 0, .int .u8 0, .int .u32 0] 25))).drew
    have HB5 := Lib.hid HB.out.drew
    clear HZ HB t0
    generalize (w.alloc (.cells #[.int .u16 0, .int .u8 0, .int .u8 0, .int .u32 0] 25)).drew = w5 at *
    refine wpAnyH_take (i := 0) (oi := { dst := some 15, op := Op.move (Operand.tmp 0), type := 35, pos := "list.go:144", after := #[], guard := none }) (v := ?vu0) rfl (by kernel_rfl) (by kernel_rfl) (by kernel_rfl) (fun _ _ _ h => h) (Or.inl ⟨by rfl, ?hyu0⟩) (by assumption) ?restu0
    case hyu0 =>
      intro w hSw
      try dsimp only at hSw
      try obtain ⟨hSw, hSw2⟩ := hSw
      try go_split_ands
      go_simp
      try with_reducible rfl
    try simp only [Act.put, List.setIfInBounds_toArray, List.set_cons_zero, List.set_cons_succ]
    refine wpAnyH_take (i := 1) (oi := { dst := some 16, op := Op.indexAddr 35 (Operand.tmp 15) (Operand.const (Value.int IntKind.i64 1)), type := 0, pos := "list.go:144", after := #[{ on := 0, ground := Ground.data }], guard := none }) (v := ?vu1) rfl (by kernel_rfl) (by kernel_rfl) (by kernel_rfl) (fun _ _ _ h => h) (Or.inl ⟨by rfl, ?hyu1⟩) (by assumption) ?restu1
    case hyu1 =>
      intro w hSw
      try dsimp only at hSw
      try obtain ⟨hSw, hSw2⟩ := hSw
      try go_split_ands
      go_simp
      try with_reducible rfl
    try simp only [Act.put, List.setIfInBounds_toArray, List.set_cons_zero, List.set_cons_succ]
    refine wpAnyH_take (i := 2) (oi := { dst := some 17, op := Op.load 9 (Operand.tmp 16), type := 9, pos := "list.go:144", after := #[{ on := 1, ground := Ground.data }], guard := none }) (v := ?vu2) rfl (by kernel_rfl) (by kernel_rfl) (by kernel_rfl) (fun _ _ _ h => h) (Or.inl ⟨by rfl, ?hyu2⟩) (by assumption) ?restu2
    case hyu2 =>
      intro w hSw
      try dsimp only at hSw
      try obtain ⟨hSw, hSw2⟩ := hSw
      try go_split_ands
      go_simp
      try with_reducible rfl
    try simp only [Act.put, List.setIfInBounds_toArray, List.set_cons_zero, List.set_cons_succ]
    refine wpAnyH_take (i := 5) (oi := { dst := some 20, op := Op.move (Operand.tmp 0), type := 35, pos := "list.go:144", after := #[], guard := none }) (v := ?vu5) rfl (by kernel_rfl) (by kernel_rfl) (by kernel_rfl) (fun _ _ _ h => h) (Or.inl ⟨by rfl, ?hyu5⟩) (by assumption) ?restu5
    case hyu5 =>
      intro w hSw
      try dsimp only at hSw
      try obtain ⟨hSw, hSw2⟩ := hSw
      try go_split_ands
      go_simp
      try with_reducible rfl
    try simp only [Act.put, List.setIfInBounds_toArray, List.set_cons_zero, List.set_cons_succ]
    refine wpAnyH_take (i := 6) (oi := { dst := some 21, op := Op.indexAddr 35 (Operand.tmp 20) (Operand.const (Value.int IntKind.i64 2)), type := 0, pos := "list.go:144", after := #[{ on := 5, ground := Ground.data }], guard := none }) (v := ?vu6) rfl (by kernel_rfl) (by kernel_rfl) (by kernel_rfl) (fun _ _ _ h => h) (Or.inl ⟨by rfl, ?hyu6⟩) (by assumption) ?restu6
    case hyu6 =>
      intro w hSw
      try dsimp only at hSw
      try obtain ⟨hSw, hSw2⟩ := hSw
      try go_split_ands
      go_simp
      try with_reducible rfl
    try simp only [Act.put, List.setIfInBounds_toArray, List.set_cons_zero, List.set_cons_succ]
    refine wpAnyH_take (i := 7) (oi := { dst := some 22, op := Op.load 9 (Operand.tmp 21), type := 9, pos := "list.go:144", after := #[{ on := 6, ground := Ground.data }], guard := none }) (v := ?vu7) rfl (by kernel_rfl) (by kernel_rfl) (by kernel_rfl) (fun _ _ _ h => h) (Or.inl ⟨by rfl, ?hyu7⟩) (by assumption) ?restu7
    case hyu7 =>
      intro w hSw
      try dsimp only at hSw
      try obtain ⟨hSw, hSw2⟩ := hSw
      try go_split_ands
      go_simp
      try with_reducible rfl
    try simp only [Act.put, List.setIfInBounds_toArray, List.set_cons_zero, List.set_cons_succ]
    refine wpAnyH_take (i := 10) (oi := { dst := some 25, op := Op.move (Operand.tmp 0), type := 35, pos := "list.go:144", after := #[], guard := none }) (v := ?vu10) rfl (by kernel_rfl) (by kernel_rfl) (by kernel_rfl) (fun _ _ _ h => h) (Or.inl ⟨by rfl, ?hyu10⟩) (by assumption) ?restu10
    case hyu10 =>
      intro w hSw
      try dsimp only at hSw
      try obtain ⟨hSw, hSw2⟩ := hSw
      try go_split_ands
      go_simp
      try with_reducible rfl
    try simp only [Act.put, List.setIfInBounds_toArray, List.set_cons_zero, List.set_cons_succ]
    refine wpAnyH_take (i := 11) (oi := { dst := some 26, op := Op.indexAddr 35 (Operand.tmp 25) (Operand.const (Value.int IntKind.i64 3)), type := 0, pos := "list.go:144", after := #[{ on := 10, ground := Ground.data }], guard := none }) (v := ?vu11) rfl (by kernel_rfl) (by kernel_rfl) (by kernel_rfl) (fun _ _ _ h => h) (Or.inl ⟨by rfl, ?hyu11⟩) (by assumption) ?restu11
    case hyu11 =>
      intro w hSw
      try dsimp only at hSw
      try obtain ⟨hSw, hSw2⟩ := hSw
      try go_split_ands
      go_simp
      try with_reducible rfl
    try simp only [Act.put, List.setIfInBounds_toArray, List.set_cons_zero, List.set_cons_succ]
    refine wpAnyH_take (i := 12) (oi := { dst := some 27, op := Op.load 9 (Operand.tmp 26), type := 9, pos := "list.go:144", after := #[{ on := 11, ground := Ground.data }], guard := none }) (v := ?vu12) rfl (by kernel_rfl) (by kernel_rfl) (by kernel_rfl) (fun _ _ _ h => h) (Or.inl ⟨by rfl, ?hyu12⟩) (by assumption) ?restu12
    case hyu12 =>
      intro w hSw
      try dsimp only at hSw
      try obtain ⟨hSw, hSw2⟩ := hSw
      try go_split_ands
      go_simp
      try with_reducible rfl
    try simp only [Act.put, List.setIfInBounds_toArray, List.set_cons_zero, List.set_cons_succ]
    refine wpAnyH_take (i := 15) (oi := { dst := some 30, op := Op.move (Operand.tmp 0), type := 35, pos := "list.go:144", after := #[], guard := none }) (v := ?vu15) rfl (by kernel_rfl) (by kernel_rfl) (by kernel_rfl) (fun _ _ _ h => h) (Or.inl ⟨by rfl, ?hyu15⟩) (by assumption) ?restu15
    case hyu15 =>
      intro w hSw
      try dsimp only at hSw
      try obtain ⟨hSw, hSw2⟩ := hSw
      try go_split_ands
      go_simp
      try with_reducible rfl
    try simp only [Act.put, List.setIfInBounds_toArray, List.set_cons_zero, List.set_cons_succ]
    refine wpAnyH_take (i := 16) (oi := { dst := some 31, op := Op.indexAddr 35 (Operand.tmp 30) (Operand.const (Value.int IntKind.i64 4)), type := 0, pos := "list.go:144", after := #[{ on := 15, ground := Ground.data }], guard := none }) (v := ?vu16) rfl (by kernel_rfl) (by kernel_rfl) (by kernel_rfl) (fun _ _ _ h => h) (Or.inl ⟨by rfl, ?hyu16⟩) (by assumption) ?restu16
    case hyu16 =>
      intro w hSw
      try dsimp only at hSw
      try obtain ⟨hSw, hSw2⟩ := hSw
      try go_split_ands
      go_simp
      try with_reducible rfl
    try simp only [Act.put, List.setIfInBounds_toArray, List.set_cons_zero, List.set_cons_succ]
    refine wpAnyH_take (i := 17) (oi := { dst := some 32, op := Op.load 9 (Operand.tmp 31), type := 9, pos := "list.go:144", after := #[{ on := 16, ground := Ground.data }], guard := none }) (v := ?vu17) rfl (by kernel_rfl) (by kernel_rfl) (by kernel_rfl) (fun _ _ _ h => h) (Or.inl ⟨by rfl, ?hyu17⟩) (by assumption) ?restu17
    case hyu17 =>
      intro w hSw
      try dsimp only at hSw
      try obtain ⟨hSw, hSw2⟩ := hSw
      try go_split_ands
      go_simp
      try with_reducible rfl
    try simp only [Act.put, List.setIfInBounds_toArray, List.set_cons_zero, List.set_cons_succ]
    refine wpAnyH_ready (rs := [3]) (by kernel_rfl) (by simp) ?_
    refine AllReadyH.cons (o := { dst := some 18, op := Op.call { callee := Callee.value (Operand.func 34), args := #[Operand.tmp 17, Operand.const (Value.int IntKind.i64 16)], argTypes := #[9, 3] }, type := 23, pos := "list.go:144", after := #[{ on := 2, ground := Ground.data }], guard := none }) rfl (fun K' hK => ?_) AllReadyH.nil
    go_simp
    refine (HN1.out _).mono ?_
    rintro e w6 ⟨hne, hb6⟩
    cases N1 with
    | none =>
      obtain rfl : e = .panicked wrongP := hne
      have HBe := belB HB5 hb6
      first
        | exact ⟨rfl, rfl, HBe.out⟩
        | (go_wp2; exact ⟨rfl, rfl, HBe.out⟩)
    | some c =>
      have wrc : IntKind.u16.wrap (c : Int) = (c : Int) := IntWalk.u16_in _ ⟨by omega, by have := HL1.out c rfl; omega⟩
      obtain rfl : e = .returned (.int .u32 (c : Int)) := hne
      have HZ6 := blkH HZ5 hb6
      have HB6 := belB HB5 hb6
      clear hHeld
      refine hK.out _ _ (SOK.out _ HB6.out) (fun hHeld => ?_)
      clear hK K' hb6 HZ5 HB5
      try simp only [Act.put, List.setIfInBounds_toArray, List.set_cons_zero, List.set_cons_succ]
      refine wpAnyH_take (i := 4) (oi := { dst := some 19, op := Op.convert 23 22 (Operand.tmp 18), type := 22, pos := "list.go:144", after := #[{ on := 3, ground := Ground.data }], guard := none }) (v := ?vu4) rfl (by kernel_rfl) (by kernel_rfl) (by kernel_rfl) (fun _ _ _ h => h) (Or.inl ⟨by rfl, ?hyu4⟩) (by assumption) ?restu4
      case hyu4 =>
        intro w hSw
        try dsimp only at hSw
        try obtain ⟨hSw, hSw2⟩ := hSw
        try go_split_ands
        go_simp
        try with_reducible rfl
      try simp only [Act.put, List.setIfInBounds_toArray, List.set_cons_zero, List.set_cons_succ]
      refine wpAnyH_ready (rs := [8]) (by kernel_rfl) (by simp) ?_
      refine AllReadyH.cons (o := { dst := some 23, op := Op.call { callee := Callee.value (Operand.func 34), args := #[Operand.tmp 22, Operand.const (Value.int IntKind.i64 8)], argTypes := #[9, 3] }, type := 23, pos := "list.go:144", after := #[{ on := 7, ground := Ground.data }, { on := 3, ground := Ground.chain }], guard := none }) rfl (fun K' hK => ?_) AllReadyH.nil
      go_simp
      refine (HN2.out _).mono ?_
      rintro e w7 ⟨hne, hb7⟩
      cases N2 with
      | none =>
        obtain rfl : e = .panicked wrongP := hne
        have HBe := belB HB6 hb7
        first
          | exact ⟨rfl, rfl, HBe.out⟩
          | (go_wp2; exact ⟨rfl, rfl, HBe.out⟩)
      | some a =>
        have wra : IntKind.u8.wrap (a : Int) = (a : Int) := IntWalk.u8_in _ ⟨by omega, by have := HL2.out a rfl; omega⟩
        obtain rfl : e = .returned (.int .u32 (a : Int)) := hne
        have HZ7 := blkH HZ6 hb7
        have HB7 := belB HB6 hb7
        clear hHeld
        refine hK.out _ _ (SOK.out _ HB7.out) (fun hHeld => ?_)
        clear hK K' hb7 HZ6 HB6
        try simp only [Act.put, List.setIfInBounds_toArray, List.set_cons_zero, List.set_cons_succ]
        refine wpAnyH_take (i := 9) (oi := { dst := some 24, op := Op.convert 23 5 (Operand.tmp 23), type := 5, pos := "list.go:144", after := #[{ on := 8, ground := Ground.data }], guard := none }) (v := ?vu9) rfl (by kernel_rfl) (by kernel_rfl) (by kernel_rfl) (fun _ _ _ h => h) (Or.inl ⟨by rfl, ?hyu9⟩) (by assumption) ?restu9
        case hyu9 =>
          intro w hSw
          try dsimp only at hSw
          try obtain ⟨hSw, hSw2⟩ := hSw
          try go_split_ands
          go_simp
          try with_reducible rfl
        try simp only [Act.put, List.setIfInBounds_toArray, List.set_cons_zero, List.set_cons_succ]
        refine wpAnyH_ready (rs := [13]) (by kernel_rfl) (by simp) ?_
        refine AllReadyH.cons (o := { dst := some 28, op := Op.call { callee := Callee.value (Operand.func 34), args := #[Operand.tmp 27, Operand.const (Value.int IntKind.i64 8)], argTypes := #[9, 3] }, type := 23, pos := "list.go:144", after := #[{ on := 12, ground := Ground.data }, { on := 8, ground := Ground.chain }], guard := none }) rfl (fun K' hK => ?_) AllReadyH.nil
        go_simp
        refine (HN3.out _).mono ?_
        rintro e w8 ⟨hne, hb8⟩
        cases N3 with
        | none =>
          obtain rfl : e = .panicked wrongP := hne
          have HBe := belB HB7 hb8
          first
            | exact ⟨rfl, rfl, HBe.out⟩
            | (go_wp2; exact ⟨rfl, rfl, HBe.out⟩)
        | some b =>
          have wrb : IntKind.u8.wrap (b : Int) = (b : Int) := IntWalk.u8_in _ ⟨by omega, by have := HL3.out b rfl; omega⟩
          obtain rfl : e = .returned (.int .u32 (b : Int)) := hne
          have HZ8 := blkH HZ7 hb8
          have HB8 := belB HB7 hb8
          clear hHeld
          refine hK.out _ _ (SOK.out _ HB8.out) (fun hHeld => ?_)
          clear hK K' hb8 HZ7 HB7
          try simp only [Act.put, List.setIfInBounds_toArray, List.set_cons_zero, List.set_cons_succ]
          refine wpAnyH_take (i := 14) (oi := { dst := some 29, op := Op.convert 23 5 (Operand.tmp 28), type := 5, pos := "list.go:144", after := #[{ on := 13, ground := Ground.data }], guard := none }) (v := ?vu14) rfl (by kernel_rfl) (by kernel_rfl) (by kernel_rfl) (fun _ _ _ h => h) (Or.inl ⟨by rfl, ?hyu14⟩) (by assumption) ?restu14
          case hyu14 =>
            intro w hSw
            try dsimp only at hSw
            try obtain ⟨hSw, hSw2⟩ := hSw
            try go_split_ands
            go_simp
            try with_reducible rfl
          try simp only [Act.put, List.setIfInBounds_toArray, List.set_cons_zero, List.set_cons_succ]
          refine wpAnyH_ready (rs := [18]) (by kernel_rfl) (by simp) ?_
          refine AllReadyH.cons (o := { dst := some 33, op := Op.call { callee := Callee.value (Operand.func 34), args := #[Operand.tmp 32, Operand.const (Value.int IntKind.i64 32)], argTypes := #[9, 3] }, type := 23, pos := "list.go:144", after := #[{ on := 17, ground := Ground.data }, { on := 13, ground := Ground.chain }], guard := none }) rfl (fun K' hK => ?_) AllReadyH.nil
          go_simp
          refine (HN4.out _).mono ?_
          rintro e w9 ⟨hne, hb9⟩
          cases N4 with
          | none =>
            obtain rfl : e = .panicked wrongP := hne
            have HBe := belB HB8 hb9
            first
              | exact ⟨rfl, rfl, HBe.out⟩
              | (go_wp2; exact ⟨rfl, rfl, HBe.out⟩)
          | some k =>
            obtain rfl : e = .returned (.int .u32 (k : Int)) := hne
            have HZ9 := blkH HZ8 hb9
            have HB9 := belB HB8 hb9
            clear hHeld
            refine hK.out _ _ (SOK.out _ HB9.out) (fun hHeld => ?_)
            clear hK K' hb9 HZ8 HB8
            try simp only [Act.put, List.setIfInBounds_toArray, List.set_cons_zero, List.set_cons_succ]
            refine wpAnyH_take (i := 19) (oi := { dst := some 34, op := Op.build 25 #[(0, Operand.tmp 19), (1, Operand.tmp 24), (2, Operand.tmp 29), (3, Operand.tmp 33)], type := 25, pos := "list.go:144", after := #[{ on := 4, ground := Ground.data }, { on := 9, ground := Ground.data }, { on := 14, ground := Ground.data }, { on := 18, ground := Ground.data }], guard := none }) (v := ?vu19) rfl (by kernel_rfl) (by kernel_rfl) (by kernel_rfl) (fun _ _ _ h => h) (Or.inl ⟨by rfl, ?hyu19⟩) (by assumption) ?restu19
            case hyu19 =>
              intro w hSw
              try dsimp only at hSw
              try obtain ⟨hSw, hSw2⟩ := hSw
              try go_split_ands
              go_simp
              try with_reducible rfl
            try simp only [Act.put, List.setIfInBounds_toArray, List.set_cons_zero, List.set_cons_succ]
            refine wpAnyH_ready (rs := [20]) (by kernel_rfl) (by simp) ?_
            refine AllReadyH.cons (o := { dst := none, op := Op.store 25 (Operand.tmp 2) (Operand.tmp 34), type := 0, pos := "list.go:144", after := #[{ on := 19, ground := Ground.data }, { on := 18, ground := Ground.chain }, { on := 0, ground := Ground.phase }, { on := 1, ground := Ground.phase }, { on := 2, ground := Ground.phase }, { on := 3, ground := Ground.phase }, { on := 4, ground := Ground.phase }, { on := 5, ground := Ground.phase }, { on := 6, ground := Ground.phase }, { on := 7, ground := Ground.phase }, { on := 8, ground := Ground.phase }, { on := 9, ground := Ground.phase }, { on := 10, ground := Ground.phase }, { on := 11, ground := Ground.phase }, { on := 12, ground := Ground.phase }, { on := 13, ground := Ground.phase }, { on := 14, ground := Ground.phase }, { on := 15, ground := Ground.phase }, { on := 16, ground := Ground.phase }, { on := 17, ground := Ground.phase }, { on := 18, ground := Ground.phase }, { on := 19, ground := Ground.phase }], guard := none }) rfl (fun K' hK => ?_) AllReadyH.nil
            have z0 := HZ9.out.frozen 0
            have z1 := HZ9.out.frozen 1
            have z2 := HZ9.out.frozen 2
            have z3 := HZ9.out.frozen 3
            have y0 := HZ9.out.cell 0
            have y1 := HZ9.out.cell 1
            have y2 := HZ9.out.cell 2
            have y3 := HZ9.out.cell 3
            simp only [List.getElem?_toArray, List.getElem?_cons_zero, List.getElem?_cons_succ] at y0 y1 y2 y3
            have HZ10 := Lib.hid ((((HZ9.out.set 0 (.int .u16 (c : Int))).set 1 (.int .u8 (a : Int))).set 2 (.int .u8 (b : Int))).set 3 (.int .u32 (k : Int)))
            have HB10 := Lib.hid ((((HB9.out.setCell (p := ⟨w.heap.size, 0, none⟩) (Nat.le_refl _) (.int .u16 (c : Int))).setCell (p := ⟨w.heap.size, 1, none⟩) (Nat.le_refl _) (.int .u8 (a : Int))).setCell (p := ⟨w.heap.size, 2, none⟩) (Nat.le_refl _) (.int .u8 (b : Int))).setCell (p := ⟨w.heap.size, 3, none⟩) (Nat.le_refl _) (.int .u32 (k : Int)))
            go_simp
            clear hHeld
            refine hK.out _ _ (SOK.out _ HB10.out) (fun hHeld => ?_)
            clear hK K' z0 z1 z2 z3 y0 y1 y2 y3 HZ9 HB9
            try simp only [Act.put, List.setIfInBounds_toArray, List.set_cons_zero, List.set_cons_succ]
            generalize (((w9.setCell ⟨w.heap.size, 0, none⟩ (.int .u16 (c : Int))).setCell ⟨w.heap.size, 1, none⟩ (.int .u8 (a : Int))).setCell ⟨w.heap.size, 2, none⟩ (.int .u8 (b : Int))).setCell ⟨w.heap.size, 3, none⟩ (.int .u32 (k : Int)) = w10 at *
            refine wpAnyH_done (by kernel_rfl) ?_ _
            have e0 := HZ10.out.cell 0
            have e1 := HZ10.out.cell 1
            have e2 := HZ10.out.cell 2
            have e3 := HZ10.out.cell 3
            simp at e0 e1 e2 e3
            go_wp2
            refine bodyPost_ret (v := .agg #[.int .u16 (c : Int), .int .u8 (a : Int), .int .u8 (b : Int), .int .u32 (k : Int)]) (by simp [results, Tryz.results17, go_sem, e0, e1, e2, e3]) rfl ⟨rfl, ?_⟩
            exact HB10.out
  have hqf : (w0.toList == [46, 99, 111, 100, 101]) = false := by have : (w0.toList == [46, 99, 111, 100, 101]) ≠ true := hq; simpa using this
  have hq2 : ¬ w0.toList = [46, 99, 111, 100, 101] := by simpa using hqf
  have hv : lineV w0 r = lineF formsL (w0 :: r) := by show (if _ then _ else _) = _; rw [if_neg hq]
  rw [hv]
  have Hfo := Lib.hid (forms_any _ (HT.out.below HB.out))
  have HFM := Lib.hid (fun f hf W hW hcl => formed_any f hf w0 r hsz B off cp W hW hcl)
  clear hv hq HT hsz
  rw [hm]
  go_enter Tryz.func17, Tryz.ntmps17
  go_wp2_with fail
  refine Hfo.out.mono ?_
  rintro e w2 ⟨v, rfl, hown, hb2⟩
  obtain ⟨g, cap, rfl⟩ := ownsRow_succ hown
  have HZ2 := blkH HZ hb2
  have HB2 := belB HB hb2
  have HO2 := Lib.hid hown
  clear hown hb2 HZ HB Hfo t0 hqf hq2
  go_upto_region 5 with fail
  go_loopw [37] (fun s37 wr => ∃ i : Nat, i ≤ 41 ∧ s37 = .int .i64 i ∧ Hid (lineF formsL (w0 :: r) = lineF (formsL.drop i) (w0 :: r)) ∧ Hid (Below w2.heap.size w2 wr)) (fun s37 _ => 41 - (intOf s37).toNat)
  case atStart => exact ⟨0, Nat.zero_le _, rfl, (show Hid _ from rfl), (show Hid _ from Below.refl _ _)⟩
  case round =>
    obtain ⟨i, hi, rfl, HNO, HX⟩ := hrel
    by_cases hlt : i < 41
    · have iz : (i : Int) < 41 := by omega
      have iz0 : (0 : Int) ≤ (i : Int) := by omega
      obtain ⟨f, hf⟩ : ∃ f, formsL[i]? = some f := ⟨_, List.getElem?_eq_getElem (by rw [formsL_len]; exact hlt)⟩
      have hst := lineF_step hf (w0 :: r)
      have HST := Lib.hid (HNO.out.trans hst)
      have hrow := own_below HO2.out HX.out
      have q0 := (hrow.cellAt (i * 5 + 0) (by omega)).trans (flatF_at formsL i f hf 0 (by omega))
      have q1 := (hrow.cellAt (i * 5 + 1) (by omega)).trans (flatF_at formsL i f hf 1 (by omega))
      have q2 := (hrow.cellAt (i * 5 + 2) (by omega)).trans (flatF_at formsL i f hf 2 (by omega))
      have q3 := (hrow.cellAt (i * 5 + 3) (by omega)).trans (flatF_at formsL i f hf 3 (by omega))
      have q4 := (hrow.cellAt (i * 5 + 4) (by omega)).trans (flatF_at formsL i f hf 4 (by omega))
      simp only [frmCells, List.getElem?_cons_zero, List.getElem?_cons_succ, Nat.add_zero] at q0 q1 q2 q3 q4
      have HX3 := Lib.hid (HX.out.alloc HX.out.size (.cells #[.string f.word, .string f.other, .int .u16 (f.code : Int), .bool f.x, .bool f.jumps] 62))
      have HF3 := Lib.hid (Blk.new wr 62 #[.string f.word, .string f.other, .int .u16 (f.code : Int), .bool f.x, .bool f.jumps])
      have hfm := HFM.out f (List.mem_of_getElem? hf)
      have HFf := Lib.hid hfm
      clear hrow hst hf HNO HX hfm
      go_upto_region 7 with fail
      clear q0 q1 q2 q3 q4
      generalize wr.alloc (.cells #[.string f.word, .string f.other, .int .u16 (f.code : Int), .bool f.x, .bool f.jumps] 62) = W3 at *
      generalize wr.heap.size = FB at *
      have f0 := HF3.out.cell 0
      have f1 := HF3.out.cell 1
      have f2 := HF3.out.cell 2
      have f3 := HF3.out.cell 3
      have f4 := HF3.out.cell 4
      simp only [List.getElem?_toArray, List.getElem?_cons_zero, List.getElem?_cons_succ] at f0 f1 f2 f3 f4
      go_wp2_with fail
      have HBx := Lib.hid (HB2.out.trans (HX3.out.mono HB2.out.size))
      rw [← hm]
      refine (HFf.out _ (by have := HLB.out; have := HBx.out.size; omega) (HS.out _ HBx.out)).mono ?_
      rintro e w4 ⟨hne, hb4⟩
      have HB4 := belB HBx hb4
      have HX4 := belB HX3 hb4
      have HZ4 := Lib.hid (HZ2.out.below HX4.out HZ2.out.lt)
      clear hb4 HX3 HF3 f0 f1 f2 f3 f4 HBx
      obtain ⟨V, hV⟩ : ∃ V, formedV f (w0 :: r) = V := ⟨_, rfl⟩
      rw [hV] at hne
      have HST2 : Hid (lineF formsL (w0 :: r) = pickV V (lineF (formsL.drop (i + 1)) (w0 :: r))) := by show _ = _; rw [← hV]; exact HST.out
      clear HST hV
      match V, hne with
      | none, hne =>
        obtain rfl : e = .panicked wrongP := hne
        go_wp2
        exact ⟨rfl, by rw [HST2.out]; rfl, HB4.out⟩
      | some none, hne =>
        obtain rfl : e = .returned (.tuple #[.agg #[.int .u16 0, .int .u8 0, .int .u8 0, .int .u32 0], .bool false]) := hne
        have HX5 := Lib.hid (HX4.out.alloc HX4.out.size (.cells #[.int .u16 0, .int .u8 0, .int .u8 0, .int .u32 0] 25))
        go_wp2
        go_roundw
        case rel => exact ⟨i + 1, by omega, by go_num, HST2, HX5⟩
        case measure => simp [intOf]; omega
      | some (some (c, a, b, k)), hne =>
        obtain rfl : e = .returned (.tuple #[.agg #[.int .u16 (c : Int), .int .u8 (a : Int), .int .u8 (b : Int), .int .u32 (k : Int)], .bool true]) := hne
        have HZ5 := Lib.hid (HZ4.out.alloc (.cells #[.int .u16 (c : Int), .int .u8 (a : Int), .int .u8 (b : Int), .int .u32 (k : Int)] 25))
        have HB5 := Lib.hid (HB4.out.alloc HB4.out.size (.cells #[.int .u16 (c : Int), .int .u8 (a : Int), .int .u8 (b : Int), .int .u32 (k : Int)] 25))
        have HC5 := Lib.hid (Blk.new w4 25 #[.int .u16 (c : Int), .int .u8 (a : Int), .int .u8 (b : Int), .int .u32 (k : Int)])
        go_upto_region 9 with fail
        generalize w4.alloc (.cells #[.int .u16 (c : Int), .int .u8 (a : Int), .int .u8 (b : Int), .int .u32 (k : Int)] 25) = w5 at *
        generalize w4.heap.size = B5 at *
        have z0 := HZ5.out.frozen 0
        have z1 := HZ5.out.frozen 1
        have z2 := HZ5.out.frozen 2
        have z3 := HZ5.out.frozen 3
        have y0 := HZ5.out.cell 0
        have y1 := HZ5.out.cell 1
        have y2 := HZ5.out.cell 2
        have y3 := HZ5.out.cell 3
        have x0 := HC5.out.cell 0
        have x1 := HC5.out.cell 1
        have x2 := HC5.out.cell 2
        have x3 := HC5.out.cell 3
        simp only [List.getElem?_toArray, List.getElem?_cons_zero, List.getElem?_cons_succ] at y0 y1 y2 y3 x0 x1 x2 x3
        go_wp2
        have bF := (((HZ5.out.set 0 (.int .u16 (c : Int))).set 1 (.int .u8 (a : Int))).set 2 (.int .u8 (b : Int))).set 3 (.int .u32 (k : Int))
        have e0 := bF.cell 0
        have e1 := bF.cell 1
        have e2 := bF.cell 2
        have e3 := bF.cell 3
        simp at e0 e1 e2 e3
        refine bodyPost_ret (v := .agg #[.int .u16 (c : Int), .int .u8 (a : Int), .int .u8 (b : Int), .int .u32 (k : Int)]) (by simp [results, Tryz.results17, go_sem, e0, e1, e2, e3]) rfl ⟨by rw [HST2.out]; rfl, ?_⟩
        exact (((HB5.out.setCell (p := ⟨w.heap.size, 0, none⟩) (Nat.le_refl _) _).setCell (p := ⟨w.heap.size, 1, none⟩) (Nat.le_refl _) _).setCell (p := ⟨w.heap.size, 2, none⟩) (Nat.le_refl _) _).setCell (p := ⟨w.heap.size, 3, none⟩) (Nat.le_refl _) _
    · obtain rfl : i = 41 := by omega
      have HX4 := Lib.hid (HB2.out.trans (HX.out.mono HB2.out.size))
      have HE : Hid (lineF formsL (w0 :: r) = none) := by show _ = _; rw [HNO.out]; rw [show formsL.drop 41 = [] from List.drop_eq_nil_of_le (by rw [formsL_len]; omega)]; rfl
      go_wp2
      exact ⟨rfl, by rw [HE.out]; rfl, HX4.out⟩
end Go.Proofs.YtokehnclakedeaaGreatDoor
