/- list.Line. -/
import Derived.Test.YtokehnclakedeaaGreatDoorListFn
import Derived.Deep.RegionHeld3
import Derived.Deep.Cut
import Derived.Deep.DeepCutAuto
import Derived.Deep.LoopGhost
import Derived.Deep.AppendLies
import Derived.Deep.RegionHeldLaw
import Derived.Shelf.Strings.OnBuilder
namespace Go.Proofs.YtokehnclakedeaaGreatDoor
open Go Go.Proofs Go.RowKit Go.Shelf

theorem extra156 : Builder.Extra Tryz.prog Tryz.lays156_ren where
  sizeBuilder := by kernel_rfl
  liesBuilder := by kernel_rfl
  t5 := Tryz.underlying5
  a5 := Tryz.isAgg5
  z5 := Tryz.sizeOf5
  v5 := Tryz.zeroValue5
  infoByte := by kernel_rfl
  cellsByte := by kernel_rfl
  sizeByte := by kernel_rfl
  neB5 := by decide
theorem sjoin_any (bk c : Nat) (xs : List ByteArray) (sep : ByteArray) (w : World) (hcells : ∀ (j : Nat) x, xs[j]? = some x → w.cell? ⟨bk, 0 + j, none⟩ = some (.string x)) (hbk : bk < w.heap.size) (hN : xs.length ≤ 140737488355328) (hcap : xs.length ≤ c)
    (hlen : (Lib.join (xs.map (·.data.toList)) sep.data.toList).length ≤ 140737488355328) :
    Calls Tryz.prog 27 #[.slice (some ⟨bk, 0, none⟩) xs.length c, .string sep] w fun e w' => e = .returned (.string ⟨(Lib.join (xs.map (·.data.toList)) sep.data.toList).toArray⟩) ∧ Below w.heap.size w w' :=
  Any.strings_Join Tryz.lays156 extra156 bk 0 c xs sep w hcells hbk hN hcap hlen
theorem infoStr : (Tryz.prog.info? 9).map (fun i => (i.zero, i.size, i.bytes)) = some (some (.string ⟨#[]⟩), 1, 16) := by kernel_rfl
theorem own_below {W W' : World} {B e size n : Nat} {v : Value} {xs : List Value} (h : W.ownsRow B e size v n xs) (hb : Below W.heap.size W W') : W'.ownsRow B e size v n xs := by
  refine ⟨h.1, ?_⟩
  rcases h.2 with h0 | ⟨g, cap, cur, hv, hB, hg, rest⟩
  · exact .inl h0
  · exact .inr ⟨g, cap, cur, hv, hB, (hb.block g (Array.getElem?_eq_some_iff.1 hg).1).trans hg, rest⟩
theorem own_new {w : World} {B n : Nat} {t : TypeId} (xs : List Value) (hn : xs.length = n) (hB : B ≤ w.heap.size) (hlen : n ≤ 1000) : (w.alloc (.cells xs.toArray t)).ownsRow B t 1 (.slice (some ⟨w.heap.size, 0, none⟩) n n) n xs := by
  subst hn
  exact ⟨by simp, .inr ⟨w.heap.size, xs.length, xs.toArray, rfl, hB, World.alloc_heap_new w _, Nat.le_refl _, by unfold maxLen; omega, by simp, by simp⟩⟩
theorem own_facts {w : World} {B t n g c s : Nat} {xs : List Value} (h : w.ownsRow B t s (.slice (some ⟨g, 0, none⟩) n c) n xs) : g < w.heap.size ∧ n ≤ c := by
  rcases h.2 with ⟨h, _⟩ | ⟨_, _, _, h, _, hg, hc, _⟩
  · cases h
  · cases h
    exact ⟨(Array.getElem?_eq_some_iff.1 hg).1, hc⟩
theorem blkH {W W' : World} {B : Nat} {t : TypeId} {cs : Array Value} (h : Hid (Blk W B t cs)) (hb : Below W.heap.size W W') : Hid (Blk W' B t cs) := h.out.below hb h.out.lt
theorem belB {a W W' : World} (h : Hid (Below a.heap.size a W)) (hb : Below W.heap.size W W') : Hid (Below a.heap.size a W') := h.out.trans (hb.mono h.out.size)
/-- An append to a row of the call's own, as a step. -/
theorem wp_append_at {P : Program} (w : World) {o : Oper} {a : Act} {K : Act → World → Prop} {Q : Exit → Act → World → Prop} (s x : Operand) (t : TypeId)
    (ho : o.op = .call { callee := .builtin .append, args := #[s, x], argTypes := #[t, t] })
    (base : Nat) (e : TypeId) (i : TypeInfo) (z : Value) (size bytes : Nat) (ht : P.underlying t = some (.slice e)) (hi : P.info? e = some i) (hz : i.zero = some z)
    (hsize : i.size = size) (hby : i.bytes = bytes) (hzs : z.cells.size = size) (hsz : 0 < size)
    (v : Value) (n : Nat) (xs : List Value) (hs : a.eval s = v) (hown : w.ownsRow base e size v n xs)
    (ad : Addr) (m c : Nat) (news : List Value) (hx : a.eval x = .slice (some ad) m c) (hl : news.length = m * size) (hnews : ∀ j u, news[j]? = some u → w.cell? (ad.add j) = some u) (h1 : ∀ u ∈ news, u.oneCell' = true)
    (h63 : n + m ≤ maxLen) (hbytes : (n + m) * bytes ≤ 140737488355328) (hbase : base ≤ w.heap.size)
    (h : ∀ v' w', w'.ownsRow base e size v' (n + m) (xs ++ news) → w.grownBy w' v.ownBlock → K (a.put o.dst v') w') : Oper.wp P o a w K Q := by
  obtain ⟨v', w', hr, h2, h3, _, _⟩ := run_append_own (P := P) w base t o.type e i z size bytes ht hi hz hsize hby hzs hsz v n xs hown ad m c news hl hnews h1 h63 hbytes hbase
  unfold Oper.wp execOp
  simp only [ho, resolve, invoke, builtin, Sem.run_bind, Sem.run_pure, Result.andThen_ok, List.map_toArray, List.map_cons, List.map_nil, hs, hx, hr]
  exact h v' w' h2 h3
/-- Does a form tell an instruction? -/
def okF (c jt jf k : Nat) (f : Frm) : Bool := f.code == c && (numberedF f.other || k == 0) && (f.jumps || (jt == 0 && jf == 0))
def w1 (f : Frm) (k : Nat) : List ByteArray := if f.other = ⟨#[]⟩ then [f.word] else [f.word, writtenF f.other (decS k)]
def formWs (f : Frm) (jt jf k : Nat) : List ByteArray := if f.jumps then w1 f k ++ [decS jt, decS jf] else w1 f k
def rawWs (c jt jf k : Nat) : List ByteArray := [⟨#[46, 99, 111, 100, 101]⟩, decS c, decS jt, decS jf, decS k]
def lineWs (c jt jf k : Nat) : List ByteArray := match formsL.find? (okF c jt jf k) with | some f => formWs f jt jf k | none => rawWs c jt jf k
def joinB (ws : List ByteArray) : ByteArray := ⟨(Lib.join (ws.map (·.data.toList)) [32]).toArray⟩
def lineS (c jt jf k : Nat) : ByteArray := joinB (lineWs c jt jf k)
theorem find_first {p : Frm → Bool} {l : List Frm} {i : Nat} {f : Frm} (hf : l[i]? = some f) (hp : p f = true) (hno : ∀ j, j < i → ∀ g, l[j]? = some g → p g = false) : l.find? p = some f := by
  induction l generalizing i with
  | nil => simp at hf
  | cons a l ih =>
    cases i with
    | zero =>
      simp at hf
      subst hf
      simp [hp]
    | succ i =>
      have h0 := hno 0 (by omega) a rfl
      rw [List.find?_cons, h0]
      exact ih (by simpa using hf) (fun j hj g hg => hno (j + 1) (by omega) g (by simpa using hg))
theorem find_none {p : Frm → Bool} {l : List Frm} (hno : ∀ j, j < l.length → ∀ g, l[j]? = some g → p g = false) : l.find? p = none := by
  rw [List.find?_eq_none]
  intro x hx
  obtain ⟨j, hj, rfl⟩ := List.mem_iff_getElem.1 hx
  simp [hno j hj _ (List.getElem?_eq_getElem hj)]
theorem formsL_len : formsL.length = 41 := by decide +kernel
theorem forms_ok : ∀ f ∈ formsL, f.other.size ≤ 3 ∧ (∀ b ∈ f.other.data.toList, b.toNat < 128) ∧ f.word.size ≤ 4 := by decide +kernel
theorem written_size (o k : ByteArray) (ho : o.size ≤ 3) (hk : k.size ≤ 20) : (writtenF o k).size ≤ 23 := by
  unfold writtenF
  have h1 : (⟨#[91]⟩ : ByteArray).size = 1 := rfl
  have h2 : (⟨#[93]⟩ : ByteArray).size = 1 := rfl
  have h3 : (⟨#[109, 91]⟩ : ByteArray).size = 2 := rfl
  have h4 : (⟨#[35]⟩ : ByteArray).size = 1 := rfl
  repeat' split
  all_goals (first | (simp only [ByteArray.size_append, h1, h2, h3, h4]; omega) | omega)
theorem join_bound : ∀ (ws : List ByteArray), (∀ x ∈ ws, x.size ≤ 23) → (Lib.join (ws.map (·.data.toList)) [32]).length ≤ 24 * ws.length
  | [], _ => by simp [Lib.join]
  | [x], h => by
    have := h x (by simp)
    have e : x.data.toList.length = x.size := Array.length_toList
    simp [Lib.join]
    omega
  | x :: y :: r, h => by
    have hx := h x (by simp)
    have e : x.data.toList.length = x.size := Array.length_toList
    have ih := join_bound (y :: r) (fun z hz => h z (by simp at hz ⊢; exact .inr hz))
    have e2 : Lib.join ((x :: y :: r).map (·.data.toList)) [32] = x.data.toList ++ 32 :: Lib.join ((y :: r).map (·.data.toList)) [32] := by simp [Lib.join]
    rw [e2, List.length_append, List.length_cons]
    simp only [List.length_cons] at ih ⊢
    omega
/-- strings.Join of words in a row of the call's own. -/
theorem join_own (B n g c : Nat) (ws : List ByteArray) (w : World) (h : w.ownsRow B 9 1 (.slice (some ⟨g, 0, none⟩) n c) n (ws.map Value.string)) (hn : n = ws.length) (hs : ∀ x ∈ ws, x.size ≤ 23) (hl : ws.length ≤ 10) :
    Calls Tryz.prog 27 #[.slice (some ⟨g, 0, none⟩) n c, .string ⟨#[32]⟩] w fun e w' => e = .returned (.string (joinB ws)) ∧ Below w.heap.size w w' := by
  obtain ⟨hg, hc⟩ := own_facts h
  subst hn
  have hb := join_bound ws hs
  exact sjoin_any g c ws ⟨#[32]⟩ w (fun j x hx => by
    have hj := (List.getElem?_eq_some_iff.1 hx).1
    rw [Nat.zero_add, h.cellAt j (by omega), List.getElem?_map, hx]
    rfl) hg (by omega) hc (Nat.le_trans hb (by omega))

set_option maxRecDepth 100000 in
set_option maxHeartbeats 8000000 in
theorem line3_any (c jt jf k : Nat) (hc : c < 65536) (hjt : jt < 256) (hjf : jf < 256) (hk : k < 4294967296) (w : World) (hT : AscT w) (hp : Pow10 w) :
    Calls Tryz.prog 12 #[.agg #[.int .u16 (c : Int), .int .u8 (jt : Int), .int .u8 (jf : Int), .int .u32 (k : Int)]] w fun e w' => e = .returned (.string (lineS c jt jf k)) ∧ Below w.heap.size w w' := by
  have hA := Blk.new w 25 #[.int .u16 (c : Int), .int .u8 (jt : Int), .int .u8 (jf : Int), .int .u32 (k : Int)]
  have hb := (Below.refl w.heap.size w).alloc (Nat.le_refl _) (.cells #[.int .u16 (c : Int), .int .u8 (jt : Int), .int .u8 (jf : Int), .int .u32 (k : Int)] 25)
  have Hfo := Lib.hid (forms_any _ (hT.below hb))
  have HA := Lib.hid hA
  have HB := Lib.hid hb
  have HP := Lib.hid hp
  have Hd := Lib.hid (fun (u : Nat) (hu : u < 4294967296) W hW => decimal3_any u hu W hW)
  have HK := Lib.hid hk
  have HC := Lib.hid hc
  have HJT := Lib.hid hjt
  have HJF := Lib.hid hjf
  have wjt : IntKind.u32.wrap (jt : Int) = (jt : Int) := by rw [IntKind.wrap_u32]; omega
  have wjf : IntKind.u32.wrap (jf : Int) = (jf : Int) := by rw [IntKind.wrap_u32]; omega
  have wcw : IntKind.u32.wrap (c : Int) = (c : Int) := by rw [IntKind.wrap_u32]; omega
  clear hA hb hT hp hk hc hjt hjf
  go_enter Tryz.func12, Tryz.ntmps12
  go_wp2_with fail
  refine Hfo.out.mono ?_
  rintro e w2 ⟨v, rfl, hown, hb2⟩
  obtain ⟨g, cap, rfl⟩ := ownsRow_succ hown
  have HA2 := blkH HA hb2
  have HB2 := belB HB hb2
  have HO2 := Lib.hid hown
  clear hown hb2 HA HB Hfo
  go_upto_region 2 with fail
  go_loopw [8] (fun s8 wr => ∃ i : Nat, i ≤ 41 ∧ s8 = .int .i64 i ∧ Hid (∀ j, j < i → ∀ f, formsL[j]? = some f → okF c jt jf k f = false) ∧ Hid (Below w2.heap.size w2 wr)) (fun s8 _ => 41 - (intOf s8).toNat)
  case atStart => exact ⟨0, Nat.zero_le _, rfl, (show Hid _ from fun j hj => absurd hj (Nat.not_lt_zero _)), (show Hid _ from Below.refl _ _)⟩
  case round =>
    obtain ⟨i, hi, rfl, HNO, HX⟩ := hrel
    by_cases hlt : i < 41
    · have iz : (i : Int) < 41 := by omega
      have iz0 : (0 : Int) ≤ (i : Int) := by omega
      obtain ⟨f, hf⟩ : ∃ f, formsL[i]? = some f := ⟨_, List.getElem?_eq_getElem (by rw [formsL_len]; exact hlt)⟩
      obtain ⟨ho3, hoa, hw4⟩ := forms_ok f (List.mem_of_getElem? hf)
      have hrow := own_below HO2.out HX.out
      have q0 := (hrow.cellAt (i * 5 + 0) (by omega)).trans (flatF_at formsL i f hf 0 (by omega))
      have q1 := (hrow.cellAt (i * 5 + 1) (by omega)).trans (flatF_at formsL i f hf 1 (by omega))
      have q2 := (hrow.cellAt (i * 5 + 2) (by omega)).trans (flatF_at formsL i f hf 2 (by omega))
      have q3 := (hrow.cellAt (i * 5 + 3) (by omega)).trans (flatF_at formsL i f hf 3 (by omega))
      have q4 := (hrow.cellAt (i * 5 + 4) (by omega)).trans (flatF_at formsL i f hf 4 (by omega))
      simp only [frmCells, List.getElem?_cons_zero, List.getElem?_cons_succ, Nat.add_zero] at q0 q1 q2 q3 q4
      have HNX : Hid (okF c jt jf k f = false → ∀ j, j < i + 1 → ∀ f, formsL[j]? = some f → okF c jt jf k f = false) := by
        show _ → _
        intro h j hj f' hf'
        by_cases e : j = i
        · subst e
          rw [hf] at hf'
          cases hf'
          exact h
        · exact HNO.out j (by omega) f' hf'
      have HFI : Hid (okF c jt jf k f = true → lineWs c jt jf k = formWs f jt jf k) := by
        show _ → _
        intro h
        unfold lineWs
        rw [find_first hf h HNO.out]
      obtain ⟨fw, fo, fc, fx, fj⟩ := f
      dsimp only at ho3 hoa hw4 q0 q1 q2 q3 q4
      have Hnu := Lib.hid (fun W => numbered_any fw fo (fc : Int) fx fj (by omega) hoa W)
      have Hwr := Lib.hid (fun W => written_any fw fo (decS k) (fc : Int) fx fj (Nat.le_trans (decS_le k HK.out) (by decide)) W)
      have HSZ := Lib.hid ho3
      have HW4 := Lib.hid hw4
      have HAr := Lib.hid (HA2.out.below HX.out HA2.out.lt)
      have HA3 := Lib.hid (HAr.out.alloc (.cells #[.string fw, .string fo, .int .u16 (fc : Int), .bool fx, .bool fj] 62))
      have HF3 := Lib.hid (Blk.new wr 62 #[.string fw, .string fo, .int .u16 (fc : Int), .bool fx, .bool fj])
      have HX3 := Lib.hid (HX.out.alloc HX.out.size (.cells #[.string fw, .string fo, .int .u16 (fc : Int), .bool fx, .bool fj] 62))
      clear hrow hf ho3 hoa hw4 HNO HX HAr
      go_upto_region 4 with fail
      clear q0 q1 q2 q3 q4
      generalize wr.alloc (.cells #[.string fw, .string fo, .int .u16 (fc : Int), .bool fx, .bool fj] 62) = W3 at *
      generalize wr.heap.size = FB at *
      have c0 := HA3.out.cell 0
      have c1 := HA3.out.cell 1
      have c2 := HA3.out.cell 2
      have c3 := HA3.out.cell 3
      have f0 := HF3.out.cell 0
      have f1 := HF3.out.cell 1
      have f2 := HF3.out.cell 2
      have f3 := HF3.out.cell 3
      have f4 := HF3.out.cell 4
      simp only [List.getElem?_toArray, List.getElem?_cons_zero, List.getElem?_cons_succ] at c0 c1 c2 c3 f0 f1 f2 f3 f4
      go_cut [41] (fun s41 wx => s41 = .bool (!(okF c jt jf k ⟨fw, fo, fc, fx, fj⟩)) ∧ Hid (Below w2.heap.size w2 wx) ∧ Hid (Blk wx FB 62 #[.string fw, .string fo, .int .u16 (fc : Int), .bool fx, .bool fj]) ∧ Hid (Blk wx w.heap.size 25 #[.int .u16 (c : Int), .int .u8 (jt : Int), .int .u8 (jf : Int), .int .u32 (k : Int)]))
      case first =>
        by_cases hcc : fc = c
        case neg =>
          have hz1 : ¬ (fc : Int) = (c : Int) := by omega
          have hz2 : ((fc : Int) != (c : Int)) = true := by simpa using hz1
          have hok : okF c jt jf k ⟨fw, fo, fc, fx, fj⟩ = false := by unfold okF; simp [hcc]
          have HOK := Lib.hid hok
          clear hcc hok HNX HFI
          go_wp2
          go_meet
          exact ⟨by rw [HOK.out]; rfl, HX3, HF3, HA3⟩
        subst hcc
        obtain ⟨nb, hnb⟩ : ∃ nb, numberedF fo = nb := ⟨_, rfl⟩
        rw [hnb] at Hnu
        have hok : okF fc jt jf k ⟨fw, fo, fc, fx, fj⟩ = ((nb || k == 0) && (fj || (jt == 0 && jf == 0))) := by unfold okF; simp [hnb]
        have HOK := Lib.hid hok
        clear hok hnb HNX HFI
        go_wp2_with fail
        refine (Hnu.out _).mono ?_
        rintro e W4 ⟨rfl, hb4⟩
        have HA4 := blkH HA3 hb4
        have HF4 := blkH HF3 hb4
        have HX4 := belB HX3 hb4
        clear hb4 HA3 HF3 HX3 Hnu c0 c1 c2 c3 f0 f1 f2 f3 f4
        have c0 := HA4.out.cell 0
        have c1 := HA4.out.cell 1
        have c2 := HA4.out.cell 2
        have c3 := HA4.out.cell 3
        have f0 := HF4.out.cell 0
        have f1 := HF4.out.cell 1
        have f2 := HF4.out.cell 2
        have f3 := HF4.out.cell 3
        have f4 := HF4.out.cell 4
        simp only [List.getElem?_toArray, List.getElem?_cons_zero, List.getElem?_cons_succ] at c0 c1 c2 c3 f0 f1 f2 f3 f4
        have kz : (Hid (k = 0) ∧ ((k : Int) != 0) = false) ∨ (Hid (¬ k = 0) ∧ ((k : Int) != 0) = true) := by
          by_cases h : k = 0
          · exact .inl ⟨h, by rw [h]; rfl⟩
          · exact .inr ⟨h, by simpa using h⟩
        have jz : (Hid (jt = 0) ∧ ((jt : Int) != 0) = false) ∨ (Hid (¬ jt = 0) ∧ ((jt : Int) != 0) = true) := by
          by_cases h : jt = 0
          · exact .inl ⟨h, by rw [h]; rfl⟩
          · exact .inr ⟨h, by simpa using h⟩
        have lz : (Hid (jf = 0) ∧ ((jf : Int) != 0) = false) ∨ (Hid (¬ jf = 0) ∧ ((jf : Int) != 0) = true) := by
          by_cases h : jf = 0
          · exact .inl ⟨h, by rw [h]; rfl⟩
          · exact .inr ⟨h, by simpa using h⟩
        rcases kz with ⟨k1, k3⟩ | ⟨k1, k3⟩
        all_goals rcases jz with ⟨j1, j3⟩ | ⟨j1, j3⟩
        all_goals rcases lz with ⟨l1, l3⟩ | ⟨l1, l3⟩
        all_goals cases nb
        all_goals cases fj
        all_goals
          go_wp2
          go_meet
          exact ⟨by rw [HOK.out]; simp [k1.out, j1.out, l1.out], HX4, HF4, HA4⟩
      case rest =>
        obtain ⟨rfl, HX4, HF4, HA4⟩ := hcut
        clear HA3 HF3 HX3 Hnu c0 c1 c2 c3 f0 f1 f2 f3 f4
        cases hok : okF c jt jf k ⟨fw, fo, fc, fx, fj⟩ with
        | false =>
          have HNX2 := Lib.hid (HNX.out hok)
          clear HNX HFI hok
          go_wp2
          go_roundw
          case rel => exact ⟨i + 1, by omega, by go_num, HNX2, HX4⟩
          case measure => simp [intOf]; omega
        | true =>
          have HLW := Lib.hid (HFI.out hok)
          obtain rfl : fc = c := by unfold okF at hok; simp at hok; exact hok.1.1
          clear HNX HFI hok
          have c0 := HA4.out.cell 0
          have c1 := HA4.out.cell 1
          have c2 := HA4.out.cell 2
          have c3 := HA4.out.cell 3
          have f0 := HF4.out.cell 0
          have f1 := HF4.out.cell 1
          have f2 := HF4.out.cell 2
          have f3 := HF4.out.cell 3
          have f4 := HF4.out.cell 4
          simp only [List.getElem?_toArray, List.getElem?_cons_zero, List.getElem?_cons_succ] at c0 c1 c2 c3 f0 f1 f2 f3 f4
          go_upto_region 6 with fail
          clear c0 c1 c2 c3 f0 f1 f2 f3 f4
          generalize wc = wp at *
          have hO5 : ((wp.alloc (.cells #[.string fw] 9)).ownsRow wp.heap.size 9 1 (.slice (some ⟨wp.heap.size, 0, none⟩) 1 1) 1 [.string fw]) := own_new (n := 1) [.string fw] rfl (Nat.le_refl _) (by decide)
          have HO5 := Lib.hid hO5
          have HA5 := Lib.hid (HA4.out.alloc (.cells #[.string fw] 9))
          have HF5 := Lib.hid (HF4.out.alloc (.cells #[.string fw] 9))
          have HZ5 := Lib.hid ((Below.refl wp.heap.size wp).alloc (Nat.le_refl _) (.cells #[.string fw] 9))
          have HBw : Hid (∀ W, Below wp.heap.size wp W → Below w.heap.size w W) := fun W hW => HB2.out.trans ((HX4.out.trans (hW.mono HX4.out.size)).mono HB2.out.size)
          have HCA : Hid (∀ W, Below wp.heap.size wp W → Blk W w.heap.size 25 #[.int .u16 (fc : Int), .int .u8 (jt : Int), .int .u8 (jf : Int), .int .u32 (k : Int)]) := fun W hW => HA4.out.below hW HA4.out.lt
          have HCF : Hid (∀ W, Below wp.heap.size wp W → Blk W FB 62 #[.string fw, .string fo, .int .u16 (fc : Int), .bool fx, .bool fj]) := fun W hW => HF4.out.below hW HF4.out.lt
          clear hO5 HX4 HF4 HA4
          generalize wp.alloc (.cells #[.string fw] 9) = W5 at *
          have c0 := HA5.out.cell 0
          have c1 := HA5.out.cell 1
          have c2 := HA5.out.cell 2
          have c3 := HA5.out.cell 3
          have f0 := HF5.out.cell 0
          have f1 := HF5.out.cell 1
          have f2 := HF5.out.cell 2
          have f3 := HF5.out.cell 3
          have f4 := HF5.out.cell 4
          simp only [List.getElem?_toArray, List.getElem?_cons_zero, List.getElem?_cons_succ] at c0 c1 c2 c3 f0 f1 f2 f3 f4
          obtain ⟨i0, hi0, hz0, hz1, hz2⟩ := info_parts infoStr
          have c0 := HA5.out.cell 0
          have c1 := HA5.out.cell 1
          have c2 := HA5.out.cell 2
          have c3 := HA5.out.cell 3
          have f0 := HF5.out.cell 0
          have f1 := HF5.out.cell 1
          have f2 := HF5.out.cell 2
          have f3 := HF5.out.cell 3
          have f4 := HF5.out.cell 4
          simp only [List.getElem?_toArray, List.getElem?_cons_zero, List.getElem?_cons_succ] at c0 c1 c2 c3 f0 f1 f2 f3 f4
          go_upto_if 47 with fail
          clear c0 c1 c2 c3 f0 f1 f2 f3 f4 HA5 HF5
          go_cut [5] (fun s5 wx => ∃ n : Nat, n ≤ 2 ∧ Hid (n = (w1 ⟨fw, fo, fc, fx, fj⟩ k).length) ∧ Hid (wx.ownsRow wp.heap.size 9 1 s5 n ((w1 ⟨fw, fo, fc, fx, fj⟩ k).map Value.string)) ∧ Hid (Below wp.heap.size wp wx))
          case first =>
            by_cases he : fo = ⟨#[]⟩
            · have hw1 : Hid (w1 ⟨fw, fo, fc, fx, fj⟩ k = [fw]) := by show w1 _ _ = _; unfold w1; rw [if_pos he]
              have r1 : fo.toList.isEmpty = true := by rw [he]; decide +kernel
              clear he
              simp only [r1, Bool.not_true]
              go_wp2_with fail
              go_meet
              exact ⟨1, by decide, by show 1 = _; rw [hw1.out]; rfl, by show World.ownsRow _ _ _ _ _ _ _; rw [hw1.out]; exact HO5.out, HZ5⟩
            · have hw1 : Hid (w1 ⟨fw, fo, fc, fx, fj⟩ k = [fw, writtenF fo (decS k)]) := by show w1 _ _ = _; unfold w1; rw [if_neg he]
              have n0 : (fo.toList == []) = false := by rw [beq_eq_false_iff_ne]; intro e; exact he (bytes_eqT (e.trans (by decide +kernel)))
              have m0 : ¬ fo.toList = [] := by simpa using n0
              have p0 : (!fo.toList.isEmpty) = true := by cases h : fo.toList with | nil => exact absurd h m0 | cons a b => rfl
              have r0 : fo.toList.isEmpty = false := by cases h : fo.toList with | nil => exact absurd h m0 | cons a b => rfl
              have SOK : Hid (∀ w', Below wp.heap.size wp w' → (w'.cell? ⟨w.heap.size, 3, none⟩ = some (.int .u32 (k : Int)) ∧ w'.cell? ⟨FB, 0, none⟩ = some (.string fw) ∧ w'.cell? ⟨FB, 1, none⟩ = some (.string fo) ∧ w'.cell? ⟨FB, 2, none⟩ = some (.int .u16 (fc : Int)) ∧ w'.cell? ⟨FB, 3, none⟩ = some (.bool fx) ∧ w'.cell? ⟨FB, 4, none⟩ = some (.bool fj))) := fun w' h => ⟨(HCA.out w' h).cell 3, (HCF.out w' h).cell 0, (HCF.out w' h).cell 1, (HCF.out w' h).cell 2, (HCF.out w' h).cell 3, (HCF.out w' h).cell 4⟩
              have hi := hi0
              clear he n0 m0 p0
              simp only [r0, Bool.not_false]
              go_upto_region 7 with fail
              refine wp_region_noPanic ?_
              refine wp_region_held_drew (S := fun w' => w'.cell? ⟨w.heap.size, 3, none⟩ = some (.int .u32 (k : Int)) ∧ w'.cell? ⟨FB, 0, none⟩ = some (.string fw) ∧ w'.cell? ⟨FB, 1, none⟩ = some (.string fo) ∧ w'.cell? ⟨FB, 2, none⟩ = some (.int .u16 (fc : Int)) ∧ w'.cell? ⟨FB, 3, none⟩ = some (.bool fx) ∧ w'.cell? ⟨FB, 4, none⟩ = some (.bool fj)) (by kernel_rfl) (by first | exact SOK.out _ HZ5.out.drew) (fun hHeld => ?_)
              have hzz0 := Lib.hid HZ5.out.drew
              have hoz0 := Lib.hid HO5.out.drew
              clear HZ5 HO5
              generalize W5.drew = wz0 at *
              refine wpAnyH_take (i := 0) (oi := { dst := some 48, op := Op.move (Operand.tmp 5), type := 35, pos := "list.go:72", after := #[], guard := none }) (v := ?va0) rfl (by kernel_rfl) (by kernel_rfl) (by kernel_rfl) (fun _ _ _ h => h) (Or.inl ⟨by rfl, ?hya0⟩) (by assumption) ?resta0
              case hya0 =>
                intro w hSw
                try dsimp only at hSw
                try obtain ⟨hSw, hSw2⟩ := hSw
                try go_split_ands
                go_simp
                try with_reducible rfl
              try simp only [Act.put, List.setIfInBounds_toArray, List.set_cons_zero, List.set_cons_succ]
              refine wpAnyH_take (i := 1) (oi := { dst := some 49, op := Op.load 62 (Operand.tmp 4), type := 62, pos := "list.go:72", after := #[], guard := none }) (v := ?va1) rfl (by kernel_rfl) (by kernel_rfl) (by kernel_rfl) (fun _ _ _ h => h) (Or.inl ⟨by rfl, ?hya1⟩) (by assumption) ?resta1
              case hya1 =>
                intro w hSw
                try dsimp only at hSw
                try obtain ⟨hSw, hSw2⟩ := hSw
                try go_split_ands
                go_simp
                try with_reducible rfl
              try simp only [Act.put, List.setIfInBounds_toArray, List.set_cons_zero, List.set_cons_succ]
              refine wpAnyH_take (i := 2) (oi := { dst := some 50, op := Op.fieldAddr 25 (Operand.tmp 1) 3, type := 0, pos := "list.go:72", after := #[], guard := none }) (v := ?va2) rfl (by kernel_rfl) (by kernel_rfl) (by kernel_rfl) (fun _ _ _ h => h) (Or.inl ⟨by rfl, ?hya2⟩) (by assumption) ?resta2
              case hya2 =>
                intro w hSw
                try dsimp only at hSw
                try obtain ⟨hSw, hSw2⟩ := hSw
                try go_split_ands
                go_simp
                try with_reducible rfl
              try simp only [Act.put, List.setIfInBounds_toArray, List.set_cons_zero, List.set_cons_succ]
              refine wpAnyH_take (i := 3) (oi := { dst := some 51, op := Op.load 23 (Operand.tmp 50), type := 23, pos := "list.go:72", after := #[{ on := 2, ground := Ground.data }], guard := none }) (v := ?va3) rfl (by kernel_rfl) (by kernel_rfl) (by kernel_rfl) (fun _ _ _ h => h) (Or.inl ⟨by rfl, ?hya3⟩) (by assumption) ?resta3
              case hya3 =>
                intro w hSw
                try dsimp only at hSw
                try obtain ⟨hSw, hSw2⟩ := hSw
                try go_split_ands
                go_simp
                try with_reducible rfl
              try simp only [Act.put, List.setIfInBounds_toArray, List.set_cons_zero, List.set_cons_succ]
              refine wpAnyH_ready (rs := [4]) (by kernel_rfl) (by simp) ?_
              refine AllReadyH.cons (o := { dst := some 52, op := Op.call { callee := Callee.value (Operand.func 26), args := #[Operand.tmp 51], argTypes := #[23] }, type := 9, pos := "list.go:72", after := #[{ on := 3, ground := Ground.data }], guard := none }) rfl (fun K' hK => ?_) AllReadyH.nil
              go_simp
              refine (Hd.out k HK.out _ (HP.out.below (HBw.out _ hzz0.out))).mono ?_
              rintro e wz1 ⟨rfl, hbz⟩
              have hzz1 := Lib.hid (hzz0.out.trans (hbz.mono hzz0.out.size))
              have hoz1 := Lib.hid (own_below hoz0.out hbz)
              clear hHeld
              refine hK.out _ _ (SOK.out _ hzz1.out) (fun hHeld => ?_)
              clear hK K'
              try simp only [Act.put, List.setIfInBounds_toArray, List.set_cons_zero, List.set_cons_succ]
              clear hbz hzz0 hoz0
              refine wpAnyH_ready (rs := [5]) (by kernel_rfl) (by simp) ?_
              refine AllReadyH.cons (o := { dst := some 53, op := Op.call { callee := Callee.value (Operand.func 25), args := #[Operand.tmp 49, Operand.tmp 52], argTypes := #[62, 9] }, type := 9, pos := "list.go:72", after := #[{ on := 1, ground := Ground.data }, { on := 4, ground := Ground.data }, { on := 4, ground := Ground.chain }], guard := none }) rfl (fun K' hK => ?_) AllReadyH.nil
              go_simp
              refine (Hwr.out _).mono ?_
              rintro e wz2 ⟨rfl, hbz⟩
              have hzz2 := Lib.hid (hzz1.out.trans (hbz.mono hzz1.out.size))
              have hoz2 := Lib.hid (own_below hoz1.out hbz)
              clear hHeld
              refine hK.out _ _ (SOK.out _ hzz2.out) (fun hHeld => ?_)
              clear hK K'
              try simp only [Act.put, List.setIfInBounds_toArray, List.set_cons_zero, List.set_cons_succ]
              clear hbz hzz1 hoz1
              refine wpAnyH_ready (rs := [6]) (by kernel_rfl) (by simp) ?_
              refine AllReadyH.cons (o := { dst := some 54, op := Op.buildSlice 35 1 #[(0, Operand.tmp 53)], type := 35, pos := "list.go:72", after := #[{ on := 5, ground := Ground.data }], guard := none }) rfl (fun K' hK => ?_) AllReadyH.nil
              have hzz3 := Lib.hid (hzz2.out.alloc hzz2.out.size (.cells #[.string (writtenF fo (decS k))] 9))
              have hoz3 := Lib.hid (hoz2.out.alloc (.cells #[.string (writtenF fo (decS k))] 9))
              go_simp
              clear hHeld
              refine hK.out _ _ (SOK.out _ hzz3.out) (fun hHeld => ?_)
              clear hK K'
              try simp only [Act.put, List.setIfInBounds_toArray, List.set_cons_zero, List.set_cons_succ]
              clear hzz2 hoz2
              refine wpAnyH_ready (rs := [7]) (by kernel_rfl) (by simp) ?_
              refine AllReadyH.cons (o := { dst := some 55, op := Op.call { callee := Callee.builtin Builtin.append, args := #[Operand.tmp 48, Operand.tmp 54], argTypes := #[35, 35] }, type := 35, pos := "list.go:72", after := #[{ on := 0, ground := Ground.data }, { on := 6, ground := Ground.data }, { on := 5, ground := Ground.chain }], guard := none }) rfl (fun K' hK => ?_) AllReadyH.nil
              refine wp_append_at _ (Operand.tmp 48) (Operand.tmp 54) 35 rfl wp.heap.size 9 i0 (.string ⟨#[]⟩) 1 16 Tryz.underlying35 hi hz0 hz1 hz2 rfl (by decide) _ 1 _ rfl hoz3.out ⟨wz2.heap.size, 0, none⟩ 1 1 [.string (writtenF fo (decS k))] rfl rfl (cells_newF _ _ _) (by simp [Value.oneCell']) (by unfold maxLen; omega) (by omega) hzz3.out.size ?_
              intro v' wz4 hown' hgrow
              have hzz4 := Lib.hid (hzz3.out.grown hgrow hzz3.out.size (fun k e => (hoz3.out.lt k e).1))
              have hoz4 := Lib.hid hown'
              clear hHeld
              refine hK.out _ _ (SOK.out _ hzz4.out) (fun hHeld => ?_)
              clear hK K'
              try simp only [Act.put, List.setIfInBounds_toArray, List.set_cons_zero, List.set_cons_succ]
              clear hown' hgrow hzz3 hoz3
              refine wpAnyH_take (i := 8) (oi := { dst := some 5, op := Op.assign (Operand.tmp 55), type := 35, pos := "list.go:72", after := #[{ on := 7, ground := Ground.data }, { on := 7, ground := Ground.chain }, { on := 0, ground := Ground.phase }, { on := 1, ground := Ground.phase }, { on := 2, ground := Ground.phase }, { on := 3, ground := Ground.phase }, { on := 4, ground := Ground.phase }, { on := 5, ground := Ground.phase }, { on := 6, ground := Ground.phase }, { on := 7, ground := Ground.phase }], guard := none }) (v := ?va8) rfl (by kernel_rfl) (by kernel_rfl) (by kernel_rfl) (fun _ _ _ h => h) (Or.inl ⟨by rfl, ?hya8⟩) (by assumption) ?resta8
              case hya8 =>
                intro w hSw
                try dsimp only at hSw
                try obtain ⟨hSw, hSw2⟩ := hSw
                try go_split_ands
                go_simp
                try with_reducible rfl
              try simp only [Act.put, List.setIfInBounds_toArray, List.set_cons_zero, List.set_cons_succ]
              refine wpAnyH_done (by kernel_rfl) ?_ _
              refine NoPanic.normal ?_
              go_wp2_with fail
              go_meet
              exact ⟨2, by decide, by show 2 = _; rw [hw1.out]; rfl, by show World.ownsRow _ _ _ _ _ _ _; rw [hw1.out]; exact hoz4.out, hzz4⟩
          case rest =>
            obtain ⟨n, hn2, HN, HO6, HZ6⟩ := hcut
            clear HO5 HZ5
            have HA6 := Lib.hid (HCA.out _ HZ6.out)
            have HF6 := Lib.hid (HCF.out _ HZ6.out)
            have c0 := HA6.out.cell 0
            have c1 := HA6.out.cell 1
            have c2 := HA6.out.cell 2
            have c3 := HA6.out.cell 3
            have f0 := HF6.out.cell 0
            have f1 := HF6.out.cell 1
            have f2 := HF6.out.cell 2
            have f3 := HF6.out.cell 3
            have f4 := HF6.out.cell 4
            simp only [List.getElem?_toArray, List.getElem?_cons_zero, List.getElem?_cons_succ] at c0 c1 c2 c3 f0 f1 f2 f3 f4
            go_upto_if 57 with fail
            clear c0 c1 c2 c3 f0 f1 f2 f3 f4 HA6 HF6
            have SOK : Hid (∀ w', Below wp.heap.size wp w' → (w'.cell? ⟨w.heap.size, 1, none⟩ = some (.int .u8 (jt : Int)) ∧ w'.cell? ⟨w.heap.size, 2, none⟩ = some (.int .u8 (jf : Int)))) := fun w' h => ⟨(HCA.out w' h).cell 1, (HCA.out w' h).cell 2⟩
            go_cut [5] (fun s5 wx => ∃ m : Nat, 1 ≤ m ∧ m ≤ 4 ∧ Hid (m = (formWs ⟨fw, fo, fc, fx, fj⟩ jt jf k).length) ∧ Hid (wx.ownsRow wp.heap.size 9 1 s5 m ((formWs ⟨fw, fo, fc, fx, fj⟩ jt jf k).map Value.string)) ∧ Hid (Below wp.heap.size wp wx))
            case first =>
              have hn1 : Hid (1 ≤ n) := by show 1 ≤ n; rw [HN.out]; unfold w1; split <;> simp
              cases fj with
              | false =>
                have hf2 : Hid (formWs ⟨fw, fo, fc, fx, false⟩ jt jf k = w1 ⟨fw, fo, fc, fx, false⟩ k) := rfl
                go_wp2_with fail
                go_meet
                exact ⟨n, hn1.out, by omega, by show n = _; rw [hf2.out]; exact HN.out, by show World.ownsRow _ _ _ _ _ _ _; rw [hf2.out]; exact HO6.out, HZ6⟩
              | true =>
                have hf2 : Hid (formWs ⟨fw, fo, fc, fx, true⟩ jt jf k = w1 ⟨fw, fo, fc, fx, true⟩ k ++ [decS jt, decS jf]) := rfl
                have hi := hi0
                go_upto_region 9 with fail
                refine wp_region_noPanic ?_
                refine wp_region_held_drew (S := fun w' => w'.cell? ⟨w.heap.size, 1, none⟩ = some (.int .u8 (jt : Int)) ∧ w'.cell? ⟨w.heap.size, 2, none⟩ = some (.int .u8 (jf : Int))) (by kernel_rfl) (by first | exact SOK.out _ HZ6.out.drew) (fun hHeld => ?_)
                have hzz0 := Lib.hid HZ6.out.drew
                have hoz0 := Lib.hid HO6.out.drew
                clear HZ6 HO6
                generalize wc.drew = wz0 at *
                refine wpAnyH_take (i := 0) (oi := { dst := some 58, op := Op.move (Operand.tmp 5), type := 35, pos := "list.go:75", after := #[], guard := none }) (v := ?vb0) rfl (by kernel_rfl) (by kernel_rfl) (by kernel_rfl) (fun _ _ _ h => h) (Or.inl ⟨by rfl, ?hyb0⟩) (by assumption) ?restb0
                case hyb0 =>
                  intro w hSw
                  try dsimp only at hSw
                  try obtain ⟨hSw, hSw2⟩ := hSw
                  try go_split_ands
                  go_simp
                  try with_reducible rfl
                try simp only [Act.put, List.setIfInBounds_toArray, List.set_cons_zero, List.set_cons_succ]
                refine wpAnyH_take (i := 1) (oi := { dst := some 59, op := Op.fieldAddr 25 (Operand.tmp 1) 1, type := 0, pos := "list.go:75", after := #[], guard := none }) (v := ?vb1) rfl (by kernel_rfl) (by kernel_rfl) (by kernel_rfl) (fun _ _ _ h => h) (Or.inl ⟨by rfl, ?hyb1⟩) (by assumption) ?restb1
                case hyb1 =>
                  intro w hSw
                  try dsimp only at hSw
                  try obtain ⟨hSw, hSw2⟩ := hSw
                  try go_split_ands
                  go_simp
                  try with_reducible rfl
                try simp only [Act.put, List.setIfInBounds_toArray, List.set_cons_zero, List.set_cons_succ]
                refine wpAnyH_take (i := 2) (oi := { dst := some 60, op := Op.load 5 (Operand.tmp 59), type := 5, pos := "list.go:75", after := #[{ on := 1, ground := Ground.data }], guard := none }) (v := ?vb2) rfl (by kernel_rfl) (by kernel_rfl) (by kernel_rfl) (fun _ _ _ h => h) (Or.inl ⟨by rfl, ?hyb2⟩) (by assumption) ?restb2
                case hyb2 =>
                  intro w hSw
                  try dsimp only at hSw
                  try obtain ⟨hSw, hSw2⟩ := hSw
                  try go_split_ands
                  go_simp
                  try with_reducible rfl
                try simp only [Act.put, List.setIfInBounds_toArray, List.set_cons_zero, List.set_cons_succ]
                refine wpAnyH_take (i := 3) (oi := { dst := some 61, op := Op.convert 5 23 (Operand.tmp 60), type := 23, pos := "list.go:75", after := #[{ on := 2, ground := Ground.data }], guard := none }) (v := ?vb3) rfl (by kernel_rfl) (by kernel_rfl) (by kernel_rfl) (fun _ _ _ h => h) (Or.inl ⟨by rfl, ?hyb3⟩) (by assumption) ?restb3
                case hyb3 =>
                  intro w hSw
                  try dsimp only at hSw
                  try obtain ⟨hSw, hSw2⟩ := hSw
                  try go_split_ands
                  go_simp
                  try with_reducible rfl
                try simp only [Act.put, List.setIfInBounds_toArray, List.set_cons_zero, List.set_cons_succ]
                refine wpAnyH_take (i := 5) (oi := { dst := some 63, op := Op.fieldAddr 25 (Operand.tmp 1) 2, type := 0, pos := "list.go:75", after := #[], guard := none }) (v := ?vb5) rfl (by kernel_rfl) (by kernel_rfl) (by kernel_rfl) (fun _ _ _ h => h) (Or.inl ⟨by rfl, ?hyb5⟩) (by assumption) ?restb5
                case hyb5 =>
                  intro w hSw
                  try dsimp only at hSw
                  try obtain ⟨hSw, hSw2⟩ := hSw
                  try go_split_ands
                  go_simp
                  try with_reducible rfl
                try simp only [Act.put, List.setIfInBounds_toArray, List.set_cons_zero, List.set_cons_succ]
                refine wpAnyH_take (i := 6) (oi := { dst := some 64, op := Op.load 5 (Operand.tmp 63), type := 5, pos := "list.go:75", after := #[{ on := 5, ground := Ground.data }], guard := none }) (v := ?vb6) rfl (by kernel_rfl) (by kernel_rfl) (by kernel_rfl) (fun _ _ _ h => h) (Or.inl ⟨by rfl, ?hyb6⟩) (by assumption) ?restb6
                case hyb6 =>
                  intro w hSw
                  try dsimp only at hSw
                  try obtain ⟨hSw, hSw2⟩ := hSw
                  try go_split_ands
                  go_simp
                  try with_reducible rfl
                try simp only [Act.put, List.setIfInBounds_toArray, List.set_cons_zero, List.set_cons_succ]
                refine wpAnyH_take (i := 7) (oi := { dst := some 65, op := Op.convert 5 23 (Operand.tmp 64), type := 23, pos := "list.go:75", after := #[{ on := 6, ground := Ground.data }], guard := none }) (v := ?vb7) rfl (by kernel_rfl) (by kernel_rfl) (by kernel_rfl) (fun _ _ _ h => h) (Or.inl ⟨by rfl, ?hyb7⟩) (by assumption) ?restb7
                case hyb7 =>
                  intro w hSw
                  try dsimp only at hSw
                  try obtain ⟨hSw, hSw2⟩ := hSw
                  try go_split_ands
                  go_simp
                  try with_reducible rfl
                try simp only [Act.put, List.setIfInBounds_toArray, List.set_cons_zero, List.set_cons_succ]
                refine wpAnyH_ready (rs := [4]) (by kernel_rfl) (by simp) ?_
                refine AllReadyH.cons (o := { dst := some 62, op := Op.call { callee := Callee.value (Operand.func 26), args := #[Operand.tmp 61], argTypes := #[23] }, type := 9, pos := "list.go:75", after := #[{ on := 3, ground := Ground.data }], guard := none }) rfl (fun K' hK => ?_) AllReadyH.nil
                go_simp
                refine (Hd.out jt (Nat.lt_trans HJT.out (by decide)) _ (HP.out.below (HBw.out _ hzz0.out))).mono ?_
                rintro e wz1 ⟨rfl, hbz⟩
                have hzz1 := Lib.hid (hzz0.out.trans (hbz.mono hzz0.out.size))
                have hoz1 := Lib.hid (own_below hoz0.out hbz)
                clear hHeld
                refine hK.out _ _ (SOK.out _ hzz1.out) (fun hHeld => ?_)
                clear hK K'
                try simp only [Act.put, List.setIfInBounds_toArray, List.set_cons_zero, List.set_cons_succ]
                clear hbz hzz0 hoz0
                refine wpAnyH_ready (rs := [8]) (by kernel_rfl) (by simp) ?_
                refine AllReadyH.cons (o := { dst := some 66, op := Op.call { callee := Callee.value (Operand.func 26), args := #[Operand.tmp 65], argTypes := #[23] }, type := 9, pos := "list.go:75", after := #[{ on := 7, ground := Ground.data }, { on := 4, ground := Ground.chain }], guard := none }) rfl (fun K' hK => ?_) AllReadyH.nil
                go_simp
                refine (Hd.out jf (Nat.lt_trans HJF.out (by decide)) _ (HP.out.below (HBw.out _ hzz1.out))).mono ?_
                rintro e wz2 ⟨rfl, hbz⟩
                have hzz2 := Lib.hid (hzz1.out.trans (hbz.mono hzz1.out.size))
                have hoz2 := Lib.hid (own_below hoz1.out hbz)
                clear hHeld
                refine hK.out _ _ (SOK.out _ hzz2.out) (fun hHeld => ?_)
                clear hK K'
                try simp only [Act.put, List.setIfInBounds_toArray, List.set_cons_zero, List.set_cons_succ]
                clear hbz hzz1 hoz1
                refine wpAnyH_ready (rs := [9]) (by kernel_rfl) (by simp) ?_
                refine AllReadyH.cons (o := { dst := some 67, op := Op.buildSlice 35 2 #[(0, Operand.tmp 62), (1, Operand.tmp 66)], type := 35, pos := "list.go:75", after := #[{ on := 4, ground := Ground.data }, { on := 8, ground := Ground.data }], guard := none }) rfl (fun K' hK => ?_) AllReadyH.nil
                have hzz3 := Lib.hid (hzz2.out.alloc hzz2.out.size (.cells #[.string (decS jt), .string (decS jf)] 9))
                have hoz3 := Lib.hid (hoz2.out.alloc (.cells #[.string (decS jt), .string (decS jf)] 9))
                go_simp
                clear hHeld
                refine hK.out _ _ (SOK.out _ hzz3.out) (fun hHeld => ?_)
                clear hK K'
                try simp only [Act.put, List.setIfInBounds_toArray, List.set_cons_zero, List.set_cons_succ]
                clear hzz2 hoz2
                refine wpAnyH_ready (rs := [10]) (by kernel_rfl) (by simp) ?_
                refine AllReadyH.cons (o := { dst := some 68, op := Op.call { callee := Callee.builtin Builtin.append, args := #[Operand.tmp 58, Operand.tmp 67], argTypes := #[35, 35] }, type := 35, pos := "list.go:75", after := #[{ on := 0, ground := Ground.data }, { on := 9, ground := Ground.data }, { on := 8, ground := Ground.chain }], guard := none }) rfl (fun K' hK => ?_) AllReadyH.nil
                refine wp_append_at _ (Operand.tmp 58) (Operand.tmp 67) 35 rfl wp.heap.size 9 i0 (.string ⟨#[]⟩) 1 16 Tryz.underlying35 hi hz0 hz1 hz2 rfl (by decide) _ n _ rfl hoz3.out ⟨wz2.heap.size, 0, none⟩ 2 2 [.string (decS jt), .string (decS jf)] rfl rfl (cells_newF _ _ _) (by simp [Value.oneCell']) (by unfold maxLen; omega) (by omega) hzz3.out.size ?_
                intro v' wz4 hown' hgrow
                have hzz4 := Lib.hid (hzz3.out.grown hgrow hzz3.out.size (fun k e => (hoz3.out.lt k e).1))
                have hoz4 := Lib.hid hown'
                clear hHeld
                refine hK.out _ _ (SOK.out _ hzz4.out) (fun hHeld => ?_)
                clear hK K'
                try simp only [Act.put, List.setIfInBounds_toArray, List.set_cons_zero, List.set_cons_succ]
                clear hown' hgrow hzz3 hoz3
                refine wpAnyH_take (i := 11) (oi := { dst := some 5, op := Op.assign (Operand.tmp 68), type := 35, pos := "list.go:75", after := #[{ on := 10, ground := Ground.data }, { on := 10, ground := Ground.chain }, { on := 0, ground := Ground.phase }, { on := 1, ground := Ground.phase }, { on := 2, ground := Ground.phase }, { on := 3, ground := Ground.phase }, { on := 4, ground := Ground.phase }, { on := 5, ground := Ground.phase }, { on := 6, ground := Ground.phase }, { on := 7, ground := Ground.phase }, { on := 8, ground := Ground.phase }, { on := 9, ground := Ground.phase }, { on := 10, ground := Ground.phase }], guard := none }) (v := ?vb11) rfl (by kernel_rfl) (by kernel_rfl) (by kernel_rfl) (fun _ _ _ h => h) (Or.inl ⟨by rfl, ?hyb11⟩) (by assumption) ?restb11
                case hyb11 =>
                  intro w hSw
                  try dsimp only at hSw
                  try obtain ⟨hSw, hSw2⟩ := hSw
                  try go_split_ands
                  go_simp
                  try with_reducible rfl
                try simp only [Act.put, List.setIfInBounds_toArray, List.set_cons_zero, List.set_cons_succ]
                refine wpAnyH_done (by kernel_rfl) ?_ _
                refine NoPanic.normal ?_
                go_wp2_with fail
                go_meet
                exact ⟨n + 2, by omega, by omega, by show n + 2 = _; rw [hf2.out, List.length_append, ← HN.out]; rfl, by show World.ownsRow _ _ _ _ _ _ _; rw [hf2.out, List.map_append]; exact hoz4.out, hzz4⟩
            case rest =>
              obtain ⟨m, hm1, hm4, HM, HO8, HZ8⟩ := hcut
              obtain ⟨m', rfl⟩ : ∃ m', m = m' + 1 := ⟨m - 1, by omega⟩
              obtain ⟨g8, cap8, rfl⟩ := ownsRow_succ HO8.out
              have hsz : ∀ x ∈ formWs ⟨fw, fo, fc, fx, fj⟩ jt jf k, x.size ≤ 23 := by
                have h1 := decS_le jt (Nat.lt_trans HJT.out (by decide))
                have h2 := decS_le jf (Nat.lt_trans HJF.out (by decide))
                have h3 := decS_le k HK.out
                have h4 := written_size fo (decS k) HSZ.out h3
                have h5 := HW4.out
                intro x hx
                have hx : x = fw ∨ x = writtenF fo (decS k) ∨ x = decS jt ∨ x = decS jf := by
                  unfold formWs w1 at hx
                  split at hx <;> split at hx <;> simp at hx <;> first | (rcases hx with h | h | h | h <;> simp [h]) | (rcases hx with h | h | h <;> simp [h]) | (rcases hx with h | h <;> simp [h]) | simp [hx]
                rcases hx with rfl | rfl | rfl | rfl <;> omega
              have HJ := Lib.hid (join_own wp.heap.size (m' + 1) g8 cap8 _ _ HO8.out HM.out hsz (by rw [← HM.out]; omega))
              clear hsz
              go_wp2_with fail
              refine HJ.out.mono ?_
              rintro e wf ⟨rfl, hbf⟩
              go_wp2
              go_ret
              exact ⟨by unfold lineS; rw [HLW.out]; rfl, HBw.out _ (HZ8.out.trans (hbf.mono HZ8.out.size))⟩
    · obtain rfl : i = 41 := by omega
      have hrw : Hid (lineWs c jt jf k = rawWs c jt jf k) := by
        show _ = _
        unfold lineWs
        rw [find_none (p := okF c jt jf k) (fun j hj g hg => HNO.out j (by rw [formsL_len] at hj; exact hj) g hg)]
      have hrsz : ∀ x ∈ rawWs c jt jf k, x.size ≤ 23 := by
        have h1 := decS_le jt (Nat.lt_trans HJT.out (by decide))
        have h2 := decS_le jf (Nat.lt_trans HJF.out (by decide))
        have h3 := decS_le k HK.out
        have h4 := decS_le c (Nat.lt_trans HC.out (by decide))
        intro x hx
        simp only [rawWs, List.mem_cons, List.not_mem_nil, or_false] at hx
        rcases hx with rfl | rfl | rfl | rfl | rfl
        · decide
        all_goals omega
      have SOK : Hid (∀ w', Below w2.heap.size w2 w' → (w'.cell? ⟨w.heap.size, 0, none⟩ = some (.int .u16 (c : Int)) ∧ w'.cell? ⟨w.heap.size, 1, none⟩ = some (.int .u8 (jt : Int)) ∧ w'.cell? ⟨w.heap.size, 2, none⟩ = some (.int .u8 (jf : Int)) ∧ w'.cell? ⟨w.heap.size, 3, none⟩ = some (.int .u32 (k : Int)))) := fun w' h => ⟨(HA2.out.below h HA2.out.lt).cell 0, (HA2.out.below h HA2.out.lt).cell 1, (HA2.out.below h HA2.out.lt).cell 2, (HA2.out.below h HA2.out.lt).cell 3⟩
      have HBw : Hid (∀ W, Below w2.heap.size w2 W → Below w.heap.size w W) := fun W hW => HB2.out.trans (hW.mono HB2.out.size)
      clear HNO
      go_upto_region 12 with fail
      refine wp_region_noPanic ?_
      refine wp_region_held_drew (S := fun w' => w'.cell? ⟨w.heap.size, 0, none⟩ = some (.int .u16 (c : Int)) ∧ w'.cell? ⟨w.heap.size, 1, none⟩ = some (.int .u8 (jt : Int)) ∧ w'.cell? ⟨w.heap.size, 2, none⟩ = some (.int .u8 (jf : Int)) ∧ w'.cell? ⟨w.heap.size, 3, none⟩ = some (.int .u32 (k : Int))) (by kernel_rfl) (by first | exact SOK.out _ HX.out.drew) (fun hHeld => ?_)
      have hzz0 := Lib.hid HX.out.drew
      clear HX
      generalize wr.drew = wz0 at *
      refine wpAnyH_take (i := 0) (oi := { dst := some 72, op := Op.fieldAddr 25 (Operand.tmp 1) 0, type := 0, pos := "list.go:79", after := #[], guard := none }) (v := ?vc0) rfl (by kernel_rfl) (by kernel_rfl) (by kernel_rfl) (fun _ _ _ h => h) (Or.inl ⟨by rfl, ?hyc0⟩) (by assumption) ?restc0
      case hyc0 =>
        intro w hSw
        try dsimp only at hSw
        try obtain ⟨hSw, hSw2⟩ := hSw
        try go_split_ands
        go_simp
        try with_reducible rfl
      try simp only [Act.put, List.setIfInBounds_toArray, List.set_cons_zero, List.set_cons_succ]
      refine wpAnyH_take (i := 1) (oi := { dst := some 73, op := Op.load 22 (Operand.tmp 72), type := 22, pos := "list.go:79", after := #[{ on := 0, ground := Ground.data }], guard := none }) (v := ?vc1) rfl (by kernel_rfl) (by kernel_rfl) (by kernel_rfl) (fun _ _ _ h => h) (Or.inl ⟨by rfl, ?hyc1⟩) (by assumption) ?restc1
      case hyc1 =>
        intro w hSw
        try dsimp only at hSw
        try obtain ⟨hSw, hSw2⟩ := hSw
        try go_split_ands
        go_simp
        try with_reducible rfl
      try simp only [Act.put, List.setIfInBounds_toArray, List.set_cons_zero, List.set_cons_succ]
      refine wpAnyH_take (i := 2) (oi := { dst := some 74, op := Op.convert 22 23 (Operand.tmp 73), type := 23, pos := "list.go:79", after := #[{ on := 1, ground := Ground.data }], guard := none }) (v := ?vc2) rfl (by kernel_rfl) (by kernel_rfl) (by kernel_rfl) (fun _ _ _ h => h) (Or.inl ⟨by rfl, ?hyc2⟩) (by assumption) ?restc2
      case hyc2 =>
        intro w hSw
        try dsimp only at hSw
        try obtain ⟨hSw, hSw2⟩ := hSw
        try go_split_ands
        go_simp
        try with_reducible rfl
      try simp only [Act.put, List.setIfInBounds_toArray, List.set_cons_zero, List.set_cons_succ]
      refine wpAnyH_take (i := 4) (oi := { dst := some 76, op := Op.fieldAddr 25 (Operand.tmp 1) 1, type := 0, pos := "list.go:79", after := #[], guard := none }) (v := ?vc4) rfl (by kernel_rfl) (by kernel_rfl) (by kernel_rfl) (fun _ _ _ h => h) (Or.inl ⟨by rfl, ?hyc4⟩) (by assumption) ?restc4
      case hyc4 =>
        intro w hSw
        try dsimp only at hSw
        try obtain ⟨hSw, hSw2⟩ := hSw
        try go_split_ands
        go_simp
        try with_reducible rfl
      try simp only [Act.put, List.setIfInBounds_toArray, List.set_cons_zero, List.set_cons_succ]
      refine wpAnyH_take (i := 5) (oi := { dst := some 77, op := Op.load 5 (Operand.tmp 76), type := 5, pos := "list.go:79", after := #[{ on := 4, ground := Ground.data }], guard := none }) (v := ?vc5) rfl (by kernel_rfl) (by kernel_rfl) (by kernel_rfl) (fun _ _ _ h => h) (Or.inl ⟨by rfl, ?hyc5⟩) (by assumption) ?restc5
      case hyc5 =>
        intro w hSw
        try dsimp only at hSw
        try obtain ⟨hSw, hSw2⟩ := hSw
        try go_split_ands
        go_simp
        try with_reducible rfl
      try simp only [Act.put, List.setIfInBounds_toArray, List.set_cons_zero, List.set_cons_succ]
      refine wpAnyH_take (i := 6) (oi := { dst := some 78, op := Op.convert 5 23 (Operand.tmp 77), type := 23, pos := "list.go:79", after := #[{ on := 5, ground := Ground.data }], guard := none }) (v := ?vc6) rfl (by kernel_rfl) (by kernel_rfl) (by kernel_rfl) (fun _ _ _ h => h) (Or.inl ⟨by rfl, ?hyc6⟩) (by assumption) ?restc6
      case hyc6 =>
        intro w hSw
        try dsimp only at hSw
        try obtain ⟨hSw, hSw2⟩ := hSw
        try go_split_ands
        go_simp
        try with_reducible rfl
      try simp only [Act.put, List.setIfInBounds_toArray, List.set_cons_zero, List.set_cons_succ]
      refine wpAnyH_take (i := 8) (oi := { dst := some 80, op := Op.fieldAddr 25 (Operand.tmp 1) 2, type := 0, pos := "list.go:79", after := #[], guard := none }) (v := ?vc8) rfl (by kernel_rfl) (by kernel_rfl) (by kernel_rfl) (fun _ _ _ h => h) (Or.inl ⟨by rfl, ?hyc8⟩) (by assumption) ?restc8
      case hyc8 =>
        intro w hSw
        try dsimp only at hSw
        try obtain ⟨hSw, hSw2⟩ := hSw
        try go_split_ands
        go_simp
        try with_reducible rfl
      try simp only [Act.put, List.setIfInBounds_toArray, List.set_cons_zero, List.set_cons_succ]
      refine wpAnyH_take (i := 9) (oi := { dst := some 81, op := Op.load 5 (Operand.tmp 80), type := 5, pos := "list.go:79", after := #[{ on := 8, ground := Ground.data }], guard := none }) (v := ?vc9) rfl (by kernel_rfl) (by kernel_rfl) (by kernel_rfl) (fun _ _ _ h => h) (Or.inl ⟨by rfl, ?hyc9⟩) (by assumption) ?restc9
      case hyc9 =>
        intro w hSw
        try dsimp only at hSw
        try obtain ⟨hSw, hSw2⟩ := hSw
        try go_split_ands
        go_simp
        try with_reducible rfl
      try simp only [Act.put, List.setIfInBounds_toArray, List.set_cons_zero, List.set_cons_succ]
      refine wpAnyH_take (i := 10) (oi := { dst := some 82, op := Op.convert 5 23 (Operand.tmp 81), type := 23, pos := "list.go:79", after := #[{ on := 9, ground := Ground.data }], guard := none }) (v := ?vc10) rfl (by kernel_rfl) (by kernel_rfl) (by kernel_rfl) (fun _ _ _ h => h) (Or.inl ⟨by rfl, ?hyc10⟩) (by assumption) ?restc10
      case hyc10 =>
        intro w hSw
        try dsimp only at hSw
        try obtain ⟨hSw, hSw2⟩ := hSw
        try go_split_ands
        go_simp
        try with_reducible rfl
      try simp only [Act.put, List.setIfInBounds_toArray, List.set_cons_zero, List.set_cons_succ]
      refine wpAnyH_take (i := 12) (oi := { dst := some 84, op := Op.fieldAddr 25 (Operand.tmp 1) 3, type := 0, pos := "list.go:79", after := #[], guard := none }) (v := ?vc12) rfl (by kernel_rfl) (by kernel_rfl) (by kernel_rfl) (fun _ _ _ h => h) (Or.inl ⟨by rfl, ?hyc12⟩) (by assumption) ?restc12
      case hyc12 =>
        intro w hSw
        try dsimp only at hSw
        try obtain ⟨hSw, hSw2⟩ := hSw
        try go_split_ands
        go_simp
        try with_reducible rfl
      try simp only [Act.put, List.setIfInBounds_toArray, List.set_cons_zero, List.set_cons_succ]
      refine wpAnyH_take (i := 13) (oi := { dst := some 85, op := Op.load 23 (Operand.tmp 84), type := 23, pos := "list.go:79", after := #[{ on := 12, ground := Ground.data }], guard := none }) (v := ?vc13) rfl (by kernel_rfl) (by kernel_rfl) (by kernel_rfl) (fun _ _ _ h => h) (Or.inl ⟨by rfl, ?hyc13⟩) (by assumption) ?restc13
      case hyc13 =>
        intro w hSw
        try dsimp only at hSw
        try obtain ⟨hSw, hSw2⟩ := hSw
        try go_split_ands
        go_simp
        try with_reducible rfl
      try simp only [Act.put, List.setIfInBounds_toArray, List.set_cons_zero, List.set_cons_succ]
      refine wpAnyH_ready (rs := [3]) (by kernel_rfl) (by simp) ?_
      refine AllReadyH.cons (o := { dst := some 75, op := Op.call { callee := Callee.value (Operand.func 26), args := #[Operand.tmp 74], argTypes := #[23] }, type := 9, pos := "list.go:79", after := #[{ on := 2, ground := Ground.data }], guard := none }) rfl (fun K' hK => ?_) AllReadyH.nil
      go_simp
      refine (Hd.out c (Nat.lt_trans HC.out (by decide)) _ (HP.out.below (HBw.out _ hzz0.out))).mono ?_
      rintro e wz1 ⟨rfl, hbz⟩
      have hzz1 := Lib.hid (hzz0.out.trans (hbz.mono hzz0.out.size))
      clear hHeld
      refine hK.out _ _ (SOK.out _ hzz1.out) (fun hHeld => ?_)
      clear hK K'
      try simp only [Act.put, List.setIfInBounds_toArray, List.set_cons_zero, List.set_cons_succ]
      clear hbz hzz0
      refine wpAnyH_ready (rs := [7]) (by kernel_rfl) (by simp) ?_
      refine AllReadyH.cons (o := { dst := some 79, op := Op.call { callee := Callee.value (Operand.func 26), args := #[Operand.tmp 78], argTypes := #[23] }, type := 9, pos := "list.go:79", after := #[{ on := 6, ground := Ground.data }, { on := 3, ground := Ground.chain }], guard := none }) rfl (fun K' hK => ?_) AllReadyH.nil
      go_simp
      refine (Hd.out jt (Nat.lt_trans HJT.out (by decide)) _ (HP.out.below (HBw.out _ hzz1.out))).mono ?_
      rintro e wz2 ⟨rfl, hbz⟩
      have hzz2 := Lib.hid (hzz1.out.trans (hbz.mono hzz1.out.size))
      clear hHeld
      refine hK.out _ _ (SOK.out _ hzz2.out) (fun hHeld => ?_)
      clear hK K'
      try simp only [Act.put, List.setIfInBounds_toArray, List.set_cons_zero, List.set_cons_succ]
      clear hbz hzz1
      refine wpAnyH_ready (rs := [11]) (by kernel_rfl) (by simp) ?_
      refine AllReadyH.cons (o := { dst := some 83, op := Op.call { callee := Callee.value (Operand.func 26), args := #[Operand.tmp 82], argTypes := #[23] }, type := 9, pos := "list.go:79", after := #[{ on := 10, ground := Ground.data }, { on := 7, ground := Ground.chain }], guard := none }) rfl (fun K' hK => ?_) AllReadyH.nil
      go_simp
      refine (Hd.out jf (Nat.lt_trans HJF.out (by decide)) _ (HP.out.below (HBw.out _ hzz2.out))).mono ?_
      rintro e wz3 ⟨rfl, hbz⟩
      have hzz3 := Lib.hid (hzz2.out.trans (hbz.mono hzz2.out.size))
      clear hHeld
      refine hK.out _ _ (SOK.out _ hzz3.out) (fun hHeld => ?_)
      clear hK K'
      try simp only [Act.put, List.setIfInBounds_toArray, List.set_cons_zero, List.set_cons_succ]
      clear hbz hzz2
      refine wpAnyH_ready (rs := [14]) (by kernel_rfl) (by simp) ?_
      refine AllReadyH.cons (o := { dst := some 86, op := Op.call { callee := Callee.value (Operand.func 26), args := #[Operand.tmp 85], argTypes := #[23] }, type := 9, pos := "list.go:79", after := #[{ on := 13, ground := Ground.data }, { on := 11, ground := Ground.chain }], guard := none }) rfl (fun K' hK => ?_) AllReadyH.nil
      go_simp
      refine (Hd.out k HK.out _ (HP.out.below (HBw.out _ hzz3.out))).mono ?_
      rintro e wz4 ⟨rfl, hbz⟩
      have hzz4 := Lib.hid (hzz3.out.trans (hbz.mono hzz3.out.size))
      clear hHeld
      refine hK.out _ _ (SOK.out _ hzz4.out) (fun hHeld => ?_)
      clear hK K'
      try simp only [Act.put, List.setIfInBounds_toArray, List.set_cons_zero, List.set_cons_succ]
      clear hbz hzz3
      refine wpAnyH_ready (rs := [15]) (by kernel_rfl) (by simp) ?_
      refine AllReadyH.cons (o := { dst := some 87, op := Op.buildSlice 35 5 #[(0, Operand.const (Value.string { data := #[46, 99, 111, 100, 101] })), (1, Operand.tmp 75), (2, Operand.tmp 79), (3, Operand.tmp 83), (4, Operand.tmp 86)], type := 35, pos := "list.go:79", after := #[{ on := 3, ground := Ground.data }, { on := 7, ground := Ground.data }, { on := 11, ground := Ground.data }, { on := 14, ground := Ground.data }], guard := none }) rfl (fun K' hK => ?_) AllReadyH.nil
      have hzz5 := Lib.hid (hzz4.out.alloc hzz4.out.size (.cells #[.string ⟨#[46, 99, 111, 100, 101]⟩, .string (decS c), .string (decS jt), .string (decS jf), .string (decS k)] 9))
      have hown5 : ((wz4.alloc (.cells #[.string ⟨#[46, 99, 111, 100, 101]⟩, .string (decS c), .string (decS jt), .string (decS jf), .string (decS k)] 9)).ownsRow wz4.heap.size 9 1 (.slice (some ⟨wz4.heap.size, 0, none⟩) 5 5) 5 ((rawWs c jt jf k).map Value.string)) := own_new (n := 5) [.string ⟨#[46, 99, 111, 100, 101]⟩, .string (decS c), .string (decS jt), .string (decS jf), .string (decS k)] rfl (Nat.le_refl _) (by decide)
      have HJ := Lib.hid (join_own _ 5 _ 5 (rawWs c jt jf k) _ hown5 rfl hrsz (by show 5 ≤ 10; decide))
      clear hown5
      go_simp
      clear hHeld
      refine hK.out _ _ (SOK.out _ hzz5.out) (fun hHeld => ?_)
      clear hK K'
      try simp only [Act.put, List.setIfInBounds_toArray, List.set_cons_zero, List.set_cons_succ]
      clear hzz4
      refine wpAnyH_ready (rs := [16]) (by kernel_rfl) (by simp) ?_
      refine AllReadyH.cons (o := { dst := some 88, op := Op.call { callee := Callee.value (Operand.func 27), args := #[Operand.tmp 87, Operand.const (Value.string { data := #[32] })], argTypes := #[35, 9] }, type := 9, pos := "list.go:79", after := #[{ on := 15, ground := Ground.data }, { on := 14, ground := Ground.chain }], guard := none }) rfl (fun K' hK => ?_) AllReadyH.nil
      go_simp
      refine (HJ.out).mono ?_
      rintro e wz6 ⟨rfl, hbz⟩
      have hzz6 := Lib.hid (hzz5.out.trans (hbz.mono hzz5.out.size))
      clear hHeld
      refine hK.out _ _ (SOK.out _ hzz6.out) (fun hHeld => ?_)
      clear hK K'
      try simp only [Act.put, List.setIfInBounds_toArray, List.set_cons_zero, List.set_cons_succ]
      clear hbz hzz5
      refine wpAnyH_take (i := 17) (oi := { dst := some 2, op := Op.assign (Operand.tmp 88), type := 9, pos := "list.go:79", after := #[{ on := 16, ground := Ground.data }, { on := 16, ground := Ground.chain }, { on := 0, ground := Ground.phase }, { on := 1, ground := Ground.phase }, { on := 2, ground := Ground.phase }, { on := 3, ground := Ground.phase }, { on := 4, ground := Ground.phase }, { on := 5, ground := Ground.phase }, { on := 6, ground := Ground.phase }, { on := 7, ground := Ground.phase }, { on := 8, ground := Ground.phase }, { on := 9, ground := Ground.phase }, { on := 10, ground := Ground.phase }, { on := 11, ground := Ground.phase }, { on := 12, ground := Ground.phase }, { on := 13, ground := Ground.phase }, { on := 14, ground := Ground.phase }, { on := 15, ground := Ground.phase }, { on := 16, ground := Ground.phase }], guard := none }) (v := ?vc17) rfl (by kernel_rfl) (by kernel_rfl) (by kernel_rfl) (fun _ _ _ h => h) (Or.inl ⟨by rfl, ?hyc17⟩) (by assumption) ?restc17
      case hyc17 =>
        intro w hSw
        try dsimp only at hSw
        try obtain ⟨hSw, hSw2⟩ := hSw
        try go_split_ands
        go_simp
        try with_reducible rfl
      try simp only [Act.put, List.setIfInBounds_toArray, List.set_cons_zero, List.set_cons_succ]
      refine wpAnyH_done (by kernel_rfl) ?_ _
      refine NoPanic.normal ?_
      go_wp2
      go_ret
      exact ⟨by unfold lineS; rw [hrw.out]; rfl, HBw.out _ hzz6.out⟩
end Go.Proofs.YtokehnclakedeaaGreatDoor
