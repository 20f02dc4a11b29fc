/- lex.Join: lines put together. -/
import Derived.Test.YtkgmbogmeppmcaaDoorLexLinesW
import Derived.Shelf.Strings.OnBuilder
namespace Go.Proofs.YtkgmbogmeppmcaaDoor
open Go Go.Proofs Go.RowKit Go.Shelf

theorem extra156 : Builder.Extra Tryd.prog Tryd.lays156_ren where
  sizeBuilder := by kernel_rfl
  liesBuilder := by kernel_rfl
  t5 := Tryd.underlying5
  a5 := Tryd.isAgg5
  z5 := Tryd.sizeOf5
  v5 := Tryd.zeroValue5
  infoByte := by kernel_rfl
  cellsByte := by kernel_rfl
  sizeByte := by kernel_rfl
  neB5 := by decide
theorem wstr_any (B b : Nat) (bs : List Value) (s : ByteArray) (w : World) (h : Lib.IsBuilder 83 5 B b bs w) (hlen : bs.length + s.size ≤ 140737488355328) (hBw : B ≤ w.heap.size) :
    Calls Tryd.prog 44 #[.pointer (some ⟨b, 0, none⟩), .string s] w fun e w' => e = .returned (.tuple #[.int .i64 s.size, .nilIface]) ∧ Lib.BuilderAt 83 5 B b (.pointer (some ⟨b, 0, none⟩)) (bs ++ Lib.strCells s) w' ∧ Below B w w' :=
  Any.Builder_WriteString { Tryd.lays156 with } extra156 B b bs s w h hlen hBw
theorem bstr_any (B b : Nat) (l : List UInt8) (w : World) (h : Lib.IsBuilder 83 5 B b (Lib.byteCells l) w) (hBw : B ≤ w.heap.size) :
    Calls Tryd.prog 46 #[.pointer (some ⟨b, 0, none⟩)] w fun e w' => e = .returned (.string ⟨l.toArray⟩) ∧ Below B w w' :=
  Any.Builder_String_any { Tryd.lays156 with } extra156 B b l w h hBw
theorem sjoin_any (bk c : Nat) (xs : List ByteArray) (sep : ByteArray) (w : World) (hcells : ∀ (j : Nat) x, xs[j]? = some x → w.cell? ⟨bk, 0 + j, none⟩ = some (.string x)) (hbk : bk < w.heap.size) (hN : xs.length ≤ 140737488355328) (hcap : xs.length ≤ c)
    (hlen : (Lib.join (xs.map (·.data.toList)) sep.data.toList).length ≤ 140737488355328) :
    Calls Tryd.prog 45 #[.slice (some ⟨bk, 0, none⟩) xs.length c, .string sep] w fun e w' => e = .returned (.string ⟨(Lib.join (xs.map (·.data.toList)) sep.data.toList).toArray⟩) ∧ Below w.heap.size w w' :=
  Any.strings_Join Tryd.lays156 extra156 bk 0 c xs sep w hcells hbk hN hcap hlen

theorem builder_below {T e B b : Nat} {bs : List Value} {w W : World} (h : Lib.IsBuilder T e B b bs w) (hb : Below w.heap.size w W) : Lib.IsBuilder T e B b bs W := by
  have one : ∀ p, Lib.BuilderAt T e B b p bs w → Lib.BuilderAt T e B b p bs W := by
    rintro p ⟨h1, v, h2, h3, h4⟩
    exact ⟨h1, v, (hb.block b (Array.getElem?_eq_some_iff.1 h2).1).trans h2, ownsRow_below h3 hb, h4⟩
  exact h.imp (one _) (one _)

/-- A line's text. -/
def lineTx (ws : List ByteArray) : List UInt8 := Lib.join (ws.map (·.data.toList)) [32] ++ [10]
/-- Lines put together. -/
def joinL (ls : List Ln) : List UInt8 := ls.flatMap fun x => lineTx x.2
theorem joinL_take (ls : List Ln) (k : Nat) (x : Ln) (h : ls[k]? = some x) : joinL (ls.take (k + 1)) = joinL (ls.take k) ++ lineTx x.2 := by
  unfold joinL
  rw [List.take_add_one, h, List.flatMap_append]
  simp
theorem joinL_take_le (ls : List Ln) (k : Nat) : (joinL (ls.take k)).length ≤ (joinL ls).length := by
  conv => rhs; rw [← List.take_append_drop k ls]
  unfold joinL
  rw [List.flatMap_append, List.length_append]
  omega

set_option maxRecDepth 100000 in
set_option maxHeartbeats 2000000 in
theorem join13_any (v : Value) (ls : List Ln) (lo : Nat) (hbig : ls.length ≤ 1000000) (hws : ∀ x ∈ ls, x.2.length ≤ 1000000 ∧ x.2 ≠ []) (hlen : (joinL ls).length ≤ 1000000000000) (w : World) (h1 : LinesR 54 lo w v ls) :
    Calls Tryd.prog 26 #[v] w fun e w' => e = .returned (.string ⟨(joinL ls).toArray⟩) ∧ Below w.heap.size w w' := by
  obtain ⟨a1, c1, rfl⟩ := h1.slice
  obtain ⟨n, hn⟩ : ∃ n, ls.length = n := ⟨_, rfl⟩
  rw [hn] at h1 hbig ⊢
  have H1 := Lib.hid h1
  have HN := Lib.hid hn
  have HWS := Lib.hid hws
  have HLE := Lib.hid hlen
  have hbd := (Below.refl w.heap.size w).alloc (Nat.le_refl _) (.cells #[.pointer none, .slice none 0 0] 83)
  have hbi : Lib.IsBuilder 83 5 w.heap.size w.heap.size (Lib.byteCells (joinL (ls.take 0))) (w.alloc (.cells #[.pointer none, .slice none 0 0] 83)) := Lib.fresh_isBuilder _ _ w
  have HBD := Lib.hid hbd
  have HBI := Lib.hid hbi
  clear h1 hn hws hlen hbd hbi
  go_enter Tryd.func26, Tryd.ntmps26
  go_wp2
  go_loopw [5, 8] (fun _ kv wr => ∃ k : Nat, k ≤ n ∧ kv = .int .i64 k ∧ Hid (Below w.heap.size w wr) ∧ Hid (Lib.IsBuilder 83 5 w.heap.size w.heap.size (Lib.byteCells (joinL (ls.take k))) wr)) (fun _ kv _ => n - (intOf kv).toNat)
  case atStart => exact ⟨0, Nat.zero_le _, rfl, HBD, HBI⟩
  case round =>
    obtain ⟨k, hkn, rfl, HB, HI⟩ := hrel
    clear HBD HBI
    by_cases hlt : k < n
    · have hltz : (k : Int) < (n : Int) := by omega
      have k0 : (0 : Int) ≤ (k : Int) := by omega
      obtain ⟨x, hx⟩ : ∃ x, ls[k]? = some x := ⟨_, List.getElem?_eq_getElem (by rw [HN.out]; exact hlt)⟩
      obtain ⟨g1, ua, uc, rfl, d1, e1, hg1, hcap, f1⟩ := lines_at (H1.out.below HB.out) hx
      obtain ⟨hm, hne⟩ := HWS.out _ (List.mem_of_getElem? hx)
      obtain ⟨s0, hs0⟩ : ∃ s0, x.2[0]? = some s0 := ⟨_, List.getElem?_eq_getElem (List.length_pos_iff.2 hne)⟩
      obtain ⟨gu, rfl, _, hgu⟩ := f1 0 s0 hs0
      have hcells : ∀ (j : Nat) (s : ByteArray), x.2[j]? = some s → wr.cell? ⟨gu, 0 + j, none⟩ = some (.string s) := by
        intro j s hj
        obtain ⟨gu', he, hc, _⟩ := f1 j s hj
        cases he
        rw [Nat.zero_add]
        exact hc
      have hjt := joinL_take ls k x hx
      have hjl : (joinL (ls.take (k + 1))).length ≤ 1000000000000 := Nat.le_trans (joinL_take_le ls (k + 1)) HLE.out
      have hjl2 := hjl
      rw [hjt, List.length_append] at hjl2
      obtain ⟨m, hmm⟩ : ∃ m, x.2.length = m := ⟨_, rfl⟩
      rw [hmm] at e1 hm hcap
      obtain ⟨J, hJ⟩ : ∃ J : ByteArray, (⟨(Lib.join (x.2.map (·.data.toList)) (⟨#[32]⟩ : ByteArray).data.toList).toArray⟩ : ByteArray) = J := ⟨_, rfl⟩
      have hJl : (Lib.join (x.2.map (·.data.toList)) (⟨#[32]⟩ : ByteArray).data.toList) = J.data.toList := by rw [← hJ]
      have htx : lineTx x.2 = (J ++ ⟨#[10]⟩ : ByteArray).data.toList := by
        rw [list_append, ← hJl]
        rfl
      have hJs : J.size + 1 ≤ 1000000000000 := by
        have := congrArg List.length htx
        rw [size_list, ByteArray.size_append, show (⟨#[10]⟩ : ByteArray).size = 1 from rfl] at this
        omega
      have HJ : Hid (∀ W, Below wr.heap.size wr W → Calls Tryd.prog 45 #[.slice (some ⟨gu, 0, none⟩) m uc, .string ⟨#[32]⟩] W fun e w' => e = .returned (.string J) ∧ Below W.heap.size W w') := by
        intro W hW
        have := sjoin_any gu uc x.2 ⟨#[32]⟩ W (fun j s hj => bel_cell hW (hcells j s hj) hgu) (Nat.lt_of_lt_of_le hgu hW.size) (by omega) (by omega) (by rw [hJl, size_list]; omega)
        rw [hJ, hmm] at this
        exact this
      have hst : Hid (Lib.byteCells (joinL (ls.take k)) ++ Lib.strCells (J ++ ⟨#[10]⟩) = Lib.byteCells (joinL (ls.take (k + 1)))) := by
        show _ = _
        rw [hjt, Lib.strCells_eq, ← htx, Lib.byteCells_append]
      have hbl : Hid ((Lib.byteCells (joinL (ls.take k))).length + (J ++ ⟨#[10]⟩ : ByteArray).size ≤ 140737488355328) := by
        show _ ≤ _
        rw [Lib.byteCells_length, ByteArray.size_append, show (⟨#[10]⟩ : ByteArray).size = 1 from rfl]
        omega
      have hJz : J.size + (⟨#[10]⟩ : ByteArray).size ≤ 1000000000000 := by rw [show (⟨#[10]⟩ : ByteArray).size = 1 from rfl]; exact hJs
      obtain ⟨xn, ws⟩ := x
      dsimp only at d1
      clear hx f1 hcells hjt hjl hjl2 hmm hJ hJl htx hs0 hne hJs
      go_wp2_with fail
      refine (HJ.out _ ((Below.refl _ wr).alloc (Nat.le_refl _) _)).mono ?_
      rintro e w2 ⟨rfl, hb2⟩
      have HB2 := Lib.hid ((HB.out.alloc HB.out.size _).trans (hb2.mono (HB.out.alloc HB.out.size (.cells #[.int .i64 (xn : Int), .slice (some ⟨gu, 0, none⟩) m uc] 54)).size))
      have HI2 := Lib.hid (builder_below (builder_below HI.out ((Below.refl _ wr).alloc (Nat.le_refl _) (.cells #[.int .i64 (xn : Int), .slice (some ⟨gu, 0, none⟩) m uc] 54))) hb2)
      clear hb2 HI HB d1 e1
      go_wp2_with fail
      have hcall := wstr_any w.heap.size w.heap.size (Lib.byteCells (joinL (ls.take k))) (J ++ ⟨#[10]⟩) w2 HI2.out hbl.out HB2.out.size
      refine hcall.mono ?_
      rintro e w3 ⟨rfl, hi3, hb3⟩
      rw [hst.out] at hi3
      have HI3 : Hid (Lib.IsBuilder 83 5 w.heap.size w.heap.size (Lib.byteCells (joinL (ls.take (k + 1)))) w3) := .inr hi3
      have HB3 := Lib.hid (HB2.out.trans hb3)
      clear hi3 hb3 HI2 HB2
      go_wp2
      go_roundw
      case rel => exact ⟨k + 1, by omega, by go_num, HB3, HI3⟩
      case measure => simp [intOf]; omega
    · obtain rfl : k = n := by omega
      have hltz : ¬ (k : Int) < (k : Int) := by omega
      have hall : ls.take k = ls := List.take_of_length_le (by rw [HN.out]; exact Nat.le_refl _)
      rw [hall] at HI
      clear hall
      go_wp2_with fail
      refine (bstr_any w.heap.size w.heap.size _ _ HI.out HB.out.size).mono ?_
      rintro e w2 ⟨rfl, hb2⟩
      go_wp2
      go_ret
      exact ⟨rfl, HB.out.trans hb2⟩
end Go.Proofs.YtkgmbogmeppmcaaDoor
