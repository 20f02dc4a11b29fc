/- lex.Join of one line, wherever it lies. -/
import Derived.Test.YtkgmbogmeppmcaaDoorLexJoin
namespace Go.Proofs.YtkgmbogmeppmcaaDoor
open Go Go.Proofs Go.RowKit Go.Shelf

theorem cell_later1 {w wx : World} {a : Addr} {v : Value} (hb : Below w.heap.size w wx) (h : w.cell? a = some v) : wx.cell? a = some v := (hb.cell (World.block_lt_of_cell? _ _ h)).trans h

set_option maxRecDepth 100000 in
set_option maxHeartbeats 2000000 in
theorem join13_one (g o c xn gu uc : Nat) (ws : List ByteArray) (w : World) (d1 : w.cell? ⟨g, o, none⟩ = some (.int .i64 (xn : Int))) (e1 : w.cell? ⟨g, o + 1, none⟩ = some (.slice (some ⟨gu, 0, none⟩) ws.length uc))
    (hcells : ∀ (j : Nat) (s : ByteArray), ws[j]? = some s → w.cell? ⟨gu, j, none⟩ = some (.string s)) (hgu : gu < w.heap.size) (hm : ws.length ≤ 1000000) (hcap : ws.length ≤ uc) (hlen : (lineTx ws).length ≤ 1000000000000) :
    Calls Tryd.prog 26 #[.slice (some ⟨g, o, none⟩) 1 c] w fun e w' => e = .returned (.string ⟨(lineTx ws).toArray⟩) ∧ Below w.heap.size w w' := by
  have hbd := (Below.refl w.heap.size w).alloc (Nat.le_refl _) (.cells #[.pointer none, .slice none 0 0] 83)
  have hbi : Lib.IsBuilder 83 5 w.heap.size w.heap.size (Lib.byteCells []) (w.alloc (.cells #[.pointer none, .slice none 0 0] 83)) := Lib.fresh_isBuilder _ _ w
  have d2 := cell_later1 hbd d1
  have e2 := cell_later1 hbd e1
  have hcells2 : ∀ (j : Nat) (s : ByteArray), ws[j]? = some s → (w.alloc (.cells #[.pointer none, .slice none 0 0] 83)).cell? ⟨gu, 0 + j, none⟩ = some (.string s) := fun j s hj => by rw [Nat.zero_add]; exact cell_later1 hbd (hcells j s hj)
  obtain ⟨m, hmm⟩ : ∃ m, ws.length = m := ⟨_, rfl⟩
  rw [hmm] at e2 hm hcap
  obtain ⟨J, hJ⟩ : ∃ J : ByteArray, (⟨(Lib.join (ws.map (·.data.toList)) (⟨#[32]⟩ : ByteArray).data.toList).toArray⟩ : ByteArray) = J := ⟨_, rfl⟩
  have hJl : (Lib.join (ws.map (·.data.toList)) (⟨#[32]⟩ : ByteArray).data.toList) = J.data.toList := by rw [← hJ]
  have htx : lineTx ws = (J ++ ⟨#[10]⟩ : ByteArray).data.toList := by
    rw [list_append, ← hJl]
    rfl
  have hJs : J.size + 1 ≤ 1000000000000 := by
    have := congrArg List.length htx
    rw [size_list, ByteArray.size_append, show (⟨#[10]⟩ : ByteArray).size = 1 from rfl] at this
    omega
  have HJ : Hid (∀ W, Below (w.alloc (.cells #[.pointer none, .slice none 0 0] 83)).heap.size (w.alloc (.cells #[.pointer none, .slice none 0 0] 83)) W → Calls Tryd.prog 45 #[.slice (some ⟨gu, 0, none⟩) m uc, .string ⟨#[32]⟩] W fun e w' => e = .returned (.string J) ∧ Below W.heap.size W w') := by
    intro W hW
    have := sjoin_any gu uc ws ⟨#[32]⟩ W (fun j s hj => cell_later1 hW (hcells2 j s hj)) (Nat.lt_of_lt_of_le (by simp; omega) hW.size) (by omega) (by omega) (by rw [hJl, size_list]; omega)
    rw [hJ, hmm] at this
    exact this
  have hst : Hid (Lib.byteCells [] ++ Lib.strCells (J ++ ⟨#[10]⟩) = Lib.byteCells (lineTx ws)) := by
    show _ = _
    rw [Lib.strCells_eq, ← htx, ← Lib.byteCells_append]
    rfl
  have hbl : Hid ((Lib.byteCells []).length + (J ++ ⟨#[10]⟩ : ByteArray).size ≤ 140737488355328) := by
    show _ ≤ _
    rw [Lib.byteCells_length, ByteArray.size_append, show (⟨#[10]⟩ : ByteArray).size = 1 from rfl]
    simp
    omega
  have hJz : J.size + (⟨#[10]⟩ : ByteArray).size ≤ 1000000000000 := by rw [show (⟨#[10]⟩ : ByteArray).size = 1 from rfl]; exact hJs
  have HBD := Lib.hid hbd
  have HBI := Lib.hid hbi
  clear hbd hbi d1 e1 hcells hcells2 hmm hJ hJl htx hJs hlen
  generalize hL : lineTx ws = LT at *
  clear hL
  go_enter Tryd.func26, Tryd.ntmps26
  go_wp2
  generalize w.alloc (.cells #[.pointer none, .slice none 0 0] 83) = W1 at *
  go_loopw [5, 8] (fun _ kv wr => (kv = .int .i64 0 ∧ W1 = wr) ∨ (kv = .int .i64 1 ∧ Hid (Below w.heap.size w wr) ∧ Hid (Lib.IsBuilder 83 5 w.heap.size w.heap.size (Lib.byteCells LT) wr))) (fun _ kv _ => 1 - (intOf kv).toNat)
  case atStart => exact .inl ⟨rfl, rfl⟩
  case round =>
    rcases hrel with ⟨rfl, rfl⟩ | ⟨rfl, HB, HI⟩
    · go_wp2_with fail
      refine (HJ.out _ ((Below.refl _ W1).alloc (Nat.le_refl _) _)).mono ?_
      rintro e w2 ⟨rfl, hb2⟩
      have HB2 := Lib.hid ((HBD.out.alloc HBD.out.size _).trans (hb2.mono (HBD.out.alloc HBD.out.size (.cells #[.int .i64 (xn : Int), .slice (some ⟨gu, 0, none⟩) m uc] 54)).size))
      have HI2 := Lib.hid (builder_below (builder_below HBI.out ((Below.refl _ W1).alloc (Nat.le_refl _) (.cells #[.int .i64 (xn : Int), .slice (some ⟨gu, 0, none⟩) m uc] 54))) hb2)
      clear hb2 HBI HBD d2 e2
      go_wp2_with fail
      have hcall := wstr_any w.heap.size w.heap.size (Lib.byteCells []) (J ++ ⟨#[10]⟩) w2 HI2.out hbl.out HB2.out.size
      refine hcall.mono ?_
      rintro e w3 ⟨rfl, hi3, hb3⟩
      rw [hst.out] at hi3
      have HI3 : Hid (Lib.IsBuilder 83 5 w.heap.size w.heap.size (Lib.byteCells LT) w3) := .inr hi3
      have HB3 := Lib.hid (HB2.out.trans hb3)
      clear hi3 hb3 HI2 HB2
      go_wp2
      go_roundw
      case rel => exact .inr ⟨rfl, HB3, HI3⟩
      case measure => simp [intOf]
    · clear HJ hst hbl hJz
      go_wp2_with fail
      refine (bstr_any w.heap.size w.heap.size _ _ HI.out HB.out.size).mono ?_
      rintro e w2 ⟨rfl, hb2⟩
      go_wp2
      go_ret
      exact ⟨rfl, HB.out.trans hb2⟩
end Go.Proofs.YtkgmbogmeppmcaaDoor
