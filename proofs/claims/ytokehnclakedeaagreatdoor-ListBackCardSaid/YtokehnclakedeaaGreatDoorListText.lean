/- list.Text: a program's text. -/
import Derived.Test.YtokehnclakedeaaGreatDoorListProg
import Derived.Shelf.Strings.OnBuilder
namespace Go.Proofs.YtokehnclakedeaaGreatDoor
open Go Go.Proofs Go.RowKit Go.Shelf

theorem extraT : Builder.Extra Tryz.prog Tryz.lays156_ren where
  sizeBuilder := by kernel_rfl
  liesBuilder := by kernel_rfl
  t5 := Tryz.underlying5
  a5 := Tryz.isAgg5
  z5 := Tryz.sizeOf5
  v5 := Tryz.zeroValue5
  infoByte := by kernel_rfl
  cellsByte := by kernel_rfl
  sizeByte := by kernel_rfl
  neB5 := by decide
theorem wstrT_any (B b : Nat) (bs : List Value) (s : ByteArray) (w : World) (h : Lib.IsBuilder 67 5 B b bs w) (hlen : bs.length + s.size ≤ 140737488355328) (hBw : B ≤ w.heap.size) :
    Calls Tryz.prog 28 #[.pointer (some ⟨b, 0, none⟩), .string s] w fun e w' => e = .returned (.tuple #[.int .i64 s.size, .nilIface]) ∧ Lib.BuilderAt 67 5 B b (.pointer (some ⟨b, 0, none⟩)) (bs ++ Lib.strCells s) w' ∧ Below B w w' :=
  Any.Builder_WriteString { Tryz.lays156 with } extraT B b bs s w h hlen hBw
theorem bstrT_any (B b : Nat) (l : List UInt8) (w : World) (h : Lib.IsBuilder 67 5 B b (Lib.byteCells l) w) (hBw : B ≤ w.heap.size) :
    Calls Tryz.prog 29 #[.pointer (some ⟨b, 0, none⟩)] w fun e w' => e = .returned (.string ⟨l.toArray⟩) ∧ Below B w w' :=
  Any.Builder_String_any { Tryz.lays156 with } extraT B b l w h hBw
theorem builderT_below {T e B b : Nat} {bs : List Value} {w W : World} (h : Lib.IsBuilder T e B b bs w) (hb : Below w.heap.size w W) : Lib.IsBuilder T e B b bs W := by
  have one : ∀ p, Lib.BuilderAt T e B b p bs w → Lib.BuilderAt T e B b p bs W := by
    rintro p ⟨h1, v, h2, h3, h4⟩
    exact ⟨h1, v, (hb.block b (Array.getElem?_eq_some_iff.1 h2).1).trans h2, ownsRow_belowP h3 hb, h4⟩
  exact h.imp (one _) (one _)

/-- An instruction's line. -/
def insT (x : Ins4) : List UInt8 := (lineS x.1 x.2.1 x.2.2.1 x.2.2.2).data.toList ++ [10]
/-- A program's text. -/
def textL (l : List Ins4) : List UInt8 := l.flatMap insT
theorem textL_take (l : List Ins4) (k : Nat) (x : Ins4) (h : l[k]? = some x) : textL (l.take (k + 1)) = textL (l.take k) ++ insT x := by
  unfold textL
  rw [List.take_add_one, h, List.flatMap_append]
  simp
theorem textL_len : ∀ l : List Ins4, (∀ x ∈ l, InsB x.1 x.2.1 x.2.2.1 x.2.2.2) → (textL l).length ≤ l.length * 1001
  | [], _ => by simp [textL]
  | x :: l, h => by
    have ih := textL_len l (fun y hy => h y (by simp [hy]))
    have h1 := lineS_size _ _ _ _ (h x (by simp))
    unfold textL at *
    rw [List.flatMap_cons, List.length_append, List.length_cons]
    have : (insT x).length = (lineS x.1 x.2.1 x.2.2.1 x.2.2.2).size + 1 := by unfold insT; rw [List.length_append, sizeL]; rfl
    omega

set_option maxRecDepth 100000 in
set_option maxHeartbeats 4000000 in
theorem text3_any (v : Value) (l : List Ins4) (lo : Nat) (hbig : l.length ≤ 100000) (hin : ∀ x ∈ l, InsB x.1 x.2.1 x.2.2.1 x.2.2.2) (w : World) (hT : AscT w) (hp : Pow10 w) (h1 : w.ownsRow lo 25 4 v l.length (flatI l)) :
    Calls Tryz.prog 13 #[v] w fun e w' => e = .returned (.string ⟨(textL l).toArray⟩) ∧ Below w.heap.size w w' := by
  obtain ⟨n, hn⟩ : ∃ n, l.length = n := ⟨_, rfl⟩
  rw [hn] at h1 hbig
  have hsl : ∃ a c, v = .slice a n c := by
    rcases h1.2 with ⟨h, h0⟩ | ⟨g, c, _, h, _⟩
    · exact ⟨none, 0, by rw [h, h0]⟩
    · exact ⟨_, _, h⟩
  obtain ⟨a1, c1, rfl⟩ := hsl
  have H1 := Lib.hid h1
  have HN := Lib.hid hn
  have HIN := Lib.hid hin
  have HLN := Lib.hid lineB
  have HT := Lib.hid hT
  have HP := Lib.hid hp
  have HLE := Lib.hid (textL_len l hin)
  have hbd := (Below.refl w.heap.size w).alloc (Nat.le_refl _) (.cells #[.pointer none, .slice none 0 0] 67)
  have hbi : Lib.IsBuilder 67 5 w.heap.size w.heap.size (Lib.byteCells []) (w.alloc (.cells #[.pointer none, .slice none 0 0] 67)) := Lib.fresh_isBuilder _ _ w
  have HBD := Lib.hid hbd
  have HBI := Lib.hid hbi
  clear hbd hbi h1 hn hin hT hp
  go_enter Tryz.func13, Tryz.ntmps13
  go_upto_region 3 with fail
  generalize w.alloc (.cells #[.pointer none, .slice none 0 0] 67) = W1 at *
  go_loopw [5, 8] (fun _ kv wr => ∃ k : Nat, k ≤ n ∧ kv = .int .i64 k ∧ Hid (Below w.heap.size w wr) ∧ Hid (Lib.IsBuilder 67 5 w.heap.size w.heap.size (Lib.byteCells (textL (l.take k))) wr)) (fun _ kv _ => n - (intOf kv).toNat)
  case atStart => exact ⟨0, Nat.zero_le _, rfl, HBD, HBI⟩
  case round =>
    obtain ⟨k, hk, rfl, HB, HI⟩ := hrel
    clear HBD HBI
    by_cases hlt : k < n
    · have hltz : (k : Int) < (n : Int) := by omega
      have hk0 : (0 : Int) ≤ (k : Int) := by omega
      obtain ⟨x, hx⟩ : ∃ x, l[k]? = some x := ⟨_, List.getElem?_eq_getElem (by rw [HN.out]; exact hlt)⟩
      have hxm := HIN.out x (List.mem_of_getElem? hx)
      have hjt := textL_take l k x hx
      have hs0 := lineS_size _ _ _ _ hxm
      have hjl : (textL (l.take k)).length ≤ 100100000 := by
        have h2 := textL_len (l.take k) (fun y hy => HIN.out y (List.mem_of_mem_take hy))
        have h3 : (l.take k).length ≤ n := by rw [List.length_take]; omega
        omega
      -- the instruction's cells
      obtain ⟨g, rfl⟩ : ∃ g, a1 = some ⟨g, 0, none⟩ := by
        rcases H1.out.2 with ⟨h, h0⟩ | ⟨g, c, _, h, _⟩
        · omega
        · have := Value.slice.inj h; exact ⟨g, this.1⟩
      have cellk : ∀ i u, i < 4 → (insC x)[i]? = some u → wr.cell? ⟨g, k * 4 + i, none⟩ = some u := fun i u hi hu => by
        have h2 := H1.out.cellAt (k * 4 + i) (by omega)
        have h3 := flatI_at l k x hx i hi
        rw [h3, hu] at h2
        exact lcell HB.out h2
      have d0 := cellk 0 _ (by decide) rfl
      have d1 := cellk 1 _ (by decide) rfl
      have d2 := cellk 2 _ (by decide) rfl
      have d3 := cellk 3 _ (by decide) rfl
      simp only [Nat.add_zero] at d0
      obtain ⟨c, jt, jf, kk⟩ := x
      dsimp only at d0 d1 d2 d3 hxm hs0 hjt
      obtain ⟨J, hJ⟩ : ∃ J, lineS c jt jf kk = J := ⟨_, rfl⟩
      have HJ : Hid (∀ W, AscT W → Pow10 W → Calls Tryz.prog 12 #[.agg #[.int .u16 (c : Int), .int .u8 (jt : Int), .int .u8 (jf : Int), .int .u32 (kk : Int)]] W fun e w' => e = .returned (.string J) ∧ Below W.heap.size W w') := by
        show ∀ W, _
        rw [← hJ]
        exact fun W a b => HLN.out c jt jf kk W hxm a b
      rw [hJ] at hs0
      have htx : insT (c, jt, jf, kk) = (J ++ ⟨#[10]⟩ : ByteArray).data.toList := by
        unfold insT
        rw [hJ]
        simp
      have hst : Hid (Lib.byteCells (textL (l.take k)) ++ Lib.strCells (J ++ ⟨#[10]⟩) = Lib.byteCells (textL (l.take (k + 1)))) := by
        show _ = _
        rw [hjt, Lib.strCells_eq, ← htx, Lib.byteCells_append]
      have hbl : Hid ((Lib.byteCells (textL (l.take k))).length + (J ++ ⟨#[10]⟩ : ByteArray).size ≤ 140737488355328) := by
        show _ ≤ _
        rw [Lib.byteCells_length, ByteArray.size_append, show (⟨#[10]⟩ : ByteArray).size = 1 from rfl]
        omega
      have hJz : J.size + (⟨#[10]⟩ : ByteArray).size ≤ 1000000000000 := by rw [show (⟨#[10]⟩ : ByteArray).size = 1 from rfl]; omega
      clear hx cellk hjt hjl hJ htx hs0 hxm
      go_wp2_with fail
      have hAB := Lib.hid (HB.out.alloc HB.out.size (.cells #[.int .u16 (c : Int), .int .u8 (jt : Int), .int .u8 (jf : Int), .int .u32 (kk : Int)] 25))
      refine (HJ.out _ (HT.out.below hAB.out) (HP.out.below hAB.out)).mono ?_
      rintro e w2 ⟨rfl, hb2⟩
      have HB2 := Lib.hid (hAB.out.trans (hb2.mono hAB.out.size))
      have HI2 := Lib.hid (builderT_below (builderT_below HI.out ((Below.refl _ wr).alloc (Nat.le_refl _) (.cells #[.int .u16 (c : Int), .int .u8 (jt : Int), .int .u8 (jf : Int), .int .u32 (kk : Int)] 25))) hb2)
      clear hb2 HI HB d0 d1 d2 d3 hAB HJ
      go_wp2_with fail
      have hcall := wstrT_any w.heap.size w.heap.size (Lib.byteCells (textL (l.take k))) (J ++ ⟨#[10]⟩) w2 HI2.out hbl.out HB2.out.size
      refine hcall.mono ?_
      rintro e w3 ⟨rfl, hi3, hb3⟩
      rw [hst.out] at hi3
      have HI3 : Hid (Lib.IsBuilder 67 5 w.heap.size w.heap.size (Lib.byteCells (textL (l.take (k + 1)))) w3) := .inr hi3
      have HB3 := Lib.hid (HB2.out.trans hb3)
      clear hi3 hb3 HI2 HB2 hcall
      go_wp2
      go_roundw
      case rel => exact ⟨k + 1, by omega, by go_num, HB3, HI3⟩
      case measure => simp [intOf]; omega
    · obtain rfl : k = n := by omega
      have hltz : ¬ (k : Int) < (k : Int) := by omega
      have hall : l.take k = l := List.take_of_length_le (by rw [HN.out]; exact Nat.le_refl _)
      rw [hall] at HI
      clear hall
      go_wp2_with fail
      refine (bstrT_any w.heap.size w.heap.size _ _ HI.out HB.out.size).mono ?_
      rintro e w2 ⟨rfl, hb2⟩
      go_wp2
      go_ret
      exact ⟨rfl, HB.out.trans hb2⟩
end Go.Proofs.YtokehnclakedeaaGreatDoor
