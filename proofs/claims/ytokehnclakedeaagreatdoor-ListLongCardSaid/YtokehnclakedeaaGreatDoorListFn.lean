/- list: a form's numbered and written; a number's decimal text. -/
import Derived.Test.YtokehnclakedeaaGreatDoorListForms
import Derived.Shelf.Strings.IndexAnyAll
import Derived.Test.YtokehnclakedeaaGreatDoorListFu
namespace Go.Proofs.YtokehnclakedeaaGreatDoor
open Go Go.Proofs Go.RowKit Go.Shelf

def numberedF (o : ByteArray) : Bool := Lib.containsAny o.data.toList [91, 35, 107]
def writtenF (o k : ByteArray) : ByteArray := if o = ⟨#[91, 93]⟩ then ⟨#[91]⟩ ++ k ++ ⟨#[93]⟩ else if o = ⟨#[109, 91, 93]⟩ then ⟨#[109, 91]⟩ ++ k ++ ⟨#[93]⟩ else if o = ⟨#[35]⟩ then ⟨#[35]⟩ ++ k else if o = ⟨#[107]⟩ then k else o
theorem bytes_eqT {a b : ByteArray} (h : a.toList = b.toList) : a = b := by
  rw [ByteArray.toList_eq, ByteArray.toList_eq] at h
  exact ByteArray.ext (Array.toList_inj.1 h)
set_option maxRecDepth 100000 in
set_option maxHeartbeats 1000000 in
theorem numbered_any (fw fo : ByteArray) (fc : Int) (fx fj : Bool) (ho : fo.size ≤ 100) (has : ∀ b ∈ fo.data.toList, b.toNat < 128) (w : World) :
    Calls Tryz.prog 24 #[.agg #[.string fw, .string fo, .int .u16 fc, .bool fx, .bool fj]] w fun e w' => e = .returned (.bool (numberedF fo)) ∧ Below w.heap.size w w' := by
  have hB := Blk.new w 62 #[.string fw, .string fo, .int .u16 fc, .bool fx, .bool fj]
  have hb := (Below.refl w.heap.size w).alloc (Nat.le_refl _) (.cells #[.string fw, .string fo, .int .u16 fc, .bool fx, .bool fj] 62)
  have c1 := hB.cell 1
  simp only [List.getElem?_toArray, List.getElem?_cons_zero, List.getElem?_cons_succ] at c1
  have hc := fun W => Any.strings_ContainsAny_laid Tryz.lays150 (by kernel_rfl) fo ⟨#[91, 35, 107]⟩ W (by omega) (by decide) (fun j b h => has b (List.mem_of_getElem? h)) (fun j b h => (by decide : ∀ b ∈ [(91 : UInt8), 35, 107], b.toNat < 128) b (List.mem_of_getElem? h))
  have HC := Lib.hid hc
  have HB := Lib.hid hb
  clear hB hb hc
  go_enter Tryz.func24, Tryz.ntmps24
  go_wp2_with fail
  refine (HC.out _).mono ?_
  rintro e w1 ⟨rfl, hb1⟩
  go_wp2
  go_ret
  exact ⟨rfl, HB.out.trans (hb1.mono HB.out.size)⟩
set_option maxRecDepth 100000 in
set_option maxHeartbeats 1000000 in
theorem written_any (fw fo k : ByteArray) (fc : Int) (fx fj : Bool) (hk : k.size ≤ 1000) (w : World) :
    Calls Tryz.prog 25 #[.agg #[.string fw, .string fo, .int .u16 fc, .bool fx, .bool fj], .string k] w fun e w' => e = .returned (.string (writtenF fo k)) ∧ Below w.heap.size w w' := by
  have hB := Blk.new w 62 #[.string fw, .string fo, .int .u16 fc, .bool fx, .bool fj]
  have hb := (Below.refl w.heap.size w).alloc (Nat.le_refl _) (.cells #[.string fw, .string fo, .int .u16 fc, .bool fx, .bool fj] 62)
  have c1 := hB.cell 1
  simp only [List.getElem?_toArray, List.getElem?_cons_zero, List.getElem?_cons_succ] at c1
  have HB := Lib.hid hb
  have s1 : (⟨#[91]⟩ : ByteArray).size + k.size ≤ 2000 := by rw [show (⟨#[91]⟩ : ByteArray).size = 1 from rfl]; omega
  have s2 : (⟨#[91]⟩ ++ k : ByteArray).size + (⟨#[93]⟩ : ByteArray).size ≤ 2000 := by rw [ByteArray.size_append, show (⟨#[91]⟩ : ByteArray).size = 1 from rfl, show (⟨#[93]⟩ : ByteArray).size = 1 from rfl]; omega
  have s3 : (⟨#[109, 91]⟩ : ByteArray).size + k.size ≤ 2000 := by rw [show (⟨#[109, 91]⟩ : ByteArray).size = 2 from rfl]; omega
  have s4 : (⟨#[109, 91]⟩ ++ k : ByteArray).size + (⟨#[93]⟩ : ByteArray).size ≤ 2000 := by rw [ByteArray.size_append, show (⟨#[109, 91]⟩ : ByteArray).size = 2 from rfl, show (⟨#[93]⟩ : ByteArray).size = 1 from rfl]; omega
  have s5 : (⟨#[35]⟩ : ByteArray).size + k.size ≤ 2000 := by rw [show (⟨#[35]⟩ : ByteArray).size = 1 from rfl]; omega
  clear hB hb
  by_cases h1 : fo = ⟨#[91, 93]⟩
  · have hv : writtenF fo k = ⟨#[91]⟩ ++ k ++ ⟨#[93]⟩ := by unfold writtenF; rw [if_pos h1]
    rw [hv]
    subst h1
    clear hv
    go_enter Tryz.func25, Tryz.ntmps25
    go_wp2
    go_ret
    exact ⟨rfl, HB.out⟩
  have n1 : (fo.toList == [91, 93]) = false := by rw [beq_eq_false_iff_ne]; intro e; exact h1 (bytes_eqT (e.trans (by decide +kernel)))
  have m1 : ¬ fo.toList = [91, 93] := by simpa using n1
  by_cases h2 : fo = ⟨#[109, 91, 93]⟩
  · have hv : writtenF fo k = ⟨#[109, 91]⟩ ++ k ++ ⟨#[93]⟩ := by unfold writtenF; rw [if_neg h1, if_pos h2]
    rw [hv]
    subst h2
    clear hv n1 m1 h1
    go_enter Tryz.func25, Tryz.ntmps25
    go_wp2
    go_ret
    exact ⟨rfl, HB.out⟩
  have n2 : (fo.toList == [109, 91, 93]) = false := by rw [beq_eq_false_iff_ne]; intro e; exact h2 (bytes_eqT (e.trans (by decide +kernel)))
  have m2 : ¬ fo.toList = [109, 91, 93] := by simpa using n2
  by_cases h3 : fo = ⟨#[35]⟩
  · have hv : writtenF fo k = ⟨#[35]⟩ ++ k := by unfold writtenF; rw [if_neg h1, if_neg h2, if_pos h3]
    rw [hv]
    subst h3
    clear hv n1 m1 h1 n2 m2 h2
    go_enter Tryz.func25, Tryz.ntmps25
    go_wp2
    go_ret
    exact ⟨rfl, HB.out⟩
  have n3 : (fo.toList == [35]) = false := by rw [beq_eq_false_iff_ne]; intro e; exact h3 (bytes_eqT (e.trans (by decide +kernel)))
  have m3 : ¬ fo.toList = [35] := by simpa using n3
  by_cases h4 : fo = ⟨#[107]⟩
  · have hv : writtenF fo k = k := by unfold writtenF; rw [if_neg h1, if_neg h2, if_neg h3, if_pos h4]
    rw [hv]
    subst h4
    clear hv n1 m1 h1 n2 m2 h2 n3 m3 h3
    go_enter Tryz.func25, Tryz.ntmps25
    go_wp2
    go_ret
    exact ⟨rfl, HB.out⟩
  have n4 : (fo.toList == [107]) = false := by rw [beq_eq_false_iff_ne]; intro e; exact h4 (bytes_eqT (e.trans (by decide +kernel)))
  have m4 : ¬ fo.toList = [107] := by simpa using n4
  have hv : writtenF fo k = fo := by unfold writtenF; rw [if_neg h1, if_neg h2, if_neg h3, if_neg h4]
  rw [hv]
  clear hv h1 h2 h3 h4
  go_enter Tryz.func25, Tryz.ntmps25
  go_wp2
  go_ret
  exact ⟨rfl, HB.out⟩
set_option maxHeartbeats 1000000 in
set_option maxRecDepth 100000 in
theorem decimal3_any (u : Nat) (hu : u < 4294967296) (w : World) (htab : Pow10 w) :
    Calls Tryz.prog 26 #[.int .u32 (u : Int)] w fun e w' => e = .returned (.string (decS u)) ∧ Below w.heap.size w w' := by
  have HC := Lib.hid (fu_any u (by omega) w htab)
  have wu : IntKind.u64.wrap (u : Int) = (u : Int) := by rw [IntKind.wrap_u64]; omega
  clear hu
  go_enter Tryz.func26, Tryz.ntmps26
  go_wp2_with fail
  refine HC.out.mono ?_
  rintro e w' ⟨rfl, hb⟩
  go_wp2
  go_ret
  exact ⟨rfl, hb⟩
theorem decS_le (n : Nat) (h : n < 4294967296) : (decS n).size ≤ 20 := by
  have h1 := Lib.nDigits_le20 n (by omega)
  rw [← Lib.decDigits_length] at h1
  exact h1
end Go.Proofs.YtokehnclakedeaaGreatDoor
