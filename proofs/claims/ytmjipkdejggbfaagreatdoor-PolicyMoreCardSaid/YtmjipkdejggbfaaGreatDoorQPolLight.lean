/- strainerlaw14.light: are rules few, and names short? -/
import Derived.Test.YtmjipkdejggbfaaGreatDoorQPolTold3
namespace Go.Proofs.YtmjipkdejggbfaaGreatDoor
open Go Go.Proofs Go.RowKit

def LightR (r : PRule) : Prop := r.name.size ≤ 60 ∧ r.conds.length ≤ 12
def LightP (rs : List PRule) : Prop := rs.length ≤ 40 ∧ ∀ r ∈ rs, LightR r
set_option maxRecDepth 100000 in
set_option maxHeartbeats 8000000 in
theorem light_any {k n : Int} {x : Bool} {rs : List PRule} {v : Value} {N0 : Nat} (w : World) (hN0 : N0 ≤ w.heap.size) (h : RulesI N0 w v rs) :
    Calls Tryz.prog 13 #[PolV k n x v] w (eqPost (LightP rs) w) := by
  obtain ⟨a, c, rfl, hR⟩ := h
  unfold PolV
  obtain ⟨L, hL⟩ : ∃ L, rs.length = L := ⟨_, rfl⟩
  rw [hL]
  have HL := Lib.hid hL
  have HR := Lib.hid hR
  have HX := Lib.hid (Blk.new w TPr #[.int .i64 k, .int .i64 n, .bool x, .slice a L c])
  have HB := Lib.hid ((Below.refl w.heap.size w).alloc (Nat.le_refl _) (.cells #[.int .i64 k, .int .i64 n, .bool x, .slice a L c] TPr))
  clear hL hR
  go_enter Tryz.func13, Tryz.ntmps13
  go_upto_region 1 with fail
  generalize w.alloc (.cells #[.int .i64 k, .int .i64 n, .bool x, .slice a L c] TPr) = w1 at *
  have x3 := HX.out.cell 3
  simp only [List.getElem?_toArray, List.getElem?_cons_zero, List.getElem?_cons_succ] at x3
  by_cases h40 : 40 < L
  · have hz : (40 : Int) < (L : Int) := by omega
    have HNE : Hid (¬ LightP rs) := fun e => by have := e.1; rw [HL.out] at this; omega
    go_wp2
    go_ret
    exact eq_no HNE.out HB.out
  have hz : ¬ (40 : Int) < (L : Int) := by omega
  go_upto_region 4 with fail
  go_loopg [3] (L + 1) (fun gg iv wr => ∃ i : Nat, i ≤ L ∧ L - i < gg ∧ iv = .int .i64 (i : Int) ∧ Hid (∀ r ∈ rs.take i, LightR r) ∧ wr = w1)
  case atStart => exact ⟨0, Nat.zero_le _, by omega, rfl, (show ∀ r ∈ rs.take 0, LightR r from fun r h => by simp at h), rfl⟩
  case round =>
    obtain ⟨i, hiL, hgg, rfl, HT, rfl⟩ := hrel
    have i0 : (0 : Int) ≤ (i : Int) := by omega
    by_cases hlt : i < L
    · have hltz : (i : Int) < (L : Int) := by omega
      obtain ⟨r, hr⟩ : ∃ r, rs[i]? = some r := ⟨_, List.getElem?_eq_getElem (by rw [HL.out]; exact hlt)⟩
      obtain ⟨g, off, ua, uc, rfl, hg, e0, e1, e2, e3, _⟩ := HR.out i r hr
      have y0 := (HB.out.cell (p := ⟨g, off + i * 4, none⟩) (by show g < w.heap.size; omega)).trans e0
      have y3 := (HB.out.cell (p := ⟨g, off + i * 4 + 3, none⟩) (by show g < w.heap.size; omega)).trans e3
      have HM := Lib.hid (List.mem_of_getElem? hr)
      have HTS : Hid (LightR r → ∀ r ∈ rs.take (i + 1), LightR r) := fun hl r' hr' => by
        rw [take_snoc hr] at hr'
        rcases List.mem_append.1 hr' with h | h
        · exact HT.out r' h
        · simp at h; rw [h]; exact hl
      clear hr e0 e1 e2 e3
      by_cases hs : 60 < r.name.size
      · have hsz : (60 : Int) < (r.name.size : Int) := by omega
        have HNE : Hid (¬ LightP rs) := fun e => by have := (e.2 r HM.out).1; omega
        go_wp2
        go_ret
        exact eq_no HNE.out HB.out
      · have hsz : ¬ (60 : Int) < (r.name.size : Int) := by omega
        by_cases hc : 12 < r.conds.length
        · have hcz : (12 : Int) < (r.conds.length : Int) := by omega
          have HNE : Hid (¬ LightP rs) := fun e => by have := (e.2 r HM.out).2; omega
          go_wp2
          go_ret
          exact eq_no HNE.out HB.out
        · have hcz : ¬ (12 : Int) < (r.conds.length : Int) := by omega
          have HT2 := Lib.hid (HTS.out ⟨by omega, by omega⟩)
          go_wp2
          go_roundg (L - i)
          case measure => omega
          case rel => exact ⟨i + 1, by omega, by omega, by go_num, HT2, rfl⟩
    · obtain rfl : L = i := by omega
      have hltz : ¬ (L : Int) < (L : Int) := by omega
      have HEQ : Hid (LightP rs) := ⟨by rw [HL.out]; omega, by
        have h := HT.out
        rwa [List.take_of_length_le (by rw [HL.out]; exact Nat.le_refl _)] at h⟩
      go_wp2
      go_ret
      exact eq_yes HEQ.out HB.out
end Go.Proofs.YtmjipkdejggbfaaGreatDoor
