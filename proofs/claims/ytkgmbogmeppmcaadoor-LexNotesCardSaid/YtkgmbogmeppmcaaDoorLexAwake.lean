/- strainerlaw13.awake: the chapter's example; LexLines. -/
import Derived.Test.YtkgmbogmeppmcaaDoorLexTold
namespace Go.Proofs.YtkgmbogmeppmcaaDoor
open Go Go.Proofs Go.RowKit

theorem lexAns_ex : lexAns ⟨#[97, 32, 98, 32, 35, 32, 99, 10, 10, 100]⟩ = ([(1, [⟨#[97]⟩, ⟨#[98]⟩]), (3, [⟨#[100]⟩])], 0, 0) := by rfl
theorem linesR_ex (w : World) : LinesR 80 w.heap.size (((w.alloc (.cells #[.string ⟨#[97]⟩, .string ⟨#[98]⟩] 9)).alloc (.cells #[.string ⟨#[100]⟩] 9)).alloc (.cells #[.int .i64 1, .slice (some ⟨w.heap.size, 0, none⟩) 2 2, .int .i64 3, .slice (some ⟨w.heap.size + 1, 0, none⟩) 1 1] 80))
    (.slice (some ⟨w.heap.size + 1 + 1, 0, none⟩) 2 2) [(1, [⟨#[97]⟩, ⟨#[98]⟩]), (3, [⟨#[100]⟩])] := by
  have b1 := ((World.ownsRow_lit (base := w.heap.size) (e := 9) (size := 1) w #[.string ⟨#[97]⟩, .string ⟨#[98]⟩] 2 (Nat.le_refl _) (by decide) rfl).alloc (.cells #[.string ⟨#[100]⟩] 9)).alloc (.cells #[.int .i64 1, .slice (some ⟨w.heap.size, 0, none⟩) 2 2, .int .i64 3, .slice (some ⟨w.heap.size + 1, 0, none⟩) 1 1] 80)
  have b2 := (World.ownsRow_lit (base := w.heap.size) (e := 9) (size := 1) (w.alloc (.cells #[.string ⟨#[97]⟩, .string ⟨#[98]⟩] 9)) #[.string ⟨#[100]⟩] 1 (by simp) (by decide) rfl).alloc (.cells #[.int .i64 1, .slice (some ⟨w.heap.size, 0, none⟩) 2 2, .int .i64 3, .slice (some ⟨w.heap.size + 1, 0, none⟩) 1 1] 80)
  have b3 := World.ownsRow_lit (base := w.heap.size) (e := 80) (size := 2) ((w.alloc (.cells #[.string ⟨#[97]⟩, .string ⟨#[98]⟩] 9)).alloc (.cells #[.string ⟨#[100]⟩] 9)) #[.int .i64 1, .slice (some ⟨w.heap.size, 0, none⟩) 2 2, .int .i64 3, .slice (some ⟨w.heap.size + 1, 0, none⟩) 1 1] 2 (by simp; omega) (by decide) rfl
  simp only [World.size_alloc] at b2 b3
  refine ⟨[.slice (some ⟨w.heap.size, 0, none⟩) 2 2, .slice (some ⟨w.heap.size + 1, 0, none⟩) 1 1], rfl, b3, ?_⟩
  intro j u x hu hx
  match j, hu, hx with
  | 0, hu, hx =>
    simp at hu hx
    subst hu hx
    exact b1
  | 1, hu, hx =>
    simp at hu hx
    subst hu hx
    exact b2
  | (j + 2), hu, hx => simp at hu

set_option maxRecDepth 100000 in
set_option maxHeartbeats 1000000 in
theorem awake13_any (w : World) : Calls Tryd.prog 25 #[] w fun e w' => e = .returned (.bool true) ∧ Below w.heap.size w w' := by
  have HL := Lib.hid (fun W => lexLines_any ⟨#[97, 32, 98, 32, 35, 32, 99, 10, 10, 100]⟩ W)
  rw [lexAns_ex] at HL
  go_enter Tryd.func25, Tryd.ntmps25
  go_wp2_with fail
  refine (HL.out _).mono ?_
  rintro e w1 ⟨v, rfl, hl, hb1⟩
  have H1 := Lib.hid hl
  have HB1 := Lib.hid hb1
  clear hl hb1 HL
  have H2 := Lib.hid (linesR_ex w1)
  have hbx : Below w1.heap.size w1 (((w1.alloc (.cells #[.string ⟨#[97]⟩, .string ⟨#[98]⟩] 9)).alloc (.cells #[.string ⟨#[100]⟩] 9)).alloc (.cells #[.int .i64 1, .slice (some ⟨w1.heap.size, 0, none⟩) 2 2, .int .i64 3, .slice (some ⟨w1.heap.size + 1, 0, none⟩) 1 1] 80)) :=
    (((Below.refl _ w1).alloc (Nat.le_refl _) _).alloc (by simp) _).alloc (by simp; omega) _
  have H1' := Lib.hid (H1.out.below hbx)
  have HB2 := Lib.hid (HB1.out.trans (hbx.mono HB1.out.size))
  clear hbx
  go_wp2_with fail
  refine (told_same _ _ [(1, [⟨#[97]⟩, ⟨#[98]⟩]), (3, [⟨#[100]⟩])] _ _ (by decide) (by decide) _ H1'.out H2.out).mono ?_
  rintro e w2 ⟨rfl, hb2⟩
  have HB3 := Lib.hid (HB2.out.trans (hb2.mono HB2.out.size))
  clear hb2
  go_wp2
  go_ret
  exact ⟨rfl, HB3.out⟩
end Go.Proofs.YtkgmbogmeppmcaaDoor
