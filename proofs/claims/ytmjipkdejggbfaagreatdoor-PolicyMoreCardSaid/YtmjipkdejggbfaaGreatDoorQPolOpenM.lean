/- The form of the slice of a policy that came in. -/
import Derived.Test.YtmjipkdejggbfaaGreatDoorQPolOpenP
import Derived.Test.YtmjipkdejggbfaaGreatDoorQPolMoreP
namespace Go.Proofs.YtmjipkdejggbfaaGreatDoor
open Go Go.Proofs Go.ChangeShapes Go.WideShapes Go.ChangeAt Go.RowKit Go.Deep Go.Joins
section
variable {H : Type} {enc : TypeId × Value → H} {w : World} {base : Nat} {spare : Nat → Bool} {held : Bool}
theorem form_of_trod {fuel : Nat} {v : Value} {x : DataW H × List MemPlace} (hf : DataW.trod enc Tryz.prog w base spare held fuel 31 [v] = some x) : ∀ a n c, v = .slice a n c → SForm a n c := by
  rintro a n c rfl
  rcases open_slice Tryz.underlying31 hf with ⟨h1, _⟩ | ⟨ad, len, cap, m, k, D, Pl, h1, _, hle, _⟩
  · exact .inl (Value.slice.inj (List.cons.inj h1).1)
  · obtain ⟨rfl, rfl, rfl⟩ := Value.slice.inj (List.cons.inj h1).1
    exact .inr ⟨ad, rfl, hle⟩
set_option maxRecDepth 100000 in
theorem pol_form {k n : Int} {b : Bool} {vr : Value} {d : DataW H} {p : List MemPlace} (h : DataW.Trod enc Tryz.prog w base spare held 33 (PolV k n b vr) d p) : ∀ a n c, vr = .slice a n c → SForm a n c := by
  obtain ⟨fuel, hf⟩ := h
  have hf : DataW.trod enc Tryz.prog w base spare held fuel 33 [.int .i64 k, .int .i64 n, .bool b, vr] = some (d, p) := hf
  obtain ⟨xs, m, _, _, hlen, hxl, hg⟩ := DataW.trod_struct Tryz.underlying33 hf
  have hrl : Tryz.prog.cellsOf 31 = 1 := by kernel_rfl
  match xs, hxl with
  | [x0, x1, x2], _ =>
  have g2 : DataW.trod enc Tryz.prog w base spare held m 31 [vr] = some x2 := by
    have hh : DataW.trod enc Tryz.prog w base spare held m 31 (([.int .i64 k, .int .i64 n, .bool b, vr].drop 3).take (Tryz.prog.cellsOf 31)) = some x2 := hg 2 _ rfl
    rw [hrl] at hh
    exact hh
  exact form_of_trod g2
end
end Go.Proofs.YtmjipkdejggbfaaGreatDoor
