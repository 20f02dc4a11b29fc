/-
  DERIVED. GIVEN WITH THE SEED: THE CARDS: each row of YtclgigmgbebhgaaGreatDoorRows.lean that lists a variable, with what it lists TIED to the program's text (the seventh form; the later family's looks); each row that meets fmt, with fmt's text TOLD by the authors' own Lean function (tested against real Go, not proved from fmt's source: count such statements apart). THE CARD IS WHAT COUNTS. Prove the row's statement (the work); the ties are given (YtclgigmgbebhgaaGreatDoorTie.lean); close each card by the builder's one call (the guide's Derived/Test/ToyasCard.lean, 'card_holds'). Laid BY PROGRAM, IN A SANDBOX (cutbox-door.mjs). By AI agents, Wed Nov 11 2026. No macro, syntax, notation, axiom, sorry.
-/
import Derived.Test.YtclgigmgbebhgaaGreatDoorRows
import GoSem.ClaimSeven
namespace Go.Proofs.YtclgigmgbebhgaaGreatDoor
namespace Rows

/-- THE TIED CARD OF 'strainertop.TopAsks'. -/
def topAsksCard : Claim7 := { stood := { row := topAsksRow, standIns := [], harness := (true, "cd2954595237d0a42c1c53e27844a27d40ac072a399546546bea4b10fe9abae6"), looks := true }, kinds := [], alts := [], laidByText := true, laidKinds := [.data, .data, .data, .data, .pinned], laidTests := true, laidLooks := .later }
def TopAsksCardSaid : Prop := Claim7.holds Tryz.pinned (.plain (OpenSpec.ofChange topAsksSpec)) topAsksCard

/-- THE TIED CARD OF 'strainertop.TopOther'. -/
def topOtherCard : Claim7 := { stood := { row := topOtherRow, standIns := [], harness := (true, "cd2954595237d0a42c1c53e27844a27d40ac072a399546546bea4b10fe9abae6"), looks := true }, kinds := [], alts := [], laidByText := true, laidKinds := [.data, .data, .data, .data, .pinned], laidTests := true, laidLooks := .later }
def TopOtherCardSaid : Prop := Claim7.holds Tryz.pinned (.plain (OpenSpec.ofChange topOtherSpec)) topOtherCard

/-- THE TIED CARD OF 'strainertop.TopFirst'. -/
def topFirstCard : Claim7 := { stood := { row := topFirstRow, standIns := [], harness := (true, "cd2954595237d0a42c1c53e27844a27d40ac072a399546546bea4b10fe9abae6"), looks := true }, kinds := [], alts := [], laidByText := true, laidKinds := [.data, .data, .data, .data, .pinned], laidTests := true, laidLooks := .later }
def TopFirstCardSaid : Prop := Claim7.holds Tryz.pinned (.plain (OpenSpec.ofChange topFirstSpec)) topFirstCard

/-- THE SECOND FORM's CARD OF 'strainertop.TopAsks'. -/
def topAsksUptoCard : Claim7 := { stood := { row := topAsksUptoRow, standIns := [], harness := (true, "cd2954595237d0a42c1c53e27844a27d40ac072a399546546bea4b10fe9abae6"), looks := true }, kinds := [], alts := [], laidByText := true, laidKinds := [.data, .data, .data, .data, .pinned], laidTests := true, laidLooks := .later }
def TopAsksUptoCardSaid : Prop := Claim7.holds Tryz.pinned (.plain (OpenSpec.upto topAsksSpec)) topAsksUptoCard

/-- THE SECOND FORM's CARD OF 'strainertop.TopOther'. -/
def topOtherUptoCard : Claim7 := { stood := { row := topOtherUptoRow, standIns := [], harness := (true, "cd2954595237d0a42c1c53e27844a27d40ac072a399546546bea4b10fe9abae6"), looks := true }, kinds := [], alts := [], laidByText := true, laidKinds := [.data, .data, .data, .data, .pinned], laidTests := true, laidLooks := .later }
def TopOtherUptoCardSaid : Prop := Claim7.holds Tryz.pinned (.plain (OpenSpec.upto topOtherSpec)) topOtherUptoCard

/-- THE SECOND FORM's CARD OF 'strainertop.TopFirst'. -/
def topFirstUptoCard : Claim7 := { stood := { row := topFirstUptoRow, standIns := [], harness := (true, "cd2954595237d0a42c1c53e27844a27d40ac072a399546546bea4b10fe9abae6"), looks := true }, kinds := [], alts := [], laidByText := true, laidKinds := [.data, .data, .data, .data, .pinned], laidTests := true, laidLooks := .later }
def TopFirstUptoCardSaid : Prop := Claim7.holds Tryz.pinned (.plain (OpenSpec.upto topFirstSpec)) topFirstUptoCard
end Rows
end Go.Proofs.YtclgigmgbebhgaaGreatDoor
