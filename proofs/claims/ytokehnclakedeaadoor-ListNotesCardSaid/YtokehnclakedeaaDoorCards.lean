/-
  DERIVED. GIVEN WITH THE SEED: THE CARDS: each row of YtokehnclakedeaaDoorRows.lean that lists a variable, with what it lists TIED to the program's text (the seventh form; the later family's looks); each row that meets fmt, with fmt's text TOLD by the authors' own Lean function (tested against real Go, not proved from fmt's source: count such statements apart). THE CARD IS WHAT COUNTS. Prove the row's statement (the work); the ties are given (YtokehnclakedeaaDoorTie.lean); close each card by the builder's one call (the guide's Derived/Test/ToyasCard.lean, 'card_holds'). Laid BY PROGRAM, IN A SANDBOX (cutbox-door.mjs). By AI agents, Wed Nov 11 2026. No macro, syntax, notation, axiom, sorry.
-/
import Derived.Test.YtokehnclakedeaaDoorRows
import GoSem.ClaimSeven
namespace Go.Proofs.YtokehnclakedeaaDoor
namespace Rows

/-- THE TIED CARD OF 'strainerlaw03.ListLines'. -/
def listLinesCard : Claim7 := { stood := { row := listLinesRow, standIns := [], harness := (true, "0c283610befc7bdff3332439e4d8741dcfe92076058f9402aede587480b7f6e1"), looks := true }, kinds := [], alts := [], laidByText := true, laidKinds := [.data, .data, .data, .listed, .data], laidTests := true, laidLooks := .later }
def ListLinesCardSaid : Prop := Claim7.holds Tryd.pinned (.plain (OpenSpec.ofChange listLinesSpec)) listLinesCard

/-- THE TIED CARD OF 'strainerlaw03.ListApart'. -/
def listApartCard : Claim7 := { stood := { row := listApartRow, standIns := [], harness := (true, "0c283610befc7bdff3332439e4d8741dcfe92076058f9402aede587480b7f6e1"), looks := true }, kinds := [], alts := [], laidByText := true, laidKinds := [.data, .data, .data, .listed, .data], laidTests := true, laidLooks := .later }
def ListApartCardSaid : Prop := Claim7.holds Tryd.pinned (.plain (OpenSpec.ofChange listApartSpec)) listApartCard

/-- THE TIED CARD OF 'strainerlaw03.ListNotes'. -/
def listNotesCard : Claim7 := { stood := { row := listNotesRow, standIns := [], harness := (true, "0c283610befc7bdff3332439e4d8741dcfe92076058f9402aede587480b7f6e1"), looks := true }, kinds := [], alts := [], laidByText := true, laidKinds := [.data, .data, .data, .data, .sentinel, .sentinel, .listed, .data, .pinned], laidTests := true, laidLooks := .later }
def ListNotesCardSaid : Prop := Claim7.holds Tryd.pinned (.plain (OpenSpec.ofChange listNotesSpec)) listNotesCard

/-- THE SECOND FORM's CARD OF 'strainerlaw03.ListLines'. -/
def listLinesUptoCard : Claim7 := { stood := { row := listLinesUptoRow, standIns := [], harness := (true, "0c283610befc7bdff3332439e4d8741dcfe92076058f9402aede587480b7f6e1"), looks := true }, kinds := [], alts := [], laidByText := true, laidKinds := [.data, .data, .data, .listed, .data], laidTests := true, laidLooks := .later }
def ListLinesUptoCardSaid : Prop := Claim7.holds Tryd.pinned (.plain (OpenSpec.upto listLinesSpec)) listLinesUptoCard

/-- THE SECOND FORM's CARD OF 'strainerlaw03.ListApart'. -/
def listApartUptoCard : Claim7 := { stood := { row := listApartUptoRow, standIns := [], harness := (true, "0c283610befc7bdff3332439e4d8741dcfe92076058f9402aede587480b7f6e1"), looks := true }, kinds := [], alts := [], laidByText := true, laidKinds := [.data, .data, .data, .listed, .data], laidTests := true, laidLooks := .later }
def ListApartUptoCardSaid : Prop := Claim7.holds Tryd.pinned (.plain (OpenSpec.upto listApartSpec)) listApartUptoCard

/-- THE SECOND FORM's CARD OF 'strainerlaw03.ListNotes'. -/
def listNotesUptoCard : Claim7 := { stood := { row := listNotesUptoRow, standIns := [], harness := (true, "0c283610befc7bdff3332439e4d8741dcfe92076058f9402aede587480b7f6e1"), looks := true }, kinds := [], alts := [], laidByText := true, laidKinds := [.data, .data, .data, .data, .sentinel, .sentinel, .listed, .data, .pinned], laidTests := true, laidLooks := .later }
def ListNotesUptoCardSaid : Prop := Claim7.holds Tryd.pinned (.plain (OpenSpec.upto listNotesSpec)) listNotesUptoCard
end Rows
end Go.Proofs.YtokehnclakedeaaDoor
