/-
  DERIVED. GIVEN WITH THE SEED: THE CARDS: each row of YtkgmbogmeppmcaaDoorRows.lean that lists a variable, with what it lists TIED to the program's text (the seventh form; the later family's looks); each row that meets fmt, with fmt's text TOLD by the authors' own Lean function (tested against real Go, not proved from fmt's source: count such statements apart). THE CARD IS WHAT COUNTS. Prove the row's statement (the work); the ties are given (YtkgmbogmeppmcaaDoorTie.lean); close each card by the builder's one call (the guide's Derived/Test/ToyasCard.lean, 'card_holds'). Laid BY PROGRAM, IN A SANDBOX (cutbox-door.mjs). By AI agents, Wed Nov 11 2026. No macro, syntax, notation, axiom, sorry.
-/
import Derived.Test.YtkgmbogmeppmcaaDoorRows
import GoSem.ClaimSeven
namespace Go.Proofs.YtkgmbogmeppmcaaDoor
namespace Rows

/-- THE TIED CARD OF 'strainerlaw09.ActCodes'. -/
def actCodesCard : Claim7 := { stood := { row := actCodesRow, standIns := [], harness := (true, "13ffda7798d97c0d90a9f7f7ef1d8f7045a614021a1ef5054ad8675d96f6ea4d"), looks := true }, kinds := [], alts := [], laidByText := true, laidKinds := [.data, .data, .data], laidTests := true, laidLooks := .later }
def ActCodesCardSaid : Prop := Claim7.holds Tryd.pinned (.plain (OpenSpec.ofChange actCodesSpec)) actCodesCard

/-- THE TIED CARD OF 'strainerlaw09.ActBack'. -/
def actBackCard : Claim7 := { stood := { row := actBackRow, standIns := [], harness := (true, "13ffda7798d97c0d90a9f7f7ef1d8f7045a614021a1ef5054ad8675d96f6ea4d"), looks := true }, kinds := [], alts := [], laidByText := true, laidKinds := [.data, .data, .data], laidTests := true, laidLooks := .later }
def ActBackCardSaid : Prop := Claim7.holds Tryd.pinned (.plain (OpenSpec.ofChange actBackSpec)) actBackCard

/-- THE TIED CARD OF 'strainerlaw13.LexLines'. -/
def lexLinesCard : Claim7 := { stood := { row := lexLinesRow, standIns := [], harness := (true, "13ffda7798d97c0d90a9f7f7ef1d8f7045a614021a1ef5054ad8675d96f6ea4d"), looks := true }, kinds := [], alts := [], laidByText := true, laidKinds := [.data, .pinned], laidTests := true, laidLooks := .later }
def LexLinesCardSaid : Prop := Claim7.holds Tryd.pinned (.plain (OpenSpec.ofChange lexLinesSpec)) lexLinesCard

/-- THE TIED CARD OF 'strainerlaw13.LexLong'. -/
def lexLongCard : Claim7 := { stood := { row := lexLongRow, standIns := [], harness := (true, "13ffda7798d97c0d90a9f7f7ef1d8f7045a614021a1ef5054ad8675d96f6ea4d"), looks := true }, kinds := [], alts := [], laidByText := true, laidKinds := [.data, .pinned], laidTests := true, laidLooks := .later }
def LexLongCardSaid : Prop := Claim7.holds Tryd.pinned (.plain (OpenSpec.ofChange lexLongSpec)) lexLongCard

/-- THE TIED CARD OF 'strainerlaw13.LexJoins'. -/
def lexJoinsCard : Claim7 := { stood := { row := lexJoinsRow, standIns := [], harness := (true, "13ffda7798d97c0d90a9f7f7ef1d8f7045a614021a1ef5054ad8675d96f6ea4d"), looks := true }, kinds := [], alts := [], laidByText := true, laidKinds := [.data, .pinned], laidTests := true, laidLooks := .later }
def LexJoinsCardSaid : Prop := Claim7.holds Tryd.pinned (.plain (OpenSpec.ofChange lexJoinsSpec)) lexJoinsCard

/-- THE TIED CARD OF 'strainerlaw13.LexNotes'. -/
def lexNotesCard : Claim7 := { stood := { row := lexNotesRow, standIns := [], harness := (true, "13ffda7798d97c0d90a9f7f7ef1d8f7045a614021a1ef5054ad8675d96f6ea4d"), looks := true }, kinds := [], alts := [], laidByText := true, laidKinds := [.data, .pinned], laidTests := true, laidLooks := .later }
def LexNotesCardSaid : Prop := Claim7.holds Tryd.pinned (.plain (OpenSpec.ofChange lexNotesSpec)) lexNotesCard

/-- THE TIED CARD OF 'strainerlaw13.LexMore'. -/
def lexMoreCard : Claim7 := { stood := { row := lexMoreRow, standIns := [], harness := (true, "13ffda7798d97c0d90a9f7f7ef1d8f7045a614021a1ef5054ad8675d96f6ea4d"), looks := true }, kinds := [], alts := [], laidByText := true, laidKinds := [.data, .pinned], laidTests := true, laidLooks := .later }
def LexMoreCardSaid : Prop := Claim7.holds Tryd.pinned (.plain (OpenSpec.ofChange lexMoreSpec)) lexMoreCard

/-- THE TIED CARD OF 'strainerlaw09.ActReads'. -/
def actReadsCard : Claim7 := { stood := { row := actReadsRow, standIns := [], harness := (true, "13ffda7798d97c0d90a9f7f7ef1d8f7045a614021a1ef5054ad8675d96f6ea4d"), looks := true }, kinds := [], alts := [], laidByText := true, laidKinds := [.data, .data, .data, .data, .sentinel, .sentinel, .pinned], laidTests := true, laidLooks := .later }
def ActReadsCardSaid : Prop := Claim7.holds Tryd.pinned (.plain (OpenSpec.ofChange actReadsSpec)) actReadsCard

/-- THE TIED CARD OF 'strainerlaw09.ActWords'. -/
def actWordsCard : Claim7 := { stood := { row := actWordsRow, standIns := [], harness := (true, "13ffda7798d97c0d90a9f7f7ef1d8f7045a614021a1ef5054ad8675d96f6ea4d"), looks := true }, kinds := [], alts := [], laidByText := true, laidKinds := [.data, .data, .data, .data, .sentinel, .sentinel, .pinned], laidTests := true, laidLooks := .later }
def ActWordsCardSaid : Prop := Claim7.holds Tryd.pinned (.plain (OpenSpec.ofChange actWordsSpec)) actWordsCard

/-- THE SECOND FORM's CARD OF 'strainerlaw09.ActCodes'. -/
def actCodesUptoCard : Claim7 := { stood := { row := actCodesUptoRow, standIns := [], harness := (true, "13ffda7798d97c0d90a9f7f7ef1d8f7045a614021a1ef5054ad8675d96f6ea4d"), looks := true }, kinds := [], alts := [], laidByText := true, laidKinds := [.data, .data, .data], laidTests := true, laidLooks := .later }
def ActCodesUptoCardSaid : Prop := Claim7.holds Tryd.pinned (.plain (OpenSpec.upto actCodesSpec)) actCodesUptoCard

/-- THE SECOND FORM's CARD OF 'strainerlaw09.ActBack'. -/
def actBackUptoCard : Claim7 := { stood := { row := actBackUptoRow, standIns := [], harness := (true, "13ffda7798d97c0d90a9f7f7ef1d8f7045a614021a1ef5054ad8675d96f6ea4d"), looks := true }, kinds := [], alts := [], laidByText := true, laidKinds := [.data, .data, .data], laidTests := true, laidLooks := .later }
def ActBackUptoCardSaid : Prop := Claim7.holds Tryd.pinned (.plain (OpenSpec.upto actBackSpec)) actBackUptoCard

/-- THE SECOND FORM's CARD OF 'strainerlaw13.LexLines'. -/
def lexLinesUptoCard : Claim7 := { stood := { row := lexLinesUptoRow, standIns := [], harness := (true, "13ffda7798d97c0d90a9f7f7ef1d8f7045a614021a1ef5054ad8675d96f6ea4d"), looks := true }, kinds := [], alts := [], laidByText := true, laidKinds := [.data, .pinned], laidTests := true, laidLooks := .later }
def LexLinesUptoCardSaid : Prop := Claim7.holds Tryd.pinned (.plain (OpenSpec.upto lexLinesSpec)) lexLinesUptoCard

/-- THE SECOND FORM's CARD OF 'strainerlaw13.LexLong'. -/
def lexLongUptoCard : Claim7 := { stood := { row := lexLongUptoRow, standIns := [], harness := (true, "13ffda7798d97c0d90a9f7f7ef1d8f7045a614021a1ef5054ad8675d96f6ea4d"), looks := true }, kinds := [], alts := [], laidByText := true, laidKinds := [.data, .pinned], laidTests := true, laidLooks := .later }
def LexLongUptoCardSaid : Prop := Claim7.holds Tryd.pinned (.plain (OpenSpec.upto lexLongSpec)) lexLongUptoCard

/-- THE SECOND FORM's CARD OF 'strainerlaw13.LexJoins'. -/
def lexJoinsUptoCard : Claim7 := { stood := { row := lexJoinsUptoRow, standIns := [], harness := (true, "13ffda7798d97c0d90a9f7f7ef1d8f7045a614021a1ef5054ad8675d96f6ea4d"), looks := true }, kinds := [], alts := [], laidByText := true, laidKinds := [.data, .pinned], laidTests := true, laidLooks := .later }
def LexJoinsUptoCardSaid : Prop := Claim7.holds Tryd.pinned (.plain (OpenSpec.upto lexJoinsSpec)) lexJoinsUptoCard

/-- THE SECOND FORM's CARD OF 'strainerlaw13.LexNotes'. -/
def lexNotesUptoCard : Claim7 := { stood := { row := lexNotesUptoRow, standIns := [], harness := (true, "13ffda7798d97c0d90a9f7f7ef1d8f7045a614021a1ef5054ad8675d96f6ea4d"), looks := true }, kinds := [], alts := [], laidByText := true, laidKinds := [.data, .pinned], laidTests := true, laidLooks := .later }
def LexNotesUptoCardSaid : Prop := Claim7.holds Tryd.pinned (.plain (OpenSpec.upto lexNotesSpec)) lexNotesUptoCard

/-- THE SECOND FORM's CARD OF 'strainerlaw13.LexMore'. -/
def lexMoreUptoCard : Claim7 := { stood := { row := lexMoreUptoRow, standIns := [], harness := (true, "13ffda7798d97c0d90a9f7f7ef1d8f7045a614021a1ef5054ad8675d96f6ea4d"), looks := true }, kinds := [], alts := [], laidByText := true, laidKinds := [.data, .pinned], laidTests := true, laidLooks := .later }
def LexMoreUptoCardSaid : Prop := Claim7.holds Tryd.pinned (.plain (OpenSpec.upto lexMoreSpec)) lexMoreUptoCard

/-- THE SECOND FORM's CARD OF 'strainerlaw09.ActReads'. -/
def actReadsUptoCard : Claim7 := { stood := { row := actReadsUptoRow, standIns := [], harness := (true, "13ffda7798d97c0d90a9f7f7ef1d8f7045a614021a1ef5054ad8675d96f6ea4d"), looks := true }, kinds := [], alts := [], laidByText := true, laidKinds := [.data, .data, .data, .data, .sentinel, .sentinel, .pinned], laidTests := true, laidLooks := .later }
def ActReadsUptoCardSaid : Prop := Claim7.holds Tryd.pinned (.plain (OpenSpec.upto actReadsSpec)) actReadsUptoCard

/-- THE SECOND FORM's CARD OF 'strainerlaw09.ActWords'. -/
def actWordsUptoCard : Claim7 := { stood := { row := actWordsUptoRow, standIns := [], harness := (true, "13ffda7798d97c0d90a9f7f7ef1d8f7045a614021a1ef5054ad8675d96f6ea4d"), looks := true }, kinds := [], alts := [], laidByText := true, laidKinds := [.data, .data, .data, .data, .sentinel, .sentinel, .pinned], laidTests := true, laidLooks := .later }
def ActWordsUptoCardSaid : Prop := Claim7.holds Tryd.pinned (.plain (OpenSpec.upto actWordsSpec)) actWordsUptoCard
end Rows
end Go.Proofs.YtkgmbogmeppmcaaDoor
