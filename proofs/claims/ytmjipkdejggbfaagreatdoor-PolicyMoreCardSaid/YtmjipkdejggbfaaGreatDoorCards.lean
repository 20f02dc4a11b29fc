/-
  DERIVED. GIVEN WITH THE SEED: THE CARDS: each row of YtmjipkdejggbfaaGreatDoorRows.lean that lists a variable, with what it lists TIED to the program's text (the seventh form; the later family's looks); each row that meets fmt, with fmt's text TOLD by the authors' own Lean function (tested against real Go, not proved from fmt's source: count such statements apart). THE CARD IS WHAT COUNTS. Prove the row's statement (the work); the ties are given (YtmjipkdejggbfaaGreatDoorTie.lean); close each card by the builder's one call (the guide's Derived/Test/ToyasCard.lean, 'card_holds'). Laid BY PROGRAM, IN A SANDBOX (cutbox-door.mjs). By AI agents, Wed Nov 11 2026. No macro, syntax, notation, axiom, sorry.
-/
import Derived.Test.YtmjipkdejggbfaaGreatDoorRows
import GoSem.ClaimSeven
namespace Go.Proofs.YtmjipkdejggbfaaGreatDoor
namespace Rows

/-- THE TIED CARD OF 'strainerlaw14.PolicyParses'. -/
def policyParsesCard : Claim7 := { stood := { row := policyParsesRow, standIns := [], harness := (true, "09c8420cc894d3bf9d7a0f94c65d140ccfe9ae9cfff59de77cbc2c0aaec37647"), looks := true }, kinds := [], alts := [], laidByText := true, laidKinds := [.data, .data, .data, .data, .sentinel, .sentinel, .pinned], laidTests := true, laidLooks := .later }
def PolicyParsesCardSaid : Prop := Claim7.holds Tryz.pinned (.plain (OpenSpec.ofChange policyParsesSpec)) policyParsesCard

/-- THE TIED CARD OF 'strainerlaw14.PolicySame'. -/
def policySameCard : Claim7 := { stood := { row := policySameRow, standIns := [], harness := (true, "09c8420cc894d3bf9d7a0f94c65d140ccfe9ae9cfff59de77cbc2c0aaec37647"), looks := true }, kinds := [], alts := [], laidByText := true, laidKinds := [.data, .data, .data, .data, .sentinel, .sentinel, .pinned], laidTests := true, laidLooks := .later }
def PolicySameCardSaid : Prop := Claim7.holds Tryz.pinned (.plain (OpenSpec.ofChange policySameSpec)) policySameCard

/-- THE TIED CARD OF 'strainerlaw14.PolicyBack'. -/
def policyBackCard : Claim7 := { stood := { row := policyBackRow, standIns := [], harness := (true, "09c8420cc894d3bf9d7a0f94c65d140ccfe9ae9cfff59de77cbc2c0aaec37647"), looks := true }, kinds := [], alts := [], laidByText := true, laidKinds := [.data, .data, .data, .data, .sentinel, .sentinel, .pinned], laidTests := true, laidLooks := .later }
def PolicyBackCardSaid : Prop := Claim7.holds Tryz.pinned (.plain (OpenSpec.ofChange policyBackSpec)) policyBackCard

/-- THE TIED CARD OF 'strainerlaw14.PolicyNotes'. -/
def policyNotesCard : Claim7 := { stood := { row := policyNotesRow, standIns := [], harness := (true, "09c8420cc894d3bf9d7a0f94c65d140ccfe9ae9cfff59de77cbc2c0aaec37647"), looks := true }, kinds := [], alts := [], laidByText := true, laidKinds := [.data, .data, .data, .data, .sentinel, .sentinel, .pinned], laidTests := true, laidLooks := .later }
def PolicyNotesCardSaid : Prop := Claim7.holds Tryz.pinned (.plain (OpenSpec.ofChange policyNotesSpec)) policyNotesCard

/-- THE TIED CARD OF 'strainerlaw14.PolicyMore'. -/
def policyMoreCard : Claim7 := { stood := { row := policyMoreRow, standIns := [], harness := (true, "09c8420cc894d3bf9d7a0f94c65d140ccfe9ae9cfff59de77cbc2c0aaec37647"), looks := true }, kinds := [], alts := [], laidByText := true, laidKinds := [.data, .data, .data, .data, .sentinel, .sentinel, .pinned], laidTests := true, laidLooks := .later }
def PolicyMoreCardSaid : Prop := Claim7.holds Tryz.pinned (.plain (OpenSpec.ofChange policyMoreSpec)) policyMoreCard

/-- THE TIED CARD OF 'strainerlaw14.PolicyAgain'. -/
def policyAgainCard : Claim7 := { stood := { row := policyAgainRow, standIns := [], harness := (true, "09c8420cc894d3bf9d7a0f94c65d140ccfe9ae9cfff59de77cbc2c0aaec37647"), looks := true }, kinds := [], alts := [], laidByText := true, laidKinds := [.data, .data, .data, .data, .sentinel, .sentinel, .pinned], laidTests := true, laidLooks := .later }
def PolicyAgainCardSaid : Prop := Claim7.holds Tryz.pinned (.plain (OpenSpec.ofChange policyAgainSpec)) policyAgainCard

/-- THE SECOND FORM's CARD OF 'strainerlaw14.PolicyParses'. -/
def policyParsesUptoCard : Claim7 := { stood := { row := policyParsesUptoRow, standIns := [], harness := (true, "09c8420cc894d3bf9d7a0f94c65d140ccfe9ae9cfff59de77cbc2c0aaec37647"), looks := true }, kinds := [], alts := [], laidByText := true, laidKinds := [.data, .data, .data, .data, .sentinel, .sentinel, .pinned], laidTests := true, laidLooks := .later }
def PolicyParsesUptoCardSaid : Prop := Claim7.holds Tryz.pinned (.plain (OpenSpec.upto policyParsesSpec)) policyParsesUptoCard

/-- THE SECOND FORM's CARD OF 'strainerlaw14.PolicySame'. -/
def policySameUptoCard : Claim7 := { stood := { row := policySameUptoRow, standIns := [], harness := (true, "09c8420cc894d3bf9d7a0f94c65d140ccfe9ae9cfff59de77cbc2c0aaec37647"), looks := true }, kinds := [], alts := [], laidByText := true, laidKinds := [.data, .data, .data, .data, .sentinel, .sentinel, .pinned], laidTests := true, laidLooks := .later }
def PolicySameUptoCardSaid : Prop := Claim7.holds Tryz.pinned (.plain (OpenSpec.upto policySameSpec)) policySameUptoCard

/-- THE SECOND FORM's CARD OF 'strainerlaw14.PolicyBack'. -/
def policyBackUptoCard : Claim7 := { stood := { row := policyBackUptoRow, standIns := [], harness := (true, "09c8420cc894d3bf9d7a0f94c65d140ccfe9ae9cfff59de77cbc2c0aaec37647"), looks := true }, kinds := [], alts := [], laidByText := true, laidKinds := [.data, .data, .data, .data, .sentinel, .sentinel, .pinned], laidTests := true, laidLooks := .later }
def PolicyBackUptoCardSaid : Prop := Claim7.holds Tryz.pinned (.plain (OpenSpec.upto policyBackSpec)) policyBackUptoCard

/-- THE SECOND FORM's CARD OF 'strainerlaw14.PolicyNotes'. -/
def policyNotesUptoCard : Claim7 := { stood := { row := policyNotesUptoRow, standIns := [], harness := (true, "09c8420cc894d3bf9d7a0f94c65d140ccfe9ae9cfff59de77cbc2c0aaec37647"), looks := true }, kinds := [], alts := [], laidByText := true, laidKinds := [.data, .data, .data, .data, .sentinel, .sentinel, .pinned], laidTests := true, laidLooks := .later }
def PolicyNotesUptoCardSaid : Prop := Claim7.holds Tryz.pinned (.plain (OpenSpec.upto policyNotesSpec)) policyNotesUptoCard

/-- THE SECOND FORM's CARD OF 'strainerlaw14.PolicyMore'. -/
def policyMoreUptoCard : Claim7 := { stood := { row := policyMoreUptoRow, standIns := [], harness := (true, "09c8420cc894d3bf9d7a0f94c65d140ccfe9ae9cfff59de77cbc2c0aaec37647"), looks := true }, kinds := [], alts := [], laidByText := true, laidKinds := [.data, .data, .data, .data, .sentinel, .sentinel, .pinned], laidTests := true, laidLooks := .later }
def PolicyMoreUptoCardSaid : Prop := Claim7.holds Tryz.pinned (.plain (OpenSpec.upto policyMoreSpec)) policyMoreUptoCard

/-- THE SECOND FORM's CARD OF 'strainerlaw14.PolicyAgain'. -/
def policyAgainUptoCard : Claim7 := { stood := { row := policyAgainUptoRow, standIns := [], harness := (true, "09c8420cc894d3bf9d7a0f94c65d140ccfe9ae9cfff59de77cbc2c0aaec37647"), looks := true }, kinds := [], alts := [], laidByText := true, laidKinds := [.data, .data, .data, .data, .sentinel, .sentinel, .pinned], laidTests := true, laidLooks := .later }
def PolicyAgainUptoCardSaid : Prop := Claim7.holds Tryz.pinned (.plain (OpenSpec.upto policyAgainSpec)) policyAgainUptoCard
end Rows
end Go.Proofs.YtmjipkdejggbfaaGreatDoor
