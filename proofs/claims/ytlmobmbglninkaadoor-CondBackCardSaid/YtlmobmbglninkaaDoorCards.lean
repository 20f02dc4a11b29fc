/-
  DERIVED. GIVEN WITH THE SEED: THE CARDS: each row of YtlmobmbglninkaaDoorRows.lean that lists a variable, with what it lists TIED to the program's text (the seventh form; the later family's looks); each row that meets fmt, with fmt's text TOLD by the authors' own Lean function (tested against real Go, not proved from fmt's source: count such statements apart). THE CARD IS WHAT COUNTS. Prove the row's statement (the work); the ties are given (YtlmobmbglninkaaDoorTie.lean); close each card by the builder's one call (the guide's Derived/Test/ToyasCard.lean, 'card_holds'). Laid BY PROGRAM, IN A SANDBOX (cutbox-door.mjs). By AI agents, Wed Nov 11 2026. No macro, syntax, notation, axiom, sorry.
-/
import Derived.Test.YtlmobmbglninkaaDoorRows
import GoSem.ClaimSeven
namespace Go.Proofs.YtlmobmbglninkaaDoor
namespace Rows

/-- THE TIED CARD OF 'strainerlaw10.CondReads'. -/
def condReadsCard : Claim7 := { stood := { row := condReadsRow, standIns := [], harness := (true, "570df135e6f02cde6644cc8780b248ef77c3f0e6f9c017bbafb11285f6de5d8f"), looks := true }, kinds := [], alts := [], laidByText := true, laidKinds := [.data, .data, .data, .data, .sentinel, .sentinel, .pinned], laidTests := true, laidLooks := .later }
def CondReadsCardSaid : Prop := Claim7.holds Tryd.pinned (.plain (OpenSpec.ofChange condReadsSpec)) condReadsCard

/-- THE TIED CARD OF 'strainerlaw10.CondOpposite'. -/
def condOppositeCard : Claim7 := { stood := { row := condOppositeRow, standIns := [], harness := (true, "570df135e6f02cde6644cc8780b248ef77c3f0e6f9c017bbafb11285f6de5d8f"), looks := true }, kinds := [], alts := [], laidByText := true, laidKinds := [.data, .data, .data, .data, .sentinel, .sentinel, .pinned], laidTests := true, laidLooks := .later }
def CondOppositeCardSaid : Prop := Claim7.holds Tryd.pinned (.plain (OpenSpec.ofChange condOppositeSpec)) condOppositeCard

/-- THE TIED CARD OF 'strainerlaw10.CondMasks'. -/
def condMasksCard : Claim7 := { stood := { row := condMasksRow, standIns := [], harness := (true, "570df135e6f02cde6644cc8780b248ef77c3f0e6f9c017bbafb11285f6de5d8f"), looks := true }, kinds := [], alts := [], laidByText := true, laidKinds := [.data, .data, .data, .data, .sentinel, .sentinel, .pinned], laidTests := true, laidLooks := .later }
def CondMasksCardSaid : Prop := Claim7.holds Tryd.pinned (.plain (OpenSpec.ofChange condMasksSpec)) condMasksCard

/-- THE TIED CARD OF 'strainerlaw10.CondNumbers'. -/
def condNumbersCard : Claim7 := { stood := { row := condNumbersRow, standIns := [], harness := (true, "570df135e6f02cde6644cc8780b248ef77c3f0e6f9c017bbafb11285f6de5d8f"), looks := true }, kinds := [], alts := [], laidByText := true, laidKinds := [.data, .data, .data, .data, .sentinel, .sentinel, .pinned], laidTests := true, laidLooks := .later }
def CondNumbersCardSaid : Prop := Claim7.holds Tryd.pinned (.plain (OpenSpec.ofChange condNumbersSpec)) condNumbersCard

/-- THE TIED CARD OF 'strainerlaw10.CondGrows'. -/
def condGrowsCard : Claim7 := { stood := { row := condGrowsRow, standIns := [], harness := (true, "570df135e6f02cde6644cc8780b248ef77c3f0e6f9c017bbafb11285f6de5d8f"), looks := true }, kinds := [], alts := [], laidByText := true, laidKinds := [.data, .data, .data, .data, .sentinel, .sentinel, .pinned], laidTests := true, laidLooks := .later }
def CondGrowsCardSaid : Prop := Claim7.holds Tryd.pinned (.plain (OpenSpec.ofChange condGrowsSpec)) condGrowsCard

/-- THE TIED CARD OF 'strainerlaw10.CondBack'. -/
def condBackCard : Claim7 := { stood := { row := condBackRow, standIns := [], harness := (true, "570df135e6f02cde6644cc8780b248ef77c3f0e6f9c017bbafb11285f6de5d8f"), looks := true }, kinds := [], alts := [], laidByText := true, laidKinds := [.data, .data, .data, .data, .sentinel, .sentinel, .pinned], laidTests := true, laidLooks := .later }
def CondBackCardSaid : Prop := Claim7.holds Tryd.pinned (.plain (OpenSpec.ofChange condBackSpec)) condBackCard

/-- THE SECOND FORM's CARD OF 'strainerlaw10.CondReads'. -/
def condReadsUptoCard : Claim7 := { stood := { row := condReadsUptoRow, standIns := [], harness := (true, "570df135e6f02cde6644cc8780b248ef77c3f0e6f9c017bbafb11285f6de5d8f"), looks := true }, kinds := [], alts := [], laidByText := true, laidKinds := [.data, .data, .data, .data, .sentinel, .sentinel, .pinned], laidTests := true, laidLooks := .later }
def CondReadsUptoCardSaid : Prop := Claim7.holds Tryd.pinned (.plain (OpenSpec.upto condReadsSpec)) condReadsUptoCard

/-- THE SECOND FORM's CARD OF 'strainerlaw10.CondOpposite'. -/
def condOppositeUptoCard : Claim7 := { stood := { row := condOppositeUptoRow, standIns := [], harness := (true, "570df135e6f02cde6644cc8780b248ef77c3f0e6f9c017bbafb11285f6de5d8f"), looks := true }, kinds := [], alts := [], laidByText := true, laidKinds := [.data, .data, .data, .data, .sentinel, .sentinel, .pinned], laidTests := true, laidLooks := .later }
def CondOppositeUptoCardSaid : Prop := Claim7.holds Tryd.pinned (.plain (OpenSpec.upto condOppositeSpec)) condOppositeUptoCard

/-- THE SECOND FORM's CARD OF 'strainerlaw10.CondMasks'. -/
def condMasksUptoCard : Claim7 := { stood := { row := condMasksUptoRow, standIns := [], harness := (true, "570df135e6f02cde6644cc8780b248ef77c3f0e6f9c017bbafb11285f6de5d8f"), looks := true }, kinds := [], alts := [], laidByText := true, laidKinds := [.data, .data, .data, .data, .sentinel, .sentinel, .pinned], laidTests := true, laidLooks := .later }
def CondMasksUptoCardSaid : Prop := Claim7.holds Tryd.pinned (.plain (OpenSpec.upto condMasksSpec)) condMasksUptoCard

/-- THE SECOND FORM's CARD OF 'strainerlaw10.CondNumbers'. -/
def condNumbersUptoCard : Claim7 := { stood := { row := condNumbersUptoRow, standIns := [], harness := (true, "570df135e6f02cde6644cc8780b248ef77c3f0e6f9c017bbafb11285f6de5d8f"), looks := true }, kinds := [], alts := [], laidByText := true, laidKinds := [.data, .data, .data, .data, .sentinel, .sentinel, .pinned], laidTests := true, laidLooks := .later }
def CondNumbersUptoCardSaid : Prop := Claim7.holds Tryd.pinned (.plain (OpenSpec.upto condNumbersSpec)) condNumbersUptoCard

/-- THE SECOND FORM's CARD OF 'strainerlaw10.CondGrows'. -/
def condGrowsUptoCard : Claim7 := { stood := { row := condGrowsUptoRow, standIns := [], harness := (true, "570df135e6f02cde6644cc8780b248ef77c3f0e6f9c017bbafb11285f6de5d8f"), looks := true }, kinds := [], alts := [], laidByText := true, laidKinds := [.data, .data, .data, .data, .sentinel, .sentinel, .pinned], laidTests := true, laidLooks := .later }
def CondGrowsUptoCardSaid : Prop := Claim7.holds Tryd.pinned (.plain (OpenSpec.upto condGrowsSpec)) condGrowsUptoCard

/-- THE SECOND FORM's CARD OF 'strainerlaw10.CondBack'. -/
def condBackUptoCard : Claim7 := { stood := { row := condBackUptoRow, standIns := [], harness := (true, "570df135e6f02cde6644cc8780b248ef77c3f0e6f9c017bbafb11285f6de5d8f"), looks := true }, kinds := [], alts := [], laidByText := true, laidKinds := [.data, .data, .data, .data, .sentinel, .sentinel, .pinned], laidTests := true, laidLooks := .later }
def CondBackUptoCardSaid : Prop := Claim7.holds Tryd.pinned (.plain (OpenSpec.upto condBackSpec)) condBackUptoCard
end Rows
end Go.Proofs.YtlmobmbglninkaaDoor
