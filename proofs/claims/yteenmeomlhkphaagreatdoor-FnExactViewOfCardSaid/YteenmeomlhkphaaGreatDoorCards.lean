/-
  DERIVED. GIVEN WITH THE SEED: THE CARDS: each row of YteenmeomlhkphaaGreatDoorRows.lean that lists a variable, with what it lists TIED to the program's text (the seventh form; the later family's looks); each row that meets fmt, with fmt's text TOLD by the authors' own Lean function (tested against real Go, not proved from fmt's source: count such statements apart). THE CARD IS WHAT COUNTS. Prove the row's statement (the work); the ties are given (YteenmeomlhkphaaGreatDoorTie.lean); close each card by the builder's one call (the guide's Derived/Test/ToyasCard.lean, 'card_holds'). Laid BY PROGRAM, IN A SANDBOX (cutbox-door.mjs). By AI agents, Wed Nov 11 2026. No macro, syntax, notation, axiom, sorry.
-/
import Derived.Test.YteenmeomlhkphaaGreatDoorRows
import GoSem.ClaimSeven
namespace Go.Proofs.YteenmeomlhkphaaGreatDoor
namespace Rows

/-- THE TIED CARD OF 'laws.FnExactParseReport'. -/
def fnExactParseReportCard : Claim7 := { stood := { row := fnExactParseReportRow, standIns := [], harness := (true, "f9ded02df2f47823796a6c8e03d8f555f368eb7a8fe0a2167ef800ae436f9aba"), looks := true }, kinds := [], alts := [], laidByText := true, laidKinds := [.data, .data, .data, .data, .sentinel, .sentinel, .data, .pinned], laidTests := true, laidLooks := .later }
def FnExactParseReportCardSaid : Prop := Claim7.holds Tryz.pinned (.plain (OpenSpec.ofChange fnExactParseReportSpec)) fnExactParseReportCard

/-- THE TIED CARD OF 'laws.FnExactStartMachine'. -/
def fnExactStartMachineCard : Claim7 := { stood := { row := fnExactStartMachineRow, standIns := [], harness := (true, "f9ded02df2f47823796a6c8e03d8f555f368eb7a8fe0a2167ef800ae436f9aba"), looks := true }, kinds := [], alts := [], laidByText := true, laidKinds := [.data], laidTests := true, laidLooks := .later }
def FnExactStartMachineCardSaid : Prop := Claim7.holds Tryz.pinned (.plain (OpenSpec.ofChange fnExactStartMachineSpec)) fnExactStartMachineCard

/-- THE TIED CARD OF 'laws.FnExactRetreatAll'. -/
def fnExactRetreatAllCard : Claim7 := { stood := { row := fnExactRetreatAllRow, standIns := [], harness := (true, "f9ded02df2f47823796a6c8e03d8f555f368eb7a8fe0a2167ef800ae436f9aba"), looks := true }, kinds := [], alts := [], laidByText := true, laidKinds := [.data], laidTests := true, laidLooks := .later }
def FnExactRetreatAllCardSaid : Prop := Claim7.holds Tryz.pinned (.plain (OpenSpec.ofChange fnExactRetreatAllSpec)) fnExactRetreatAllCard

/-- THE TIED CARD OF 'laws.FnExactUpdateMemory'. -/
def fnExactUpdateMemoryCard : Claim7 := { stood := { row := fnExactUpdateMemoryRow, standIns := [], harness := (true, "f9ded02df2f47823796a6c8e03d8f555f368eb7a8fe0a2167ef800ae436f9aba"), looks := true }, kinds := [], alts := [], laidByText := true, laidKinds := [.data], laidTests := true, laidLooks := .later }
def FnExactUpdateMemoryCardSaid : Prop := Claim7.holds Tryz.pinned (.plain (OpenSpec.ofChange fnExactUpdateMemorySpec)) fnExactUpdateMemoryCard

/-- THE TIED CARD OF 'laws.FnExactStepMachine'. -/
def fnExactStepMachineCard : Claim7 := { stood := { row := fnExactStepMachineRow, standIns := [], harness := (true, "f9ded02df2f47823796a6c8e03d8f555f368eb7a8fe0a2167ef800ae436f9aba"), looks := true }, kinds := [], alts := [], laidByText := true, laidKinds := [.data], laidTests := true, laidLooks := .later }
def FnExactStepMachineCardSaid : Prop := Claim7.holds Tryz.pinned (.plain (OpenSpec.ofChange fnExactStepMachineSpec)) fnExactStepMachineCard

/-- THE TIED CARD OF 'laws.FnExactRunMachine'. -/
def fnExactRunMachineCard : Claim7 := { stood := { row := fnExactRunMachineRow, standIns := [], harness := (true, "f9ded02df2f47823796a6c8e03d8f555f368eb7a8fe0a2167ef800ae436f9aba"), looks := true }, kinds := [], alts := [], laidByText := true, laidKinds := [.data], laidTests := true, laidLooks := .later }
def FnExactRunMachineCardSaid : Prop := Claim7.holds Tryz.pinned (.plain (OpenSpec.ofChange fnExactRunMachineSpec)) fnExactRunMachineCard

/-- THE TIED CARD OF 'laws.FnExactViewOf'. -/
def fnExactViewOfCard : Claim7 := { stood := { row := fnExactViewOfRow, standIns := [], harness := (true, "f9ded02df2f47823796a6c8e03d8f555f368eb7a8fe0a2167ef800ae436f9aba"), looks := true }, kinds := [], alts := [], laidByText := true, laidKinds := [.data], laidTests := true, laidLooks := .later }
def FnExactViewOfCardSaid : Prop := Claim7.holds Tryz.pinned (.plain (OpenSpec.ofChange fnExactViewOfSpec)) fnExactViewOfCard

/-- THE SECOND FORM's CARD OF 'laws.FnExactParseReport'. -/
def fnExactParseReportUptoCard : Claim7 := { stood := { row := fnExactParseReportUptoRow, standIns := [], harness := (true, "f9ded02df2f47823796a6c8e03d8f555f368eb7a8fe0a2167ef800ae436f9aba"), looks := true }, kinds := [], alts := [], laidByText := true, laidKinds := [.data, .data, .data, .data, .sentinel, .sentinel, .data, .pinned], laidTests := true, laidLooks := .later }
def FnExactParseReportUptoCardSaid : Prop := Claim7.holds Tryz.pinned (.plain (OpenSpec.upto fnExactParseReportSpec)) fnExactParseReportUptoCard

/-- THE SECOND FORM's CARD OF 'laws.FnExactStartMachine'. -/
def fnExactStartMachineUptoCard : Claim7 := { stood := { row := fnExactStartMachineUptoRow, standIns := [], harness := (true, "f9ded02df2f47823796a6c8e03d8f555f368eb7a8fe0a2167ef800ae436f9aba"), looks := true }, kinds := [], alts := [], laidByText := true, laidKinds := [.data], laidTests := true, laidLooks := .later }
def FnExactStartMachineUptoCardSaid : Prop := Claim7.holds Tryz.pinned (.plain (OpenSpec.upto fnExactStartMachineSpec)) fnExactStartMachineUptoCard

/-- THE SECOND FORM's CARD OF 'laws.FnExactRetreatAll'. -/
def fnExactRetreatAllUptoCard : Claim7 := { stood := { row := fnExactRetreatAllUptoRow, standIns := [], harness := (true, "f9ded02df2f47823796a6c8e03d8f555f368eb7a8fe0a2167ef800ae436f9aba"), looks := true }, kinds := [], alts := [], laidByText := true, laidKinds := [.data], laidTests := true, laidLooks := .later }
def FnExactRetreatAllUptoCardSaid : Prop := Claim7.holds Tryz.pinned (.plain (OpenSpec.upto fnExactRetreatAllSpec)) fnExactRetreatAllUptoCard

/-- THE SECOND FORM's CARD OF 'laws.FnExactUpdateMemory'. -/
def fnExactUpdateMemoryUptoCard : Claim7 := { stood := { row := fnExactUpdateMemoryUptoRow, standIns := [], harness := (true, "f9ded02df2f47823796a6c8e03d8f555f368eb7a8fe0a2167ef800ae436f9aba"), looks := true }, kinds := [], alts := [], laidByText := true, laidKinds := [.data], laidTests := true, laidLooks := .later }
def FnExactUpdateMemoryUptoCardSaid : Prop := Claim7.holds Tryz.pinned (.plain (OpenSpec.upto fnExactUpdateMemorySpec)) fnExactUpdateMemoryUptoCard

/-- THE SECOND FORM's CARD OF 'laws.FnExactStepMachine'. -/
def fnExactStepMachineUptoCard : Claim7 := { stood := { row := fnExactStepMachineUptoRow, standIns := [], harness := (true, "f9ded02df2f47823796a6c8e03d8f555f368eb7a8fe0a2167ef800ae436f9aba"), looks := true }, kinds := [], alts := [], laidByText := true, laidKinds := [.data], laidTests := true, laidLooks := .later }
def FnExactStepMachineUptoCardSaid : Prop := Claim7.holds Tryz.pinned (.plain (OpenSpec.upto fnExactStepMachineSpec)) fnExactStepMachineUptoCard

/-- THE SECOND FORM's CARD OF 'laws.FnExactRunMachine'. -/
def fnExactRunMachineUptoCard : Claim7 := { stood := { row := fnExactRunMachineUptoRow, standIns := [], harness := (true, "f9ded02df2f47823796a6c8e03d8f555f368eb7a8fe0a2167ef800ae436f9aba"), looks := true }, kinds := [], alts := [], laidByText := true, laidKinds := [.data], laidTests := true, laidLooks := .later }
def FnExactRunMachineUptoCardSaid : Prop := Claim7.holds Tryz.pinned (.plain (OpenSpec.upto fnExactRunMachineSpec)) fnExactRunMachineUptoCard

/-- THE SECOND FORM's CARD OF 'laws.FnExactViewOf'. -/
def fnExactViewOfUptoCard : Claim7 := { stood := { row := fnExactViewOfUptoRow, standIns := [], harness := (true, "f9ded02df2f47823796a6c8e03d8f555f368eb7a8fe0a2167ef800ae436f9aba"), looks := true }, kinds := [], alts := [], laidByText := true, laidKinds := [.data], laidTests := true, laidLooks := .later }
def FnExactViewOfUptoCardSaid : Prop := Claim7.holds Tryz.pinned (.plain (OpenSpec.upto fnExactViewOfSpec)) fnExactViewOfUptoCard
end Rows
end Go.Proofs.YteenmeomlhkphaaGreatDoor
