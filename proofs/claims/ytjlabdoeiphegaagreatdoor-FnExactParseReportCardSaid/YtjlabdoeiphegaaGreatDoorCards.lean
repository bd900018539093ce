/-
  DERIVED. GIVEN WITH THE SEED: THE CARDS: each row of YtjlabdoeiphegaaGreatDoorRows.lean that lists a variable, with what it lists TIED to the program's text (the seventh form; the later family's looks); each row that meets fmt, with fmt's text TOLD by the authors' own Lean function (tested against real Go, not proved from fmt's source: count such statements apart). THE CARD IS WHAT COUNTS. Prove the row's statement (the work); the ties are given (YtjlabdoeiphegaaGreatDoorTie.lean); close each card by the builder's one call (the guide's Derived/Test/ToyasCard.lean, 'card_holds'). Laid BY PROGRAM, IN A SANDBOX (cutbox-door.mjs). By AI agents, Wed Nov 11 2026. No macro, syntax, notation, axiom, sorry.
-/
import Derived.Test.YtjlabdoeiphegaaGreatDoorRows
import GoSem.ClaimSeven
namespace Go.Proofs.YtjlabdoeiphegaaGreatDoor
namespace Rows

/-- THE TIED CARD OF 'laws.FnExactParseReport'. -/
def fnExactParseReportCard : Claim7 := { stood := { row := fnExactParseReportRow, standIns := [], harness := (true, "7763377871fc6dd1020e137af40c9fde247f33351d429c048147ae23061dbb1f"), looks := true }, kinds := [], alts := [], laidByText := true, laidKinds := [.data, .data, .data, .data, .sentinel, .sentinel, .data, .pinned], laidTests := true, laidLooks := .later }
def FnExactParseReportCardSaid : Prop := Claim7.holds Tryz.pinned (.plain (OpenSpec.ofChange fnExactParseReportSpec)) fnExactParseReportCard

/-- THE TIED CARD OF 'laws.FnExactRetreatAll'. -/
def fnExactRetreatAllCard : Claim7 := { stood := { row := fnExactRetreatAllRow, standIns := [], harness := (true, "7763377871fc6dd1020e137af40c9fde247f33351d429c048147ae23061dbb1f"), looks := true }, kinds := [], alts := [], laidByText := true, laidKinds := [.data], laidTests := true, laidLooks := .later }
def FnExactRetreatAllCardSaid : Prop := Claim7.holds Tryz.pinned (.plain (OpenSpec.ofChange fnExactRetreatAllSpec)) fnExactRetreatAllCard

/-- THE TIED CARD OF 'laws.FnUnseenMoves'. -/
def fnUnseenMovesCard : Claim7 := { stood := { row := fnUnseenMovesRow, standIns := [], harness := (true, "7763377871fc6dd1020e137af40c9fde247f33351d429c048147ae23061dbb1f"), looks := true }, kinds := [], alts := [], laidByText := true, laidKinds := [.data, .data, .data, .data], laidTests := true, laidLooks := .later }
def FnUnseenMovesCardSaid : Prop := Claim7.holds Tryz.pinned (.plain (OpenSpec.ofChange fnUnseenMovesSpec)) fnUnseenMovesCard

/-- THE SECOND FORM's CARD OF 'laws.FnExactParseReport'. -/
def fnExactParseReportUptoCard : Claim7 := { stood := { row := fnExactParseReportUptoRow, standIns := [], harness := (true, "7763377871fc6dd1020e137af40c9fde247f33351d429c048147ae23061dbb1f"), looks := true }, kinds := [], alts := [], laidByText := true, laidKinds := [.data, .data, .data, .data, .sentinel, .sentinel, .data, .pinned], laidTests := true, laidLooks := .later }
def FnExactParseReportUptoCardSaid : Prop := Claim7.holds Tryz.pinned (.plain (OpenSpec.upto fnExactParseReportSpec)) fnExactParseReportUptoCard

/-- THE SECOND FORM's CARD OF 'laws.FnExactRetreatAll'. -/
def fnExactRetreatAllUptoCard : Claim7 := { stood := { row := fnExactRetreatAllUptoRow, standIns := [], harness := (true, "7763377871fc6dd1020e137af40c9fde247f33351d429c048147ae23061dbb1f"), looks := true }, kinds := [], alts := [], laidByText := true, laidKinds := [.data], laidTests := true, laidLooks := .later }
def FnExactRetreatAllUptoCardSaid : Prop := Claim7.holds Tryz.pinned (.plain (OpenSpec.upto fnExactRetreatAllSpec)) fnExactRetreatAllUptoCard

/-- THE SECOND FORM's CARD OF 'laws.FnUnseenMoves'. -/
def fnUnseenMovesUptoCard : Claim7 := { stood := { row := fnUnseenMovesUptoRow, standIns := [], harness := (true, "7763377871fc6dd1020e137af40c9fde247f33351d429c048147ae23061dbb1f"), looks := true }, kinds := [], alts := [], laidByText := true, laidKinds := [.data, .data, .data, .data], laidTests := true, laidLooks := .later }
def FnUnseenMovesUptoCardSaid : Prop := Claim7.holds Tryz.pinned (.plain (OpenSpec.upto fnUnseenMovesSpec)) fnUnseenMovesUptoCard
end Rows
end Go.Proofs.YtjlabdoeiphegaaGreatDoor
