/-
  DERIVED. GIVEN WITH THE SEED: THE CARDS: each row of YtockjpnbfllmaaaGreatDoorRows.lean that lists a variable, with what it lists TIED to the program's text (the seventh form; the later family's looks); each row that meets fmt, with fmt's text TOLD by the authors' own Lean function (tested against real Go, not proved from fmt's source: count such statements apart). THE CARD IS WHAT COUNTS. Prove the row's statement (the work); the ties are given (YtockjpnbfllmaaaGreatDoorTie.lean); close each card by the builder's one call (the guide's Derived/Test/ToyasCard.lean, 'card_holds'). Laid BY PROGRAM, IN A SANDBOX (cutbox-door.mjs). By AI agents, Wed Nov 11 2026. No macro, syntax, notation, axiom, sorry.
-/
import Derived.Test.YtockjpnbfllmaaaGreatDoorRows
import GoSem.ClaimSeven
namespace Go.Proofs.YtockjpnbfllmaaaGreatDoor
namespace Rows

/-- THE TIED CARD OF 'laws.FnExactReportText'. -/
def fnExactReportTextCard : Claim7 := { stood := { row := fnExactReportTextRow, standIns := [], harness := (true, "80cb33bb1eb7f7a6ad0b8099af4c5cc10edd08b45e57cbae486f9d11672376b4"), looks := false }, kinds := [], alts := [], laidByText := true, laidKinds := [.data, .data, .data, .data], laidTests := true, laidLooks := .later }
def FnExactReportTextCardSaid : Prop := Claim7.holds Tryz.pinned (.plain (OpenSpec.ofChange fnExactReportTextSpec)) fnExactReportTextCard

/-- THE TIED CARD OF 'laws.FnExactReportOf'. -/
def fnExactReportOfCard : Claim7 := { stood := { row := fnExactReportOfRow, standIns := [], harness := (true, "80cb33bb1eb7f7a6ad0b8099af4c5cc10edd08b45e57cbae486f9d11672376b4"), looks := false }, kinds := [], alts := [], laidByText := true, laidKinds := [.data, .data, .data, .data], laidTests := true, laidLooks := .later }
def FnExactReportOfCardSaid : Prop := Claim7.holds Tryz.pinned (.plain (OpenSpec.ofChange fnExactReportOfSpec)) fnExactReportOfCard

/-- THE TIED CARD OF 'laws.FnExactSameReport'. -/
def fnExactSameReportCard : Claim7 := { stood := { row := fnExactSameReportRow, standIns := [], harness := (true, "80cb33bb1eb7f7a6ad0b8099af4c5cc10edd08b45e57cbae486f9d11672376b4"), looks := false }, kinds := [], alts := [], laidByText := true, laidKinds := [.data, .data, .data, .data], laidTests := true, laidLooks := .later }
def FnExactSameReportCardSaid : Prop := Claim7.holds Tryz.pinned (.plain (OpenSpec.ofChange fnExactSameReportSpec)) fnExactSameReportCard

/-- THE SECOND FORM's CARD OF 'laws.FnExactReportText'. -/
def fnExactReportTextUptoCard : Claim7 := { stood := { row := fnExactReportTextUptoRow, standIns := [], harness := (true, "80cb33bb1eb7f7a6ad0b8099af4c5cc10edd08b45e57cbae486f9d11672376b4"), looks := false }, kinds := [], alts := [], laidByText := true, laidKinds := [.data, .data, .data, .data], laidTests := true, laidLooks := .later }
def FnExactReportTextUptoCardSaid : Prop := Claim7.holds Tryz.pinned (.plain (OpenSpec.upto fnExactReportTextSpec)) fnExactReportTextUptoCard

/-- THE SECOND FORM's CARD OF 'laws.FnExactReportOf'. -/
def fnExactReportOfUptoCard : Claim7 := { stood := { row := fnExactReportOfUptoRow, standIns := [], harness := (true, "80cb33bb1eb7f7a6ad0b8099af4c5cc10edd08b45e57cbae486f9d11672376b4"), looks := false }, kinds := [], alts := [], laidByText := true, laidKinds := [.data, .data, .data, .data], laidTests := true, laidLooks := .later }
def FnExactReportOfUptoCardSaid : Prop := Claim7.holds Tryz.pinned (.plain (OpenSpec.upto fnExactReportOfSpec)) fnExactReportOfUptoCard

/-- THE SECOND FORM's CARD OF 'laws.FnExactSameReport'. -/
def fnExactSameReportUptoCard : Claim7 := { stood := { row := fnExactSameReportUptoRow, standIns := [], harness := (true, "80cb33bb1eb7f7a6ad0b8099af4c5cc10edd08b45e57cbae486f9d11672376b4"), looks := false }, kinds := [], alts := [], laidByText := true, laidKinds := [.data, .data, .data, .data], laidTests := true, laidLooks := .later }
def FnExactSameReportUptoCardSaid : Prop := Claim7.holds Tryz.pinned (.plain (OpenSpec.upto fnExactSameReportSpec)) fnExactSameReportUptoCard
end Rows
end Go.Proofs.YtockjpnbfllmaaaGreatDoor
