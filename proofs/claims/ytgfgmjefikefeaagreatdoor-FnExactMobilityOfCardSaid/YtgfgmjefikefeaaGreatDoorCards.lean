/-
  DERIVED. GIVEN WITH THE SEED: THE CARDS: each row of YtgfgmjefikefeaaGreatDoorRows.lean that lists a variable, with what it lists TIED to the program's text (the seventh form; the later family's looks); each row that meets fmt, with fmt's text TOLD by the authors' own Lean function (tested against real Go, not proved from fmt's source: count such statements apart). THE CARD IS WHAT COUNTS. Prove the row's statement (the work); the ties are given (YtgfgmjefikefeaaGreatDoorTie.lean); close each card by the builder's one call (the guide's Derived/Test/ToyasCard.lean, 'card_holds'). Laid BY PROGRAM, IN A SANDBOX (cutbox-door.mjs). By AI agents, Wed Nov 11 2026. No macro, syntax, notation, axiom, sorry.
-/
import Derived.Test.YtgfgmjefikefeaaGreatDoorRows
import GoSem.ClaimSeven
namespace Go.Proofs.YtgfgmjefikefeaaGreatDoor
namespace Rows

/-- THE TIED CARD OF 'laws.FnExactMobilityOf'. -/
def fnExactMobilityOfCard : Claim7 := { stood := { row := fnExactMobilityOfRow, standIns := [], harness := (true, "5be826b1d7a7646ead91cffc440f3359bfa1b94b3c188d04616258106abc7aaa"), looks := false }, kinds := [], alts := [], laidByText := true, laidKinds := [.data], laidTests := true, laidLooks := .later }
def FnExactMobilityOfCardSaid : Prop := Claim7.holds Tryz.pinned (.plain (OpenSpec.ofChange fnExactMobilityOfSpec)) fnExactMobilityOfCard

/-- THE TIED CARD OF 'laws.FnExactEventHappens'. -/
def fnExactEventHappensCard : Claim7 := { stood := { row := fnExactEventHappensRow, standIns := [], harness := (true, "5be826b1d7a7646ead91cffc440f3359bfa1b94b3c188d04616258106abc7aaa"), looks := false }, kinds := [], alts := [], laidByText := true, laidKinds := [.data], laidTests := true, laidLooks := .later }
def FnExactEventHappensCardSaid : Prop := Claim7.holds Tryz.pinned (.plain (OpenSpec.ofChange fnExactEventHappensSpec)) fnExactEventHappensCard

/-- THE TIED CARD OF 'laws.FnExactLooksAlike'. -/
def fnExactLooksAlikeCard : Claim7 := { stood := { row := fnExactLooksAlikeRow, standIns := [], harness := (true, "5be826b1d7a7646ead91cffc440f3359bfa1b94b3c188d04616258106abc7aaa"), looks := false }, kinds := [], alts := [], laidByText := true, laidKinds := [.data], laidTests := true, laidLooks := .later }
def FnExactLooksAlikeCardSaid : Prop := Claim7.holds Tryz.pinned (.plain (OpenSpec.ofChange fnExactLooksAlikeSpec)) fnExactLooksAlikeCard

/-- THE SECOND FORM's CARD OF 'laws.FnExactMobilityOf'. -/
def fnExactMobilityOfUptoCard : Claim7 := { stood := { row := fnExactMobilityOfUptoRow, standIns := [], harness := (true, "5be826b1d7a7646ead91cffc440f3359bfa1b94b3c188d04616258106abc7aaa"), looks := false }, kinds := [], alts := [], laidByText := true, laidKinds := [.data], laidTests := true, laidLooks := .later }
def FnExactMobilityOfUptoCardSaid : Prop := Claim7.holds Tryz.pinned (.plain (OpenSpec.upto fnExactMobilityOfSpec)) fnExactMobilityOfUptoCard

/-- THE SECOND FORM's CARD OF 'laws.FnExactEventHappens'. -/
def fnExactEventHappensUptoCard : Claim7 := { stood := { row := fnExactEventHappensUptoRow, standIns := [], harness := (true, "5be826b1d7a7646ead91cffc440f3359bfa1b94b3c188d04616258106abc7aaa"), looks := false }, kinds := [], alts := [], laidByText := true, laidKinds := [.data], laidTests := true, laidLooks := .later }
def FnExactEventHappensUptoCardSaid : Prop := Claim7.holds Tryz.pinned (.plain (OpenSpec.upto fnExactEventHappensSpec)) fnExactEventHappensUptoCard

/-- THE SECOND FORM's CARD OF 'laws.FnExactLooksAlike'. -/
def fnExactLooksAlikeUptoCard : Claim7 := { stood := { row := fnExactLooksAlikeUptoRow, standIns := [], harness := (true, "5be826b1d7a7646ead91cffc440f3359bfa1b94b3c188d04616258106abc7aaa"), looks := false }, kinds := [], alts := [], laidByText := true, laidKinds := [.data], laidTests := true, laidLooks := .later }
def FnExactLooksAlikeUptoCardSaid : Prop := Claim7.holds Tryz.pinned (.plain (OpenSpec.upto fnExactLooksAlikeSpec)) fnExactLooksAlikeUptoCard
end Rows
end Go.Proofs.YtgfgmjefikefeaaGreatDoor
