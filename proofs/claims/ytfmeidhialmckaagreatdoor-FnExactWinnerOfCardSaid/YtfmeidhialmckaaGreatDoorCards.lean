/-
  DERIVED. GIVEN WITH THE SEED: THE CARDS: each row of YtfmeidhialmckaaGreatDoorRows.lean that lists a variable, with what it lists TIED to the program's text (the seventh form; the later family's looks); each row that meets fmt, with fmt's text TOLD by the authors' own Lean function (tested against real Go, not proved from fmt's source: count such statements apart). THE CARD IS WHAT COUNTS. Prove the row's statement (the work); the ties are given (YtfmeidhialmckaaGreatDoorTie.lean); close each card by the builder's one call (the guide's Derived/Test/ToyasCard.lean, 'card_holds'). Laid BY PROGRAM, IN A SANDBOX (cutbox-door.mjs). By AI agents, Wed Nov 11 2026. No macro, syntax, notation, axiom, sorry.
-/
import Derived.Test.YtfmeidhialmckaaGreatDoorRows
import GoSem.ClaimSeven
namespace Go.Proofs.YtfmeidhialmckaaGreatDoor
namespace Rows

/-- THE TIED CARD OF 'laws.FnExactReportOf'. -/
def fnExactReportOfCard : Claim7 := { stood := { row := fnExactReportOfRow, standIns := [], harness := (true, "c8193c3be16ae02a70f598e768af905173c75a911500b2c3fe3d868ca50cf0ea"), looks := false }, kinds := [], alts := [], laidByText := true, laidKinds := [.data, .data, .data, .data], laidTests := true, laidLooks := .later }
def FnExactReportOfCardSaid : Prop := Claim7.holds Tryz.pinned (.plain (OpenSpec.ofChange fnExactReportOfSpec)) fnExactReportOfCard

/-- THE TIED CARD OF 'laws.FnExactSameReport'. -/
def fnExactSameReportCard : Claim7 := { stood := { row := fnExactSameReportRow, standIns := [], harness := (true, "c8193c3be16ae02a70f598e768af905173c75a911500b2c3fe3d868ca50cf0ea"), looks := false }, kinds := [], alts := [], laidByText := true, laidKinds := [.data, .data, .data, .data], laidTests := true, laidLooks := .later }
def FnExactSameReportCardSaid : Prop := Claim7.holds Tryz.pinned (.plain (OpenSpec.ofChange fnExactSameReportSpec)) fnExactSameReportCard

/-- THE TIED CARD OF 'laws.FnExactMobilityOf'. -/
def fnExactMobilityOfCard : Claim7 := { stood := { row := fnExactMobilityOfRow, standIns := [], harness := (true, "c8193c3be16ae02a70f598e768af905173c75a911500b2c3fe3d868ca50cf0ea"), looks := false }, kinds := [], alts := [], laidByText := true, laidKinds := [.data], laidTests := true, laidLooks := .later }
def FnExactMobilityOfCardSaid : Prop := Claim7.holds Tryz.pinned (.plain (OpenSpec.ofChange fnExactMobilityOfSpec)) fnExactMobilityOfCard

/-- THE TIED CARD OF 'laws.FnExactNextReaction'. -/
def fnExactNextReactionCard : Claim7 := { stood := { row := fnExactNextReactionRow, standIns := [], harness := (true, "c8193c3be16ae02a70f598e768af905173c75a911500b2c3fe3d868ca50cf0ea"), looks := false }, kinds := [], alts := [], laidByText := true, laidKinds := [.data], laidTests := true, laidLooks := .later }
def FnExactNextReactionCardSaid : Prop := Claim7.holds Tryz.pinned (.plain (OpenSpec.ofChange fnExactNextReactionSpec)) fnExactNextReactionCard

/-- THE TIED CARD OF 'laws.FnExactEventHappens'. -/
def fnExactEventHappensCard : Claim7 := { stood := { row := fnExactEventHappensRow, standIns := [], harness := (true, "c8193c3be16ae02a70f598e768af905173c75a911500b2c3fe3d868ca50cf0ea"), looks := false }, kinds := [], alts := [], laidByText := true, laidKinds := [.data], laidTests := true, laidLooks := .later }
def FnExactEventHappensCardSaid : Prop := Claim7.holds Tryz.pinned (.plain (OpenSpec.ofChange fnExactEventHappensSpec)) fnExactEventHappensCard

/-- THE TIED CARD OF 'laws.FnExactWinnerOf'. -/
def fnExactWinnerOfCard : Claim7 := { stood := { row := fnExactWinnerOfRow, standIns := [], harness := (true, "c8193c3be16ae02a70f598e768af905173c75a911500b2c3fe3d868ca50cf0ea"), looks := false }, kinds := [], alts := [], laidByText := true, laidKinds := [.data], laidTests := true, laidLooks := .later }
def FnExactWinnerOfCardSaid : Prop := Claim7.holds Tryz.pinned (.plain (OpenSpec.ofChange fnExactWinnerOfSpec)) fnExactWinnerOfCard

/-- THE TIED CARD OF 'laws.FnExactReportText'. -/
def fnExactReportTextCard : Claim7 := { stood := { row := fnExactReportTextRow, standIns := [], harness := (true, "c8193c3be16ae02a70f598e768af905173c75a911500b2c3fe3d868ca50cf0ea"), looks := false }, kinds := [], alts := [], laidByText := true, laidKinds := [.data, .data, .data, .data], laidTests := true, laidLooks := .later }
def FnExactReportTextCardSaid : Prop := Claim7.holds Tryz.pinned (.plain (OpenSpec.ofChange fnExactReportTextSpec)) fnExactReportTextCard

/-- THE TIED CARD OF 'laws.FnUnseenMoves'. -/
def fnUnseenMovesCard : Claim7 := { stood := { row := fnUnseenMovesRow, standIns := [], harness := (true, "c8193c3be16ae02a70f598e768af905173c75a911500b2c3fe3d868ca50cf0ea"), looks := false }, kinds := [], alts := [], laidByText := true, laidKinds := [.data, .data, .data, .data], laidTests := true, laidLooks := .later }
def FnUnseenMovesCardSaid : Prop := Claim7.holds Tryz.pinned (.plain (OpenSpec.ofChange fnUnseenMovesSpec)) fnUnseenMovesCard

/-- THE TIED CARD OF 'laws.FnExactLooksAlike'. -/
def fnExactLooksAlikeCard : Claim7 := { stood := { row := fnExactLooksAlikeRow, standIns := [], harness := (true, "c8193c3be16ae02a70f598e768af905173c75a911500b2c3fe3d868ca50cf0ea"), looks := false }, kinds := [], alts := [], laidByText := true, laidKinds := [.data], laidTests := true, laidLooks := .later }
def FnExactLooksAlikeCardSaid : Prop := Claim7.holds Tryz.pinned (.plain (OpenSpec.ofChange fnExactLooksAlikeSpec)) fnExactLooksAlikeCard

/-- THE SECOND FORM's CARD OF 'laws.FnExactReportOf'. -/
def fnExactReportOfUptoCard : Claim7 := { stood := { row := fnExactReportOfUptoRow, standIns := [], harness := (true, "c8193c3be16ae02a70f598e768af905173c75a911500b2c3fe3d868ca50cf0ea"), looks := false }, kinds := [], alts := [], laidByText := true, laidKinds := [.data, .data, .data, .data], laidTests := true, laidLooks := .later }
def FnExactReportOfUptoCardSaid : Prop := Claim7.holds Tryz.pinned (.plain (OpenSpec.upto fnExactReportOfSpec)) fnExactReportOfUptoCard

/-- THE SECOND FORM's CARD OF 'laws.FnExactSameReport'. -/
def fnExactSameReportUptoCard : Claim7 := { stood := { row := fnExactSameReportUptoRow, standIns := [], harness := (true, "c8193c3be16ae02a70f598e768af905173c75a911500b2c3fe3d868ca50cf0ea"), looks := false }, kinds := [], alts := [], laidByText := true, laidKinds := [.data, .data, .data, .data], laidTests := true, laidLooks := .later }
def FnExactSameReportUptoCardSaid : Prop := Claim7.holds Tryz.pinned (.plain (OpenSpec.upto fnExactSameReportSpec)) fnExactSameReportUptoCard

/-- THE SECOND FORM's CARD OF 'laws.FnExactMobilityOf'. -/
def fnExactMobilityOfUptoCard : Claim7 := { stood := { row := fnExactMobilityOfUptoRow, standIns := [], harness := (true, "c8193c3be16ae02a70f598e768af905173c75a911500b2c3fe3d868ca50cf0ea"), looks := false }, kinds := [], alts := [], laidByText := true, laidKinds := [.data], laidTests := true, laidLooks := .later }
def FnExactMobilityOfUptoCardSaid : Prop := Claim7.holds Tryz.pinned (.plain (OpenSpec.upto fnExactMobilityOfSpec)) fnExactMobilityOfUptoCard

/-- THE SECOND FORM's CARD OF 'laws.FnExactNextReaction'. -/
def fnExactNextReactionUptoCard : Claim7 := { stood := { row := fnExactNextReactionUptoRow, standIns := [], harness := (true, "c8193c3be16ae02a70f598e768af905173c75a911500b2c3fe3d868ca50cf0ea"), looks := false }, kinds := [], alts := [], laidByText := true, laidKinds := [.data], laidTests := true, laidLooks := .later }
def FnExactNextReactionUptoCardSaid : Prop := Claim7.holds Tryz.pinned (.plain (OpenSpec.upto fnExactNextReactionSpec)) fnExactNextReactionUptoCard

/-- THE SECOND FORM's CARD OF 'laws.FnExactEventHappens'. -/
def fnExactEventHappensUptoCard : Claim7 := { stood := { row := fnExactEventHappensUptoRow, standIns := [], harness := (true, "c8193c3be16ae02a70f598e768af905173c75a911500b2c3fe3d868ca50cf0ea"), looks := false }, kinds := [], alts := [], laidByText := true, laidKinds := [.data], laidTests := true, laidLooks := .later }
def FnExactEventHappensUptoCardSaid : Prop := Claim7.holds Tryz.pinned (.plain (OpenSpec.upto fnExactEventHappensSpec)) fnExactEventHappensUptoCard

/-- THE SECOND FORM's CARD OF 'laws.FnExactWinnerOf'. -/
def fnExactWinnerOfUptoCard : Claim7 := { stood := { row := fnExactWinnerOfUptoRow, standIns := [], harness := (true, "c8193c3be16ae02a70f598e768af905173c75a911500b2c3fe3d868ca50cf0ea"), looks := false }, kinds := [], alts := [], laidByText := true, laidKinds := [.data], laidTests := true, laidLooks := .later }
def FnExactWinnerOfUptoCardSaid : Prop := Claim7.holds Tryz.pinned (.plain (OpenSpec.upto fnExactWinnerOfSpec)) fnExactWinnerOfUptoCard

/-- THE SECOND FORM's CARD OF 'laws.FnExactReportText'. -/
def fnExactReportTextUptoCard : Claim7 := { stood := { row := fnExactReportTextUptoRow, standIns := [], harness := (true, "c8193c3be16ae02a70f598e768af905173c75a911500b2c3fe3d868ca50cf0ea"), looks := false }, kinds := [], alts := [], laidByText := true, laidKinds := [.data, .data, .data, .data], laidTests := true, laidLooks := .later }
def FnExactReportTextUptoCardSaid : Prop := Claim7.holds Tryz.pinned (.plain (OpenSpec.upto fnExactReportTextSpec)) fnExactReportTextUptoCard

/-- THE SECOND FORM's CARD OF 'laws.FnUnseenMoves'. -/
def fnUnseenMovesUptoCard : Claim7 := { stood := { row := fnUnseenMovesUptoRow, standIns := [], harness := (true, "c8193c3be16ae02a70f598e768af905173c75a911500b2c3fe3d868ca50cf0ea"), looks := false }, kinds := [], alts := [], laidByText := true, laidKinds := [.data, .data, .data, .data], laidTests := true, laidLooks := .later }
def FnUnseenMovesUptoCardSaid : Prop := Claim7.holds Tryz.pinned (.plain (OpenSpec.upto fnUnseenMovesSpec)) fnUnseenMovesUptoCard

/-- THE SECOND FORM's CARD OF 'laws.FnExactLooksAlike'. -/
def fnExactLooksAlikeUptoCard : Claim7 := { stood := { row := fnExactLooksAlikeUptoRow, standIns := [], harness := (true, "c8193c3be16ae02a70f598e768af905173c75a911500b2c3fe3d868ca50cf0ea"), looks := false }, kinds := [], alts := [], laidByText := true, laidKinds := [.data], laidTests := true, laidLooks := .later }
def FnExactLooksAlikeUptoCardSaid : Prop := Claim7.holds Tryz.pinned (.plain (OpenSpec.upto fnExactLooksAlikeSpec)) fnExactLooksAlikeUptoCard
end Rows
end Go.Proofs.YtfmeidhialmckaaGreatDoor
