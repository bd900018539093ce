/-
  DERIVED. GIVEN WITH THE SEED: THE CARDS: each row of YtociagbpecpcnaaGreatDoorRows.lean that lists a variable, with what it lists TIED to the program's text (the seventh form; the later family's looks); each row that meets fmt, with fmt's text TOLD by the authors' own Lean function (tested against real Go, not proved from fmt's source: count such statements apart). THE CARD IS WHAT COUNTS. Prove the row's statement (the work); the ties are given (YtociagbpecpcnaaGreatDoorTie.lean); close each card by the builder's one call (the guide's Derived/Test/ToyasCard.lean, 'card_holds'). Laid BY PROGRAM, IN A SANDBOX (cutbox-door.mjs). By AI agents, Wed Nov 11 2026. No macro, syntax, notation, axiom, sorry.
-/
import Derived.Test.YtociagbpecpcnaaGreatDoorRows
import GoSem.ClaimSeven
namespace Go.Proofs.YtociagbpecpcnaaGreatDoor
namespace Rows

/-- THE TIED CARD OF 'laws.FnExactFrontUnits'. -/
def fnExactFrontUnitsCard : Claim7 := { stood := { row := fnExactFrontUnitsRow, standIns := [], harness := (true, "58e41be866569b6558350f8030e32204c1aae5a463737200a63215e588f77c2b"), looks := false }, kinds := [], alts := [], laidByText := true, laidKinds := [.data], laidTests := true, laidLooks := .later }
def FnExactFrontUnitsCardSaid : Prop := Claim7.holds Tryz.pinned (.plain (OpenSpec.ofChange fnExactFrontUnitsSpec)) fnExactFrontUnitsCard

/-- THE TIED CARD OF 'laws.FnExactUnseenHexes'. -/
def fnExactUnseenHexesCard : Claim7 := { stood := { row := fnExactUnseenHexesRow, standIns := [], harness := (true, "58e41be866569b6558350f8030e32204c1aae5a463737200a63215e588f77c2b"), looks := false }, kinds := [], alts := [], laidByText := true, laidKinds := [.data], laidTests := true, laidLooks := .later }
def FnExactUnseenHexesCardSaid : Prop := Claim7.holds Tryz.pinned (.plain (OpenSpec.ofChange fnExactUnseenHexesSpec)) fnExactUnseenHexesCard

/-- THE TIED CARD OF 'laws.FnExactNewsOf'. -/
def fnExactNewsOfCard : Claim7 := { stood := { row := fnExactNewsOfRow, standIns := [], harness := (true, "58e41be866569b6558350f8030e32204c1aae5a463737200a63215e588f77c2b"), looks := false }, kinds := [], alts := [], laidByText := true, laidKinds := [.data], laidTests := true, laidLooks := .later }
def FnExactNewsOfCardSaid : Prop := Claim7.holds Tryz.pinned (.plain (OpenSpec.ofChange fnExactNewsOfSpec)) fnExactNewsOfCard

/-- THE TIED CARD OF 'laws.FnExactMayHide'. -/
def fnExactMayHideCard : Claim7 := { stood := { row := fnExactMayHideRow, standIns := [], harness := (true, "58e41be866569b6558350f8030e32204c1aae5a463737200a63215e588f77c2b"), looks := false }, kinds := [], alts := [], laidByText := true, laidKinds := [.data], laidTests := true, laidLooks := .later }
def FnExactMayHideCardSaid : Prop := Claim7.holds Tryz.pinned (.plain (OpenSpec.ofChange fnExactMayHideSpec)) fnExactMayHideCard

/-- THE TIED CARD OF 'laws.FnExactFreeGoals'. -/
def fnExactFreeGoalsCard : Claim7 := { stood := { row := fnExactFreeGoalsRow, standIns := [], harness := (true, "58e41be866569b6558350f8030e32204c1aae5a463737200a63215e588f77c2b"), looks := false }, kinds := [], alts := [], laidByText := true, laidKinds := [.data], laidTests := true, laidLooks := .later }
def FnExactFreeGoalsCardSaid : Prop := Claim7.holds Tryz.pinned (.plain (OpenSpec.ofChange fnExactFreeGoalsSpec)) fnExactFreeGoalsCard

/-- THE TIED CARD OF 'laws.FnExactReactionsLeft'. -/
def fnExactReactionsLeftCard : Claim7 := { stood := { row := fnExactReactionsLeftRow, standIns := [], harness := (true, "58e41be866569b6558350f8030e32204c1aae5a463737200a63215e588f77c2b"), looks := false }, kinds := [], alts := [], laidByText := true, laidKinds := [.data], laidTests := true, laidLooks := .later }
def FnExactReactionsLeftCardSaid : Prop := Claim7.holds Tryz.pinned (.plain (OpenSpec.ofChange fnExactReactionsLeftSpec)) fnExactReactionsLeftCard

/-- THE TIED CARD OF 'laws.FnExactSpottersOf'. -/
def fnExactSpottersOfCard : Claim7 := { stood := { row := fnExactSpottersOfRow, standIns := [], harness := (true, "58e41be866569b6558350f8030e32204c1aae5a463737200a63215e588f77c2b"), looks := false }, kinds := [], alts := [], laidByText := true, laidKinds := [.data], laidTests := true, laidLooks := .later }
def FnExactSpottersOfCardSaid : Prop := Claim7.holds Tryz.pinned (.plain (OpenSpec.ofChange fnExactSpottersOfSpec)) fnExactSpottersOfCard

/-- THE TIED CARD OF 'laws.FnExactSeenHexes'. -/
def fnExactSeenHexesCard : Claim7 := { stood := { row := fnExactSeenHexesRow, standIns := [], harness := (true, "58e41be866569b6558350f8030e32204c1aae5a463737200a63215e588f77c2b"), looks := false }, kinds := [], alts := [], laidByText := true, laidKinds := [.data], laidTests := true, laidLooks := .later }
def FnExactSeenHexesCardSaid : Prop := Claim7.holds Tryz.pinned (.plain (OpenSpec.ofChange fnExactSeenHexesSpec)) fnExactSeenHexesCard

/-- THE TIED CARD OF 'laws.FnExactHiddenUnits'. -/
def fnExactHiddenUnitsCard : Claim7 := { stood := { row := fnExactHiddenUnitsRow, standIns := [], harness := (true, "58e41be866569b6558350f8030e32204c1aae5a463737200a63215e588f77c2b"), looks := false }, kinds := [], alts := [], laidByText := true, laidKinds := [.data], laidTests := true, laidLooks := .later }
def FnExactHiddenUnitsCardSaid : Prop := Claim7.holds Tryz.pinned (.plain (OpenSpec.ofChange fnExactHiddenUnitsSpec)) fnExactHiddenUnitsCard

/-- THE SECOND FORM's CARD OF 'laws.FnExactFrontUnits'. -/
def fnExactFrontUnitsUptoCard : Claim7 := { stood := { row := fnExactFrontUnitsUptoRow, standIns := [], harness := (true, "58e41be866569b6558350f8030e32204c1aae5a463737200a63215e588f77c2b"), looks := false }, kinds := [], alts := [], laidByText := true, laidKinds := [.data], laidTests := true, laidLooks := .later }
def FnExactFrontUnitsUptoCardSaid : Prop := Claim7.holds Tryz.pinned (.plain (OpenSpec.upto fnExactFrontUnitsSpec)) fnExactFrontUnitsUptoCard

/-- THE SECOND FORM's CARD OF 'laws.FnExactUnseenHexes'. -/
def fnExactUnseenHexesUptoCard : Claim7 := { stood := { row := fnExactUnseenHexesUptoRow, standIns := [], harness := (true, "58e41be866569b6558350f8030e32204c1aae5a463737200a63215e588f77c2b"), looks := false }, kinds := [], alts := [], laidByText := true, laidKinds := [.data], laidTests := true, laidLooks := .later }
def FnExactUnseenHexesUptoCardSaid : Prop := Claim7.holds Tryz.pinned (.plain (OpenSpec.upto fnExactUnseenHexesSpec)) fnExactUnseenHexesUptoCard

/-- THE SECOND FORM's CARD OF 'laws.FnExactNewsOf'. -/
def fnExactNewsOfUptoCard : Claim7 := { stood := { row := fnExactNewsOfUptoRow, standIns := [], harness := (true, "58e41be866569b6558350f8030e32204c1aae5a463737200a63215e588f77c2b"), looks := false }, kinds := [], alts := [], laidByText := true, laidKinds := [.data], laidTests := true, laidLooks := .later }
def FnExactNewsOfUptoCardSaid : Prop := Claim7.holds Tryz.pinned (.plain (OpenSpec.upto fnExactNewsOfSpec)) fnExactNewsOfUptoCard

/-- THE SECOND FORM's CARD OF 'laws.FnExactMayHide'. -/
def fnExactMayHideUptoCard : Claim7 := { stood := { row := fnExactMayHideUptoRow, standIns := [], harness := (true, "58e41be866569b6558350f8030e32204c1aae5a463737200a63215e588f77c2b"), looks := false }, kinds := [], alts := [], laidByText := true, laidKinds := [.data], laidTests := true, laidLooks := .later }
def FnExactMayHideUptoCardSaid : Prop := Claim7.holds Tryz.pinned (.plain (OpenSpec.upto fnExactMayHideSpec)) fnExactMayHideUptoCard

/-- THE SECOND FORM's CARD OF 'laws.FnExactFreeGoals'. -/
def fnExactFreeGoalsUptoCard : Claim7 := { stood := { row := fnExactFreeGoalsUptoRow, standIns := [], harness := (true, "58e41be866569b6558350f8030e32204c1aae5a463737200a63215e588f77c2b"), looks := false }, kinds := [], alts := [], laidByText := true, laidKinds := [.data], laidTests := true, laidLooks := .later }
def FnExactFreeGoalsUptoCardSaid : Prop := Claim7.holds Tryz.pinned (.plain (OpenSpec.upto fnExactFreeGoalsSpec)) fnExactFreeGoalsUptoCard

/-- THE SECOND FORM's CARD OF 'laws.FnExactReactionsLeft'. -/
def fnExactReactionsLeftUptoCard : Claim7 := { stood := { row := fnExactReactionsLeftUptoRow, standIns := [], harness := (true, "58e41be866569b6558350f8030e32204c1aae5a463737200a63215e588f77c2b"), looks := false }, kinds := [], alts := [], laidByText := true, laidKinds := [.data], laidTests := true, laidLooks := .later }
def FnExactReactionsLeftUptoCardSaid : Prop := Claim7.holds Tryz.pinned (.plain (OpenSpec.upto fnExactReactionsLeftSpec)) fnExactReactionsLeftUptoCard

/-- THE SECOND FORM's CARD OF 'laws.FnExactSpottersOf'. -/
def fnExactSpottersOfUptoCard : Claim7 := { stood := { row := fnExactSpottersOfUptoRow, standIns := [], harness := (true, "58e41be866569b6558350f8030e32204c1aae5a463737200a63215e588f77c2b"), looks := false }, kinds := [], alts := [], laidByText := true, laidKinds := [.data], laidTests := true, laidLooks := .later }
def FnExactSpottersOfUptoCardSaid : Prop := Claim7.holds Tryz.pinned (.plain (OpenSpec.upto fnExactSpottersOfSpec)) fnExactSpottersOfUptoCard

/-- THE SECOND FORM's CARD OF 'laws.FnExactSeenHexes'. -/
def fnExactSeenHexesUptoCard : Claim7 := { stood := { row := fnExactSeenHexesUptoRow, standIns := [], harness := (true, "58e41be866569b6558350f8030e32204c1aae5a463737200a63215e588f77c2b"), looks := false }, kinds := [], alts := [], laidByText := true, laidKinds := [.data], laidTests := true, laidLooks := .later }
def FnExactSeenHexesUptoCardSaid : Prop := Claim7.holds Tryz.pinned (.plain (OpenSpec.upto fnExactSeenHexesSpec)) fnExactSeenHexesUptoCard

/-- THE SECOND FORM's CARD OF 'laws.FnExactHiddenUnits'. -/
def fnExactHiddenUnitsUptoCard : Claim7 := { stood := { row := fnExactHiddenUnitsUptoRow, standIns := [], harness := (true, "58e41be866569b6558350f8030e32204c1aae5a463737200a63215e588f77c2b"), looks := false }, kinds := [], alts := [], laidByText := true, laidKinds := [.data], laidTests := true, laidLooks := .later }
def FnExactHiddenUnitsUptoCardSaid : Prop := Claim7.holds Tryz.pinned (.plain (OpenSpec.upto fnExactHiddenUnitsSpec)) fnExactHiddenUnitsUptoCard
end Rows
end Go.Proofs.YtociagbpecpcnaaGreatDoor
