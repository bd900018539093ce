/-
  DERIVED. GIVEN WITH THE SEED: THE CARDS: each row of YtihggbgmdlhlcaaGreatDoorRows.lean that lists a variable, with what it lists TIED to the program's text (the seventh form; the later family's looks); each row that meets fmt, with fmt's text TOLD by the authors' own Lean function (tested against real Go, not proved from fmt's source: count such statements apart). THE CARD IS WHAT COUNTS. Prove the row's statement (the work); the ties are given (YtihggbgmdlhlcaaGreatDoorTie.lean); close each card by the builder's one call (the guide's Derived/Test/ToyasCard.lean, 'card_holds'). Laid BY PROGRAM, IN A SANDBOX (cutbox-door.mjs). By AI agents, Wed Nov 11 2026. No macro, syntax, notation, axiom, sorry.
-/
import Derived.Test.YtihggbgmdlhlcaaGreatDoorRows
import GoSem.ClaimSeven
namespace Go.Proofs.YtihggbgmdlhlcaaGreatDoor
namespace Rows

/-- THE TIED CARD OF 'laws.FnExactCountHidings'. -/
def fnExactCountHidingsCard : Claim7 := { stood := { row := fnExactCountHidingsRow, standIns := [], harness := (true, "5cc8fc11dd3ddf3d5f6457482cd9330f2b700f86da6b03302e136146b6067f79"), looks := false }, kinds := [], alts := [], laidByText := true, laidKinds := [.data], laidTests := true, laidLooks := .later }
def FnExactCountHidingsCardSaid : Prop := Claim7.holds Tryz.pinned (.plain (OpenSpec.ofChange fnExactCountHidingsSpec)) fnExactCountHidingsCard

/-- THE TIED CARD OF 'laws.FnExactNearestGoal'. -/
def fnExactNearestGoalCard : Claim7 := { stood := { row := fnExactNearestGoalRow, standIns := [], harness := (true, "5cc8fc11dd3ddf3d5f6457482cd9330f2b700f86da6b03302e136146b6067f79"), looks := false }, kinds := [], alts := [], laidByText := true, laidKinds := [.data], laidTests := true, laidLooks := .later }
def FnExactNearestGoalCardSaid : Prop := Claim7.holds Tryz.pinned (.plain (OpenSpec.ofChange fnExactNearestGoalSpec)) fnExactNearestGoalCard

/-- THE TIED CARD OF 'laws.FnExactHiddenThreat'. -/
def fnExactHiddenThreatCard : Claim7 := { stood := { row := fnExactHiddenThreatRow, standIns := [], harness := (true, "5cc8fc11dd3ddf3d5f6457482cd9330f2b700f86da6b03302e136146b6067f79"), looks := false }, kinds := [], alts := [], laidByText := true, laidKinds := [.data], laidTests := true, laidLooks := .later }
def FnExactHiddenThreatCardSaid : Prop := Claim7.holds Tryz.pinned (.plain (OpenSpec.ofChange fnExactHiddenThreatSpec)) fnExactHiddenThreatCard

/-- THE TIED CARD OF 'laws.FnExactHolderOf'. -/
def fnExactHolderOfCard : Claim7 := { stood := { row := fnExactHolderOfRow, standIns := [], harness := (true, "5cc8fc11dd3ddf3d5f6457482cd9330f2b700f86da6b03302e136146b6067f79"), looks := false }, kinds := [], alts := [], laidByText := true, laidKinds := [.data], laidTests := true, laidLooks := .later }
def FnExactHolderOfCardSaid : Prop := Claim7.holds Tryz.pinned (.plain (OpenSpec.ofChange fnExactHolderOfSpec)) fnExactHolderOfCard

/-- THE TIED CARD OF 'laws.FnExactGroundOf'. -/
def fnExactGroundOfCard : Claim7 := { stood := { row := fnExactGroundOfRow, standIns := [], harness := (true, "5cc8fc11dd3ddf3d5f6457482cd9330f2b700f86da6b03302e136146b6067f79"), looks := false }, kinds := [], alts := [], laidByText := true, laidKinds := [.data], laidTests := true, laidLooks := .later }
def FnExactGroundOfCardSaid : Prop := Claim7.holds Tryz.pinned (.plain (OpenSpec.ofChange fnExactGroundOfSpec)) fnExactGroundOfCard

/-- THE TIED CARD OF 'laws.FnExactMobilityOf'. -/
def fnExactMobilityOfCard : Claim7 := { stood := { row := fnExactMobilityOfRow, standIns := [], harness := (true, "5cc8fc11dd3ddf3d5f6457482cd9330f2b700f86da6b03302e136146b6067f79"), looks := false }, kinds := [], alts := [], laidByText := true, laidKinds := [.data], laidTests := true, laidLooks := .later }
def FnExactMobilityOfCardSaid : Prop := Claim7.holds Tryz.pinned (.plain (OpenSpec.ofChange fnExactMobilityOfSpec)) fnExactMobilityOfCard

/-- THE TIED CARD OF 'laws.FnExactIsMachine'. -/
def fnExactIsMachineCard : Claim7 := { stood := { row := fnExactIsMachineRow, standIns := [], harness := (true, "5cc8fc11dd3ddf3d5f6457482cd9330f2b700f86da6b03302e136146b6067f79"), looks := false }, kinds := [], alts := [], laidByText := true, laidKinds := [.data], laidTests := true, laidLooks := .later }
def FnExactIsMachineCardSaid : Prop := Claim7.holds Tryz.pinned (.plain (OpenSpec.ofChange fnExactIsMachineSpec)) fnExactIsMachineCard

/-- THE TIED CARD OF 'laws.FnExactUnitWorth'. -/
def fnExactUnitWorthCard : Claim7 := { stood := { row := fnExactUnitWorthRow, standIns := [], harness := (true, "5cc8fc11dd3ddf3d5f6457482cd9330f2b700f86da6b03302e136146b6067f79"), looks := false }, kinds := [], alts := [], laidByText := true, laidKinds := [.data], laidTests := true, laidLooks := .later }
def FnExactUnitWorthCardSaid : Prop := Claim7.holds Tryz.pinned (.plain (OpenSpec.ofChange fnExactUnitWorthSpec)) fnExactUnitWorthCard

/-- THE TIED CARD OF 'laws.FnExactGoalPoints'. -/
def fnExactGoalPointsCard : Claim7 := { stood := { row := fnExactGoalPointsRow, standIns := [], harness := (true, "5cc8fc11dd3ddf3d5f6457482cd9330f2b700f86da6b03302e136146b6067f79"), looks := false }, kinds := [], alts := [], laidByText := true, laidKinds := [.data], laidTests := true, laidLooks := .later }
def FnExactGoalPointsCardSaid : Prop := Claim7.holds Tryz.pinned (.plain (OpenSpec.ofChange fnExactGoalPointsSpec)) fnExactGoalPointsCard

/-- THE TIED CARD OF 'laws.FnExactSideWorth'. -/
def fnExactSideWorthCard : Claim7 := { stood := { row := fnExactSideWorthRow, standIns := [], harness := (true, "5cc8fc11dd3ddf3d5f6457482cd9330f2b700f86da6b03302e136146b6067f79"), looks := false }, kinds := [], alts := [], laidByText := true, laidKinds := [.data], laidTests := true, laidLooks := .later }
def FnExactSideWorthCardSaid : Prop := Claim7.holds Tryz.pinned (.plain (OpenSpec.ofChange fnExactSideWorthSpec)) fnExactSideWorthCard

/-- THE TIED CARD OF 'laws.FnExactTotalPoints'. -/
def fnExactTotalPointsCard : Claim7 := { stood := { row := fnExactTotalPointsRow, standIns := [], harness := (true, "5cc8fc11dd3ddf3d5f6457482cd9330f2b700f86da6b03302e136146b6067f79"), looks := false }, kinds := [], alts := [], laidByText := true, laidKinds := [.data], laidTests := true, laidLooks := .later }
def FnExactTotalPointsCardSaid : Prop := Claim7.holds Tryz.pinned (.plain (OpenSpec.ofChange fnExactTotalPointsSpec)) fnExactTotalPointsCard

/-- THE TIED CARD OF 'laws.FnExactPointsNeeded'. -/
def fnExactPointsNeededCard : Claim7 := { stood := { row := fnExactPointsNeededRow, standIns := [], harness := (true, "5cc8fc11dd3ddf3d5f6457482cd9330f2b700f86da6b03302e136146b6067f79"), looks := false }, kinds := [], alts := [], laidByText := true, laidKinds := [.data], laidTests := true, laidLooks := .later }
def FnExactPointsNeededCardSaid : Prop := Claim7.holds Tryz.pinned (.plain (OpenSpec.ofChange fnExactPointsNeededSpec)) fnExactPointsNeededCard

/-- THE SECOND FORM's CARD OF 'laws.FnExactCountHidings'. -/
def fnExactCountHidingsUptoCard : Claim7 := { stood := { row := fnExactCountHidingsUptoRow, standIns := [], harness := (true, "5cc8fc11dd3ddf3d5f6457482cd9330f2b700f86da6b03302e136146b6067f79"), looks := false }, kinds := [], alts := [], laidByText := true, laidKinds := [.data], laidTests := true, laidLooks := .later }
def FnExactCountHidingsUptoCardSaid : Prop := Claim7.holds Tryz.pinned (.plain (OpenSpec.upto fnExactCountHidingsSpec)) fnExactCountHidingsUptoCard

/-- THE SECOND FORM's CARD OF 'laws.FnExactNearestGoal'. -/
def fnExactNearestGoalUptoCard : Claim7 := { stood := { row := fnExactNearestGoalUptoRow, standIns := [], harness := (true, "5cc8fc11dd3ddf3d5f6457482cd9330f2b700f86da6b03302e136146b6067f79"), looks := false }, kinds := [], alts := [], laidByText := true, laidKinds := [.data], laidTests := true, laidLooks := .later }
def FnExactNearestGoalUptoCardSaid : Prop := Claim7.holds Tryz.pinned (.plain (OpenSpec.upto fnExactNearestGoalSpec)) fnExactNearestGoalUptoCard

/-- THE SECOND FORM's CARD OF 'laws.FnExactHiddenThreat'. -/
def fnExactHiddenThreatUptoCard : Claim7 := { stood := { row := fnExactHiddenThreatUptoRow, standIns := [], harness := (true, "5cc8fc11dd3ddf3d5f6457482cd9330f2b700f86da6b03302e136146b6067f79"), looks := false }, kinds := [], alts := [], laidByText := true, laidKinds := [.data], laidTests := true, laidLooks := .later }
def FnExactHiddenThreatUptoCardSaid : Prop := Claim7.holds Tryz.pinned (.plain (OpenSpec.upto fnExactHiddenThreatSpec)) fnExactHiddenThreatUptoCard

/-- THE SECOND FORM's CARD OF 'laws.FnExactHolderOf'. -/
def fnExactHolderOfUptoCard : Claim7 := { stood := { row := fnExactHolderOfUptoRow, standIns := [], harness := (true, "5cc8fc11dd3ddf3d5f6457482cd9330f2b700f86da6b03302e136146b6067f79"), looks := false }, kinds := [], alts := [], laidByText := true, laidKinds := [.data], laidTests := true, laidLooks := .later }
def FnExactHolderOfUptoCardSaid : Prop := Claim7.holds Tryz.pinned (.plain (OpenSpec.upto fnExactHolderOfSpec)) fnExactHolderOfUptoCard

/-- THE SECOND FORM's CARD OF 'laws.FnExactGroundOf'. -/
def fnExactGroundOfUptoCard : Claim7 := { stood := { row := fnExactGroundOfUptoRow, standIns := [], harness := (true, "5cc8fc11dd3ddf3d5f6457482cd9330f2b700f86da6b03302e136146b6067f79"), looks := false }, kinds := [], alts := [], laidByText := true, laidKinds := [.data], laidTests := true, laidLooks := .later }
def FnExactGroundOfUptoCardSaid : Prop := Claim7.holds Tryz.pinned (.plain (OpenSpec.upto fnExactGroundOfSpec)) fnExactGroundOfUptoCard

/-- THE SECOND FORM's CARD OF 'laws.FnExactMobilityOf'. -/
def fnExactMobilityOfUptoCard : Claim7 := { stood := { row := fnExactMobilityOfUptoRow, standIns := [], harness := (true, "5cc8fc11dd3ddf3d5f6457482cd9330f2b700f86da6b03302e136146b6067f79"), looks := false }, kinds := [], alts := [], laidByText := true, laidKinds := [.data], laidTests := true, laidLooks := .later }
def FnExactMobilityOfUptoCardSaid : Prop := Claim7.holds Tryz.pinned (.plain (OpenSpec.upto fnExactMobilityOfSpec)) fnExactMobilityOfUptoCard

/-- THE SECOND FORM's CARD OF 'laws.FnExactIsMachine'. -/
def fnExactIsMachineUptoCard : Claim7 := { stood := { row := fnExactIsMachineUptoRow, standIns := [], harness := (true, "5cc8fc11dd3ddf3d5f6457482cd9330f2b700f86da6b03302e136146b6067f79"), looks := false }, kinds := [], alts := [], laidByText := true, laidKinds := [.data], laidTests := true, laidLooks := .later }
def FnExactIsMachineUptoCardSaid : Prop := Claim7.holds Tryz.pinned (.plain (OpenSpec.upto fnExactIsMachineSpec)) fnExactIsMachineUptoCard

/-- THE SECOND FORM's CARD OF 'laws.FnExactUnitWorth'. -/
def fnExactUnitWorthUptoCard : Claim7 := { stood := { row := fnExactUnitWorthUptoRow, standIns := [], harness := (true, "5cc8fc11dd3ddf3d5f6457482cd9330f2b700f86da6b03302e136146b6067f79"), looks := false }, kinds := [], alts := [], laidByText := true, laidKinds := [.data], laidTests := true, laidLooks := .later }
def FnExactUnitWorthUptoCardSaid : Prop := Claim7.holds Tryz.pinned (.plain (OpenSpec.upto fnExactUnitWorthSpec)) fnExactUnitWorthUptoCard

/-- THE SECOND FORM's CARD OF 'laws.FnExactGoalPoints'. -/
def fnExactGoalPointsUptoCard : Claim7 := { stood := { row := fnExactGoalPointsUptoRow, standIns := [], harness := (true, "5cc8fc11dd3ddf3d5f6457482cd9330f2b700f86da6b03302e136146b6067f79"), looks := false }, kinds := [], alts := [], laidByText := true, laidKinds := [.data], laidTests := true, laidLooks := .later }
def FnExactGoalPointsUptoCardSaid : Prop := Claim7.holds Tryz.pinned (.plain (OpenSpec.upto fnExactGoalPointsSpec)) fnExactGoalPointsUptoCard

/-- THE SECOND FORM's CARD OF 'laws.FnExactSideWorth'. -/
def fnExactSideWorthUptoCard : Claim7 := { stood := { row := fnExactSideWorthUptoRow, standIns := [], harness := (true, "5cc8fc11dd3ddf3d5f6457482cd9330f2b700f86da6b03302e136146b6067f79"), looks := false }, kinds := [], alts := [], laidByText := true, laidKinds := [.data], laidTests := true, laidLooks := .later }
def FnExactSideWorthUptoCardSaid : Prop := Claim7.holds Tryz.pinned (.plain (OpenSpec.upto fnExactSideWorthSpec)) fnExactSideWorthUptoCard

/-- THE SECOND FORM's CARD OF 'laws.FnExactTotalPoints'. -/
def fnExactTotalPointsUptoCard : Claim7 := { stood := { row := fnExactTotalPointsUptoRow, standIns := [], harness := (true, "5cc8fc11dd3ddf3d5f6457482cd9330f2b700f86da6b03302e136146b6067f79"), looks := false }, kinds := [], alts := [], laidByText := true, laidKinds := [.data], laidTests := true, laidLooks := .later }
def FnExactTotalPointsUptoCardSaid : Prop := Claim7.holds Tryz.pinned (.plain (OpenSpec.upto fnExactTotalPointsSpec)) fnExactTotalPointsUptoCard

/-- THE SECOND FORM's CARD OF 'laws.FnExactPointsNeeded'. -/
def fnExactPointsNeededUptoCard : Claim7 := { stood := { row := fnExactPointsNeededUptoRow, standIns := [], harness := (true, "5cc8fc11dd3ddf3d5f6457482cd9330f2b700f86da6b03302e136146b6067f79"), looks := false }, kinds := [], alts := [], laidByText := true, laidKinds := [.data], laidTests := true, laidLooks := .later }
def FnExactPointsNeededUptoCardSaid : Prop := Claim7.holds Tryz.pinned (.plain (OpenSpec.upto fnExactPointsNeededSpec)) fnExactPointsNeededUptoCard
end Rows
end Go.Proofs.YtihggbgmdlhlcaaGreatDoor
