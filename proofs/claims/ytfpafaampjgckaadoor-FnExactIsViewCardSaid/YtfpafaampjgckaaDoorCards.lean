/-
  DERIVED. GIVEN WITH THE SEED: THE CARDS: each row of YtfpafaampjgckaaDoorRows.lean that lists a variable, with what it lists TIED to the program's text (the seventh form; the later family's looks); each row that meets fmt, with fmt's text TOLD by the authors' own Lean function (tested against real Go, not proved from fmt's source: count such statements apart). THE CARD IS WHAT COUNTS. Prove the row's statement (the work); the ties are given (YtfpafaampjgckaaDoorTie.lean); close each card by the builder's one call (the guide's Derived/Test/ToyasCard.lean, 'card_holds'). Laid BY PROGRAM, IN A SANDBOX (cutbox-door.mjs). By AI agents, Wed Nov 11 2026. No macro, syntax, notation, axiom, sorry.
-/
import Derived.Test.YtfpafaampjgckaaDoorRows
import GoSem.ClaimSeven
namespace Go.Proofs.YtfpafaampjgckaaDoor
namespace Rows

/-- THE TIED CARD OF 'laws.FnExactIsMemory'. -/
def fnExactIsMemoryCard : Claim7 := { stood := { row := fnExactIsMemoryRow, standIns := [], harness := (true, "d1127676cde406df66a8f21ef7c41cab55b5516e12f18cbef1bc58c92329363e"), looks := false }, kinds := [], alts := [], laidByText := true, laidKinds := [.data], laidTests := true, laidLooks := .later }
def FnExactIsMemoryCardSaid : Prop := Claim7.holds Tryd.pinned (.plain (OpenSpec.ofChange fnExactIsMemorySpec)) fnExactIsMemoryCard

/-- THE TIED CARD OF 'laws.FnExactAreConditions'. -/
def fnExactAreConditionsCard : Claim7 := { stood := { row := fnExactAreConditionsRow, standIns := [], harness := (true, "d1127676cde406df66a8f21ef7c41cab55b5516e12f18cbef1bc58c92329363e"), looks := false }, kinds := [], alts := [], laidByText := true, laidKinds := [.data], laidTests := true, laidLooks := .later }
def FnExactAreConditionsCardSaid : Prop := Claim7.holds Tryd.pinned (.plain (OpenSpec.ofChange fnExactAreConditionsSpec)) fnExactAreConditionsCard

/-- THE TIED CARD OF 'laws.FnExactMostPoints'. -/
def fnExactMostPointsCard : Claim7 := { stood := { row := fnExactMostPointsRow, standIns := [], harness := (true, "d1127676cde406df66a8f21ef7c41cab55b5516e12f18cbef1bc58c92329363e"), looks := false }, kinds := [], alts := [], laidByText := true, laidKinds := [.data], laidTests := true, laidLooks := .later }
def FnExactMostPointsCardSaid : Prop := Claim7.holds Tryd.pinned (.plain (OpenSpec.ofChange fnExactMostPointsSpec)) fnExactMostPointsCard

/-- THE TIED CARD OF 'laws.FnExactStaleHexes'. -/
def fnExactStaleHexesCard : Claim7 := { stood := { row := fnExactStaleHexesRow, standIns := [], harness := (true, "d1127676cde406df66a8f21ef7c41cab55b5516e12f18cbef1bc58c92329363e"), looks := false }, kinds := [], alts := [], laidByText := true, laidKinds := [.data], laidTests := true, laidLooks := .later }
def FnExactStaleHexesCardSaid : Prop := Claim7.holds Tryd.pinned (.plain (OpenSpec.ofChange fnExactStaleHexesSpec)) fnExactStaleHexesCard

/-- THE TIED CARD OF 'laws.FnExactSuspectedHexes'. -/
def fnExactSuspectedHexesCard : Claim7 := { stood := { row := fnExactSuspectedHexesRow, standIns := [], harness := (true, "d1127676cde406df66a8f21ef7c41cab55b5516e12f18cbef1bc58c92329363e"), looks := false }, kinds := [], alts := [], laidByText := true, laidKinds := [.data], laidTests := true, laidLooks := .later }
def FnExactSuspectedHexesCardSaid : Prop := Claim7.holds Tryd.pinned (.plain (OpenSpec.ofChange fnExactSuspectedHexesSpec)) fnExactSuspectedHexesCard

/-- THE TIED CARD OF 'laws.FnExactNewMemory'. -/
def fnExactNewMemoryCard : Claim7 := { stood := { row := fnExactNewMemoryRow, standIns := [], harness := (true, "d1127676cde406df66a8f21ef7c41cab55b5516e12f18cbef1bc58c92329363e"), looks := false }, kinds := [], alts := [], laidByText := true, laidKinds := [.data], laidTests := true, laidLooks := .later }
def FnExactNewMemoryCardSaid : Prop := Claim7.holds Tryd.pinned (.plain (OpenSpec.ofChange fnExactNewMemorySpec)) fnExactNewMemoryCard

/-- THE TIED CARD OF 'laws.FnExactFullSteps'. -/
def fnExactFullStepsCard : Claim7 := { stood := { row := fnExactFullStepsRow, standIns := [], harness := (true, "d1127676cde406df66a8f21ef7c41cab55b5516e12f18cbef1bc58c92329363e"), looks := false }, kinds := [], alts := [], laidByText := true, laidKinds := [.data], laidTests := true, laidLooks := .later }
def FnExactFullStepsCardSaid : Prop := Claim7.holds Tryd.pinned (.plain (OpenSpec.ofChange fnExactFullStepsSpec)) fnExactFullStepsCard

/-- THE TIED CARD OF 'laws.FnExactWorthIfSupplied'. -/
def fnExactWorthIfSuppliedCard : Claim7 := { stood := { row := fnExactWorthIfSuppliedRow, standIns := [], harness := (true, "d1127676cde406df66a8f21ef7c41cab55b5516e12f18cbef1bc58c92329363e"), looks := false }, kinds := [], alts := [], laidByText := true, laidKinds := [.data], laidTests := true, laidLooks := .later }
def FnExactWorthIfSuppliedCardSaid : Prop := Claim7.holds Tryd.pinned (.plain (OpenSpec.ofChange fnExactWorthIfSuppliedSpec)) fnExactWorthIfSuppliedCard

/-- THE TIED CARD OF 'laws.FnExactIsView'. -/
def fnExactIsViewCard : Claim7 := { stood := { row := fnExactIsViewRow, standIns := [], harness := (true, "d1127676cde406df66a8f21ef7c41cab55b5516e12f18cbef1bc58c92329363e"), looks := false }, kinds := [], alts := [], laidByText := true, laidKinds := [.data], laidTests := true, laidLooks := .later }
def FnExactIsViewCardSaid : Prop := Claim7.holds Tryd.pinned (.plain (OpenSpec.ofChange fnExactIsViewSpec)) fnExactIsViewCard

/-- THE TIED CARD OF 'laws.FnExactFireTarget'. -/
def fnExactFireTargetCard : Claim7 := { stood := { row := fnExactFireTargetRow, standIns := [], harness := (true, "d1127676cde406df66a8f21ef7c41cab55b5516e12f18cbef1bc58c92329363e"), looks := false }, kinds := [], alts := [], laidByText := true, laidKinds := [.data], laidTests := true, laidLooks := .later }
def FnExactFireTargetCardSaid : Prop := Claim7.holds Tryd.pinned (.plain (OpenSpec.ofChange fnExactFireTargetSpec)) fnExactFireTargetCard

/-- THE TIED CARD OF 'laws.FnExactAreReactions'. -/
def fnExactAreReactionsCard : Claim7 := { stood := { row := fnExactAreReactionsRow, standIns := [], harness := (true, "d1127676cde406df66a8f21ef7c41cab55b5516e12f18cbef1bc58c92329363e"), looks := false }, kinds := [], alts := [], laidByText := true, laidKinds := [.data], laidTests := true, laidLooks := .later }
def FnExactAreReactionsCardSaid : Prop := Claim7.holds Tryd.pinned (.plain (OpenSpec.ofChange fnExactAreReactionsSpec)) fnExactAreReactionsCard

/-- THE SECOND FORM's CARD OF 'laws.FnExactIsMemory'. -/
def fnExactIsMemoryUptoCard : Claim7 := { stood := { row := fnExactIsMemoryUptoRow, standIns := [], harness := (true, "d1127676cde406df66a8f21ef7c41cab55b5516e12f18cbef1bc58c92329363e"), looks := false }, kinds := [], alts := [], laidByText := true, laidKinds := [.data], laidTests := true, laidLooks := .later }
def FnExactIsMemoryUptoCardSaid : Prop := Claim7.holds Tryd.pinned (.plain (OpenSpec.upto fnExactIsMemorySpec)) fnExactIsMemoryUptoCard

/-- THE SECOND FORM's CARD OF 'laws.FnExactAreConditions'. -/
def fnExactAreConditionsUptoCard : Claim7 := { stood := { row := fnExactAreConditionsUptoRow, standIns := [], harness := (true, "d1127676cde406df66a8f21ef7c41cab55b5516e12f18cbef1bc58c92329363e"), looks := false }, kinds := [], alts := [], laidByText := true, laidKinds := [.data], laidTests := true, laidLooks := .later }
def FnExactAreConditionsUptoCardSaid : Prop := Claim7.holds Tryd.pinned (.plain (OpenSpec.upto fnExactAreConditionsSpec)) fnExactAreConditionsUptoCard

/-- THE SECOND FORM's CARD OF 'laws.FnExactMostPoints'. -/
def fnExactMostPointsUptoCard : Claim7 := { stood := { row := fnExactMostPointsUptoRow, standIns := [], harness := (true, "d1127676cde406df66a8f21ef7c41cab55b5516e12f18cbef1bc58c92329363e"), looks := false }, kinds := [], alts := [], laidByText := true, laidKinds := [.data], laidTests := true, laidLooks := .later }
def FnExactMostPointsUptoCardSaid : Prop := Claim7.holds Tryd.pinned (.plain (OpenSpec.upto fnExactMostPointsSpec)) fnExactMostPointsUptoCard

/-- THE SECOND FORM's CARD OF 'laws.FnExactStaleHexes'. -/
def fnExactStaleHexesUptoCard : Claim7 := { stood := { row := fnExactStaleHexesUptoRow, standIns := [], harness := (true, "d1127676cde406df66a8f21ef7c41cab55b5516e12f18cbef1bc58c92329363e"), looks := false }, kinds := [], alts := [], laidByText := true, laidKinds := [.data], laidTests := true, laidLooks := .later }
def FnExactStaleHexesUptoCardSaid : Prop := Claim7.holds Tryd.pinned (.plain (OpenSpec.upto fnExactStaleHexesSpec)) fnExactStaleHexesUptoCard

/-- THE SECOND FORM's CARD OF 'laws.FnExactSuspectedHexes'. -/
def fnExactSuspectedHexesUptoCard : Claim7 := { stood := { row := fnExactSuspectedHexesUptoRow, standIns := [], harness := (true, "d1127676cde406df66a8f21ef7c41cab55b5516e12f18cbef1bc58c92329363e"), looks := false }, kinds := [], alts := [], laidByText := true, laidKinds := [.data], laidTests := true, laidLooks := .later }
def FnExactSuspectedHexesUptoCardSaid : Prop := Claim7.holds Tryd.pinned (.plain (OpenSpec.upto fnExactSuspectedHexesSpec)) fnExactSuspectedHexesUptoCard

/-- THE SECOND FORM's CARD OF 'laws.FnExactNewMemory'. -/
def fnExactNewMemoryUptoCard : Claim7 := { stood := { row := fnExactNewMemoryUptoRow, standIns := [], harness := (true, "d1127676cde406df66a8f21ef7c41cab55b5516e12f18cbef1bc58c92329363e"), looks := false }, kinds := [], alts := [], laidByText := true, laidKinds := [.data], laidTests := true, laidLooks := .later }
def FnExactNewMemoryUptoCardSaid : Prop := Claim7.holds Tryd.pinned (.plain (OpenSpec.upto fnExactNewMemorySpec)) fnExactNewMemoryUptoCard

/-- THE SECOND FORM's CARD OF 'laws.FnExactFullSteps'. -/
def fnExactFullStepsUptoCard : Claim7 := { stood := { row := fnExactFullStepsUptoRow, standIns := [], harness := (true, "d1127676cde406df66a8f21ef7c41cab55b5516e12f18cbef1bc58c92329363e"), looks := false }, kinds := [], alts := [], laidByText := true, laidKinds := [.data], laidTests := true, laidLooks := .later }
def FnExactFullStepsUptoCardSaid : Prop := Claim7.holds Tryd.pinned (.plain (OpenSpec.upto fnExactFullStepsSpec)) fnExactFullStepsUptoCard

/-- THE SECOND FORM's CARD OF 'laws.FnExactWorthIfSupplied'. -/
def fnExactWorthIfSuppliedUptoCard : Claim7 := { stood := { row := fnExactWorthIfSuppliedUptoRow, standIns := [], harness := (true, "d1127676cde406df66a8f21ef7c41cab55b5516e12f18cbef1bc58c92329363e"), looks := false }, kinds := [], alts := [], laidByText := true, laidKinds := [.data], laidTests := true, laidLooks := .later }
def FnExactWorthIfSuppliedUptoCardSaid : Prop := Claim7.holds Tryd.pinned (.plain (OpenSpec.upto fnExactWorthIfSuppliedSpec)) fnExactWorthIfSuppliedUptoCard

/-- THE SECOND FORM's CARD OF 'laws.FnExactIsView'. -/
def fnExactIsViewUptoCard : Claim7 := { stood := { row := fnExactIsViewUptoRow, standIns := [], harness := (true, "d1127676cde406df66a8f21ef7c41cab55b5516e12f18cbef1bc58c92329363e"), looks := false }, kinds := [], alts := [], laidByText := true, laidKinds := [.data], laidTests := true, laidLooks := .later }
def FnExactIsViewUptoCardSaid : Prop := Claim7.holds Tryd.pinned (.plain (OpenSpec.upto fnExactIsViewSpec)) fnExactIsViewUptoCard

/-- THE SECOND FORM's CARD OF 'laws.FnExactFireTarget'. -/
def fnExactFireTargetUptoCard : Claim7 := { stood := { row := fnExactFireTargetUptoRow, standIns := [], harness := (true, "d1127676cde406df66a8f21ef7c41cab55b5516e12f18cbef1bc58c92329363e"), looks := false }, kinds := [], alts := [], laidByText := true, laidKinds := [.data], laidTests := true, laidLooks := .later }
def FnExactFireTargetUptoCardSaid : Prop := Claim7.holds Tryd.pinned (.plain (OpenSpec.upto fnExactFireTargetSpec)) fnExactFireTargetUptoCard

/-- THE SECOND FORM's CARD OF 'laws.FnExactAreReactions'. -/
def fnExactAreReactionsUptoCard : Claim7 := { stood := { row := fnExactAreReactionsUptoRow, standIns := [], harness := (true, "d1127676cde406df66a8f21ef7c41cab55b5516e12f18cbef1bc58c92329363e"), looks := false }, kinds := [], alts := [], laidByText := true, laidKinds := [.data], laidTests := true, laidLooks := .later }
def FnExactAreReactionsUptoCardSaid : Prop := Claim7.holds Tryd.pinned (.plain (OpenSpec.upto fnExactAreReactionsSpec)) fnExactAreReactionsUptoCard
end Rows
end Go.Proofs.YtfpafaampjgckaaDoor
