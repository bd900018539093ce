/-
  DERIVED. GIVEN WITH THE SEED: THE CARDS: each row of YtociagbpecpcnaaDoorRows.lean that lists a variable, with what it lists TIED to the program's text (the seventh form; the later family's looks); each row that meets fmt, with fmt's text TOLD by the authors' own Lean function (tested against real Go, not proved from fmt's source: count such statements apart). THE CARD IS WHAT COUNTS. Prove the row's statement (the work); the ties are given (YtociagbpecpcnaaDoorTie.lean); close each card by the builder's one call (the guide's Derived/Test/ToyasCard.lean, 'card_holds'). Laid BY PROGRAM, IN A SANDBOX (cutbox-door.mjs). By AI agents, Wed Nov 11 2026. No macro, syntax, notation, axiom, sorry.
-/
import Derived.Test.YtociagbpecpcnaaDoorRows
import GoSem.ClaimSeven
namespace Go.Proofs.YtociagbpecpcnaaDoor
namespace Rows

/-- THE TIED CARD OF 'laws.FnExactStaleHexes'. -/
def fnExactStaleHexesCard : Claim7 := { stood := { row := fnExactStaleHexesRow, standIns := [], harness := (true, "69ca5448b38ddfd79e5299650701e1459d441216b95fb0f622a8811684e316b6"), looks := false }, kinds := [], alts := [], laidByText := true, laidKinds := [.data], laidTests := true, laidLooks := .later }
def FnExactStaleHexesCardSaid : Prop := Claim7.holds Tryd.pinned (.plain (OpenSpec.ofChange fnExactStaleHexesSpec)) fnExactStaleHexesCard

/-- THE TIED CARD OF 'laws.FnExactSuspectedHexes'. -/
def fnExactSuspectedHexesCard : Claim7 := { stood := { row := fnExactSuspectedHexesRow, standIns := [], harness := (true, "69ca5448b38ddfd79e5299650701e1459d441216b95fb0f622a8811684e316b6"), looks := false }, kinds := [], alts := [], laidByText := true, laidKinds := [.data], laidTests := true, laidLooks := .later }
def FnExactSuspectedHexesCardSaid : Prop := Claim7.holds Tryd.pinned (.plain (OpenSpec.ofChange fnExactSuspectedHexesSpec)) fnExactSuspectedHexesCard

/-- THE TIED CARD OF 'laws.FnExactNewMemory'. -/
def fnExactNewMemoryCard : Claim7 := { stood := { row := fnExactNewMemoryRow, standIns := [], harness := (true, "69ca5448b38ddfd79e5299650701e1459d441216b95fb0f622a8811684e316b6"), looks := false }, kinds := [], alts := [], laidByText := true, laidKinds := [.data], laidTests := true, laidLooks := .later }
def FnExactNewMemoryCardSaid : Prop := Claim7.holds Tryd.pinned (.plain (OpenSpec.ofChange fnExactNewMemorySpec)) fnExactNewMemoryCard

/-- THE SECOND FORM's CARD OF 'laws.FnExactStaleHexes'. -/
def fnExactStaleHexesUptoCard : Claim7 := { stood := { row := fnExactStaleHexesUptoRow, standIns := [], harness := (true, "69ca5448b38ddfd79e5299650701e1459d441216b95fb0f622a8811684e316b6"), looks := false }, kinds := [], alts := [], laidByText := true, laidKinds := [.data], laidTests := true, laidLooks := .later }
def FnExactStaleHexesUptoCardSaid : Prop := Claim7.holds Tryd.pinned (.plain (OpenSpec.upto fnExactStaleHexesSpec)) fnExactStaleHexesUptoCard

/-- THE SECOND FORM's CARD OF 'laws.FnExactSuspectedHexes'. -/
def fnExactSuspectedHexesUptoCard : Claim7 := { stood := { row := fnExactSuspectedHexesUptoRow, standIns := [], harness := (true, "69ca5448b38ddfd79e5299650701e1459d441216b95fb0f622a8811684e316b6"), looks := false }, kinds := [], alts := [], laidByText := true, laidKinds := [.data], laidTests := true, laidLooks := .later }
def FnExactSuspectedHexesUptoCardSaid : Prop := Claim7.holds Tryd.pinned (.plain (OpenSpec.upto fnExactSuspectedHexesSpec)) fnExactSuspectedHexesUptoCard

/-- THE SECOND FORM's CARD OF 'laws.FnExactNewMemory'. -/
def fnExactNewMemoryUptoCard : Claim7 := { stood := { row := fnExactNewMemoryUptoRow, standIns := [], harness := (true, "69ca5448b38ddfd79e5299650701e1459d441216b95fb0f622a8811684e316b6"), looks := false }, kinds := [], alts := [], laidByText := true, laidKinds := [.data], laidTests := true, laidLooks := .later }
def FnExactNewMemoryUptoCardSaid : Prop := Claim7.holds Tryd.pinned (.plain (OpenSpec.upto fnExactNewMemorySpec)) fnExactNewMemoryUptoCard
end Rows
end Go.Proofs.YtociagbpecpcnaaDoor
