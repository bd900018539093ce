/-
  DERIVED. GIVEN WITH THE SEED: THE CARDS: each row of YtjlabdoeiphegaaDoorRows.lean that lists a variable, with what it lists TIED to the program's text (the seventh form; the later family's looks); each row that meets fmt, with fmt's text TOLD by the authors' own Lean function (tested against real Go, not proved from fmt's source: count such statements apart). THE CARD IS WHAT COUNTS. Prove the row's statement (the work); the ties are given (YtjlabdoeiphegaaDoorTie.lean); close each card by the builder's one call (the guide's Derived/Test/ToyasCard.lean, 'card_holds'). Laid BY PROGRAM, IN A SANDBOX (cutbox-door.mjs). By AI agents, Wed Nov 11 2026. No macro, syntax, notation, axiom, sorry.
-/
import Derived.Test.YtjlabdoeiphegaaDoorRows
import GoSem.ClaimSeven
namespace Go.Proofs.YtjlabdoeiphegaaDoor
namespace Rows

/-- THE TIED CARD OF 'laws.FnExactNewMemory'. -/
def fnExactNewMemoryCard : Claim7 := { stood := { row := fnExactNewMemoryRow, standIns := [], harness := (true, "ae49d918e46002018b7eceffb066cd1e315435f4eaf0067a65c55587a72e4ed8"), looks := false }, kinds := [], alts := [], laidByText := true, laidKinds := [.data], laidTests := true, laidLooks := .later }
def FnExactNewMemoryCardSaid : Prop := Claim7.holds Tryd.pinned (.plain (OpenSpec.ofChange fnExactNewMemorySpec)) fnExactNewMemoryCard

/-- THE SECOND FORM's CARD OF 'laws.FnExactNewMemory'. -/
def fnExactNewMemoryUptoCard : Claim7 := { stood := { row := fnExactNewMemoryUptoRow, standIns := [], harness := (true, "ae49d918e46002018b7eceffb066cd1e315435f4eaf0067a65c55587a72e4ed8"), looks := false }, kinds := [], alts := [], laidByText := true, laidKinds := [.data], laidTests := true, laidLooks := .later }
def FnExactNewMemoryUptoCardSaid : Prop := Claim7.holds Tryd.pinned (.plain (OpenSpec.upto fnExactNewMemorySpec)) fnExactNewMemoryUptoCard
end Rows
end Go.Proofs.YtjlabdoeiphegaaDoor
