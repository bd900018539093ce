/- A closed fact about the row FnExactFrontUnits; no condition. -/
import Derived.Test.YtociagbpecpcnaaGreatDoorRows
import Derived.JoinedOf
import Derived.SevenTiedAt
import Derived.KernelRfl
set_option linter.unusedVariables false
set_option linter.unusedSimpArgs false
namespace Go.Proofs.YtociagbpecpcnaaGreatDoor.fnExactFrontUnits
open Go Go.Proofs
theorem k4 : Rows.fnExactFrontUnitsRow.wfByText (OpenSpec.ofChange Rows.fnExactFrontUnitsSpec) = true := by kernel_rfl
theorem k5 : Tryz.prog.funcNamed "loop.example/g00886/laws.FnExactFrontUnits" = some 3 := by kernel_rfl
end Go.Proofs.YtociagbpecpcnaaGreatDoor.fnExactFrontUnits
