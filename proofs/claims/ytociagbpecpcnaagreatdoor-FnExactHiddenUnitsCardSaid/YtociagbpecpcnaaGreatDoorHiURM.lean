/- A closed fact about the row FnExactHiddenUnits; no condition. -/
import Derived.Test.YtociagbpecpcnaaGreatDoorRows
import Derived.JoinedOf
import Derived.SevenTiedAt
import Derived.KernelRfl
set_option linter.unusedVariables false
set_option linter.unusedSimpArgs false
namespace Go.Proofs.YtociagbpecpcnaaGreatDoor.fnExactHiddenUnits
open Go Go.Proofs
theorem k4 : Rows.fnExactHiddenUnitsRow.wfByText (OpenSpec.ofChange Rows.fnExactHiddenUnitsSpec) = true := by kernel_rfl
theorem k5 : Tryz.prog.funcNamed "loop.example/g00886/laws.FnExactHiddenUnits" = some 11 := by kernel_rfl
end Go.Proofs.YtociagbpecpcnaaGreatDoor.fnExactHiddenUnits
