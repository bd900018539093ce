/- A closed fact about the row FnExactHiddenThreat; no condition. -/
import Derived.Test.YtihggbgmdlhlcaaGreatDoorRows
import Derived.JoinedOf
import Derived.SevenTiedAt
import Derived.KernelRfl
set_option linter.unusedVariables false
set_option linter.unusedSimpArgs false
namespace Go.Proofs.YtihggbgmdlhlcaaGreatDoor.fnExactHiddenThreat
open Go Go.Proofs
theorem k4 : Rows.fnExactHiddenThreatRow.wfByText (OpenSpec.ofChange Rows.fnExactHiddenThreatSpec) = true := by kernel_rfl
theorem k5 : Tryz.prog.funcNamed "loop.example/g00886/laws.FnExactHiddenThreat" = some 5 := by kernel_rfl
end Go.Proofs.YtihggbgmdlhlcaaGreatDoor.fnExactHiddenThreat
