/- A closed fact about the row FnExactPointsNeeded; no condition. -/
import Derived.Test.YtihggbgmdlhlcaaGreatDoorRows
import Derived.JoinedOf
import Derived.SevenTiedAt
import Derived.KernelRfl
set_option linter.unusedVariables false
set_option linter.unusedSimpArgs false
namespace Go.Proofs.YtihggbgmdlhlcaaGreatDoor.fnExactPointsNeeded
open Go Go.Proofs
theorem k4 : Rows.fnExactPointsNeededRow.wfByText (OpenSpec.ofChange Rows.fnExactPointsNeededSpec) = true := by kernel_rfl
theorem k5 : Tryz.prog.funcNamed "loop.example/g00886/laws.FnExactPointsNeeded" = some 14 := by kernel_rfl
end Go.Proofs.YtihggbgmdlhlcaaGreatDoor.fnExactPointsNeeded
