/- A closed fact about the row FnExactGoalPoints; no condition. -/
import Derived.Test.YtihggbgmdlhlcaaGreatDoorRows
import Derived.JoinedOf
import Derived.SevenTiedAt
import Derived.KernelRfl
set_option linter.unusedVariables false
set_option linter.unusedSimpArgs false
namespace Go.Proofs.YtihggbgmdlhlcaaGreatDoor.fnExactGoalPoints
open Go Go.Proofs
theorem k4 : Rows.fnExactGoalPointsRow.wfByText (OpenSpec.ofChange Rows.fnExactGoalPointsSpec) = true := by kernel_rfl
theorem k5 : Tryz.prog.funcNamed "loop.example/g00886/laws.FnExactGoalPoints" = some 11 := by kernel_rfl
end Go.Proofs.YtihggbgmdlhlcaaGreatDoor.fnExactGoalPoints
