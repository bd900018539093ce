/- A closed fact about the row FnExactNearestGoal; no condition. -/
import Derived.Test.YtihggbgmdlhlcaaGreatDoorRows
import Derived.JoinedOf
import Derived.SevenTiedAt
import Derived.KernelRfl
set_option linter.unusedVariables false
set_option linter.unusedSimpArgs false
namespace Go.Proofs.YtihggbgmdlhlcaaGreatDoor.fnExactNearestGoal
open Go Go.Proofs
theorem k4 : Rows.fnExactNearestGoalRow.wfByText (OpenSpec.ofChange Rows.fnExactNearestGoalSpec) = true := by kernel_rfl
theorem k5 : Tryz.prog.funcNamed "loop.example/g00886/laws.FnExactNearestGoal" = some 4 := by kernel_rfl
end Go.Proofs.YtihggbgmdlhlcaaGreatDoor.fnExactNearestGoal
