/- A closed fact about the row FnExactTotalPoints; no condition. -/
import Derived.Test.YtihggbgmdlhlcaaGreatDoorRows
import Derived.JoinedOf
import Derived.SevenTiedAt
import Derived.KernelRfl
set_option linter.unusedVariables false
set_option linter.unusedSimpArgs false
namespace Go.Proofs.YtihggbgmdlhlcaaGreatDoor.fnExactTotalPoints
open Go Go.Proofs
theorem k4 : Rows.fnExactTotalPointsRow.wfByText (OpenSpec.ofChange Rows.fnExactTotalPointsSpec) = true := by kernel_rfl
theorem k5 : Tryz.prog.funcNamed "loop.example/g00886/laws.FnExactTotalPoints" = some 13 := by kernel_rfl
end Go.Proofs.YtihggbgmdlhlcaaGreatDoor.fnExactTotalPoints
