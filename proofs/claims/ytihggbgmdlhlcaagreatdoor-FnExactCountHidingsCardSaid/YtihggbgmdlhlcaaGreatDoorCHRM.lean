/- A closed fact about the row FnExactCountHidings; no condition. -/
import Derived.Test.YtihggbgmdlhlcaaGreatDoorRows
import Derived.JoinedOf
import Derived.SevenTiedAt
import Derived.KernelRfl
set_option linter.unusedVariables false
set_option linter.unusedSimpArgs false
namespace Go.Proofs.YtihggbgmdlhlcaaGreatDoor.fnExactCountHidings
open Go Go.Proofs
theorem k4 : Rows.fnExactCountHidingsRow.wfByText (OpenSpec.ofChange Rows.fnExactCountHidingsSpec) = true := by kernel_rfl
theorem k5 : Tryz.prog.funcNamed "loop.example/g00886/laws.FnExactCountHidings" = some 3 := by kernel_rfl
end Go.Proofs.YtihggbgmdlhlcaaGreatDoor.fnExactCountHidings
