/- A closed fact about the row FnExactIsMachine; no condition. -/
import Derived.Test.YtihggbgmdlhlcaaGreatDoorRows
import Derived.JoinedOf
import Derived.SevenTiedAt
import Derived.KernelRfl
set_option linter.unusedVariables false
set_option linter.unusedSimpArgs false
namespace Go.Proofs.YtihggbgmdlhlcaaGreatDoor.fnExactIsMachine
open Go Go.Proofs
theorem k4 : Rows.fnExactIsMachineRow.wfByText (OpenSpec.ofChange Rows.fnExactIsMachineSpec) = true := by kernel_rfl
theorem k5 : Tryz.prog.funcNamed "loop.example/g00886/laws.FnExactIsMachine" = some 9 := by kernel_rfl
end Go.Proofs.YtihggbgmdlhlcaaGreatDoor.fnExactIsMachine
