/- A closed fact about the row FnExactGroundOf; no condition. -/
import Derived.Test.YtihggbgmdlhlcaaGreatDoorRows
import Derived.JoinedOf
import Derived.SevenTiedAt
import Derived.KernelRfl
set_option linter.unusedVariables false
set_option linter.unusedSimpArgs false
namespace Go.Proofs.YtihggbgmdlhlcaaGreatDoor.fnExactGroundOf
open Go Go.Proofs
theorem k4 : Rows.fnExactGroundOfRow.wfByText (OpenSpec.ofChange Rows.fnExactGroundOfSpec) = true := by kernel_rfl
theorem k5 : Tryz.prog.funcNamed "loop.example/g00886/laws.FnExactGroundOf" = some 7 := by kernel_rfl
end Go.Proofs.YtihggbgmdlhlcaaGreatDoor.fnExactGroundOf
