/- A closed fact about the row FnExactHolderOf; no condition. -/
import Derived.Test.YtihggbgmdlhlcaaGreatDoorRows
import Derived.JoinedOf
import Derived.SevenTiedAt
import Derived.KernelRfl
set_option linter.unusedVariables false
set_option linter.unusedSimpArgs false
namespace Go.Proofs.YtihggbgmdlhlcaaGreatDoor.fnExactHolderOf
open Go Go.Proofs
theorem k4 : Rows.fnExactHolderOfRow.wfByText (OpenSpec.ofChange Rows.fnExactHolderOfSpec) = true := by kernel_rfl
theorem k5 : Tryz.prog.funcNamed "loop.example/g00886/laws.FnExactHolderOf" = some 6 := by kernel_rfl
end Go.Proofs.YtihggbgmdlhlcaaGreatDoor.fnExactHolderOf
