/- A closed fact about the row FnExactSideWorth; no condition. -/
import Derived.Test.YtihggbgmdlhlcaaGreatDoorRows
import Derived.JoinedOf
import Derived.SevenTiedAt
import Derived.KernelRfl
set_option linter.unusedVariables false
set_option linter.unusedSimpArgs false
namespace Go.Proofs.YtihggbgmdlhlcaaGreatDoor.fnExactSideWorth
open Go Go.Proofs
theorem k4 : Rows.fnExactSideWorthRow.wfByText (OpenSpec.ofChange Rows.fnExactSideWorthSpec) = true := by kernel_rfl
theorem k5 : Tryz.prog.funcNamed "loop.example/g00886/laws.FnExactSideWorth" = some 12 := by kernel_rfl
end Go.Proofs.YtihggbgmdlhlcaaGreatDoor.fnExactSideWorth
