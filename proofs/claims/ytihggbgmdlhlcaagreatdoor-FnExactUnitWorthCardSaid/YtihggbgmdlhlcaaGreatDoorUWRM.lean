/- A closed fact about the row FnExactUnitWorth; no condition. -/
import Derived.Test.YtihggbgmdlhlcaaGreatDoorRows
import Derived.JoinedOf
import Derived.SevenTiedAt
import Derived.KernelRfl
set_option linter.unusedVariables false
set_option linter.unusedSimpArgs false
namespace Go.Proofs.YtihggbgmdlhlcaaGreatDoor.fnExactUnitWorth
open Go Go.Proofs
theorem k4 : Rows.fnExactUnitWorthRow.wfByText (OpenSpec.ofChange Rows.fnExactUnitWorthSpec) = true := by kernel_rfl
theorem k5 : Tryz.prog.funcNamed "loop.example/g00886/laws.FnExactUnitWorth" = some 10 := by kernel_rfl
end Go.Proofs.YtihggbgmdlhlcaaGreatDoor.fnExactUnitWorth
