/- A closed fact; no condition. -/
import Derived.Test.YtgfgmjefikefeaaGreatDoorRows
import Derived.JoinedOf
import Derived.SevenTiedAt
import Derived.KernelRfl
set_option linter.unusedVariables false
set_option linter.unusedSimpArgs false
namespace Go.Proofs.YtgfgmjefikefeaaGreatDoor.fnExactMobilityOf
open Go Go.Proofs
theorem k4 : Rows.fnExactMobilityOfRow.wfByText (OpenSpec.ofChange Rows.fnExactMobilityOfSpec) = true := by kernel_rfl
theorem k5 : Tryz.prog.funcNamed "loop.example/g00886/laws.FnExactMobilityOf" = some 3 := by kernel_rfl
end Go.Proofs.YtgfgmjefikefeaaGreatDoor.fnExactMobilityOf
