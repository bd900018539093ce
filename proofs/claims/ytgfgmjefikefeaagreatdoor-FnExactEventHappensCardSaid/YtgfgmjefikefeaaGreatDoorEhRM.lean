/- A closed fact; no condition. -/
import Derived.Test.YtgfgmjefikefeaaGreatDoorRows
import Derived.JoinedOf
import Derived.SevenTiedAt
import Derived.KernelRfl
set_option linter.unusedVariables false
set_option linter.unusedSimpArgs false
namespace Go.Proofs.YtgfgmjefikefeaaGreatDoor.fnExactEventHappens
open Go Go.Proofs
theorem k4 : Rows.fnExactEventHappensRow.wfByText (OpenSpec.ofChange Rows.fnExactEventHappensSpec) = true := by kernel_rfl
theorem k5 : Tryz.prog.funcNamed "loop.example/g00886/laws.FnExactEventHappens" = some 4 := by kernel_rfl
end Go.Proofs.YtgfgmjefikefeaaGreatDoor.fnExactEventHappens
