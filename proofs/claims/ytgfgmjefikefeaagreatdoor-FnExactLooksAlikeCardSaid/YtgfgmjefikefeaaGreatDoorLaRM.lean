/- A closed fact; no condition. -/
import Derived.Test.YtgfgmjefikefeaaGreatDoorRows
import Derived.JoinedOf
import Derived.SevenTiedAt
import Derived.KernelRfl
set_option linter.unusedVariables false
set_option linter.unusedSimpArgs false
namespace Go.Proofs.YtgfgmjefikefeaaGreatDoor.fnExactLooksAlike
open Go Go.Proofs
theorem k4 : Rows.fnExactLooksAlikeRow.wfByText (OpenSpec.ofChange Rows.fnExactLooksAlikeSpec) = true := by kernel_rfl
theorem k5 : Tryz.prog.funcNamed "loop.example/g00886/laws.FnExactLooksAlike" = some 5 := by kernel_rfl
end Go.Proofs.YtgfgmjefikefeaaGreatDoor.fnExactLooksAlike
