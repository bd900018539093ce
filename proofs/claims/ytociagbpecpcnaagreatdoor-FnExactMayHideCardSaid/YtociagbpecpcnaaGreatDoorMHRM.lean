/- A closed fact about the row FnExactMayHide; no condition. -/
import Derived.Test.YtociagbpecpcnaaGreatDoorRows
import Derived.JoinedOf
import Derived.SevenTiedAt
import Derived.KernelRfl
set_option linter.unusedVariables false
set_option linter.unusedSimpArgs false
namespace Go.Proofs.YtociagbpecpcnaaGreatDoor.fnExactMayHide
open Go Go.Proofs
theorem k4 : Rows.fnExactMayHideRow.wfByText (OpenSpec.ofChange Rows.fnExactMayHideSpec) = true := by kernel_rfl
theorem k5 : Tryz.prog.funcNamed "loop.example/g00886/laws.FnExactMayHide" = some 6 := by kernel_rfl
end Go.Proofs.YtociagbpecpcnaaGreatDoor.fnExactMayHide
