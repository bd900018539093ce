/- A closed fact; no condition. -/
import Derived.Test.YteenmeomlhkphaaGreatDoorRows
import Derived.JoinedOf
import Derived.SevenTiedAt
import Derived.KernelRfl
set_option linter.unusedVariables false
set_option linter.unusedSimpArgs false
namespace Go.Proofs.YteenmeomlhkphaaGreatDoor.fnExactViewOf
open Go Go.Proofs
theorem k4 : Rows.fnExactViewOfRow.wfByText (OpenSpec.ofChange Rows.fnExactViewOfSpec) = true := by kernel_rfl
theorem k5 : Tryz.prog.funcNamed "loop.example/g00886/laws.FnExactViewOf" = some 9 := by kernel_rfl
end Go.Proofs.YteenmeomlhkphaaGreatDoor.fnExactViewOf
