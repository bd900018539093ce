/- A closed fact; no condition. -/
import Derived.Test.YteenmeomlhkphaaGreatDoorRows
import Derived.JoinedOf
import Derived.SevenTiedAt
import Derived.KernelRfl
set_option linter.unusedVariables false
set_option linter.unusedSimpArgs false
namespace Go.Proofs.YteenmeomlhkphaaGreatDoor.fnExactUpdateMemory
open Go Go.Proofs
theorem k4 : Rows.fnExactUpdateMemoryRow.wfByText (OpenSpec.ofChange Rows.fnExactUpdateMemorySpec) = true := by kernel_rfl
theorem k5 : Tryz.prog.funcNamed "loop.example/g00886/laws.FnExactUpdateMemory" = some 6 := by kernel_rfl
end Go.Proofs.YteenmeomlhkphaaGreatDoor.fnExactUpdateMemory
