/- A closed fact about the row FnExactStartMachine; no condition. -/
import Derived.Test.YteenmeomlhkphaaGreatDoorRows
import Derived.JoinedOf
import Derived.SevenTiedAt
import Derived.KernelRfl
set_option linter.unusedVariables false
set_option linter.unusedSimpArgs false
namespace Go.Proofs.YteenmeomlhkphaaGreatDoor.fnExactStartMachine
open Go Go.Proofs
theorem k4 : Rows.fnExactStartMachineRow.wfByText (OpenSpec.ofChange Rows.fnExactStartMachineSpec) = true := by kernel_rfl
theorem k5 : Tryz.prog.funcNamed "loop.example/g00886/laws.FnExactStartMachine" = some 4 := by kernel_rfl
end Go.Proofs.YteenmeomlhkphaaGreatDoor.fnExactStartMachine
