/- A closed fact; no condition. -/
import Derived.Test.YteenmeomlhkphaaGreatDoorRows
import Derived.JoinedOf
import Derived.SevenTiedAt
import Derived.KernelRfl
set_option linter.unusedVariables false
set_option linter.unusedSimpArgs false
namespace Go.Proofs.YteenmeomlhkphaaGreatDoor.fnExactRunMachine
open Go Go.Proofs
theorem k4 : Rows.fnExactRunMachineRow.wfByText (OpenSpec.ofChange Rows.fnExactRunMachineSpec) = true := by kernel_rfl
theorem k5 : Tryz.prog.funcNamed "loop.example/g00886/laws.FnExactRunMachine" = some 8 := by kernel_rfl
end Go.Proofs.YteenmeomlhkphaaGreatDoor.fnExactRunMachine
