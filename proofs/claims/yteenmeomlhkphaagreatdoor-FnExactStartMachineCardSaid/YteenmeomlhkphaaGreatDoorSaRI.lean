/- A closed fact about the row FnExactStartMachine; no condition. -/
import Derived.Test.YteenmeomlhkphaaGreatDoorRows
import Derived.JoinedOf
import Derived.SevenTiedAt
import Derived.KernelRfl
set_option linter.unusedVariables false
set_option linter.unusedSimpArgs false
namespace Go.Proofs.YteenmeomlhkphaaGreatDoor.fnExactStartMachine
open Go Go.Proofs
theorem f26 : ((Rows.fnExactStartMachineRow.lifted == Tryz.prog.liftsFinal)) = true := by kernel_rfl
theorem f27 : ((Tryz.prog.make == some Rows.fnExactStartMachineRow.make)) = true := by kernel_rfl
end Go.Proofs.YteenmeomlhkphaaGreatDoor.fnExactStartMachine
