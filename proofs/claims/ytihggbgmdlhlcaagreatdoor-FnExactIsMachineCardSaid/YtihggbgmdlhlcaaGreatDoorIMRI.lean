/- A closed fact about the row FnExactIsMachine; no condition. -/
import Derived.Test.YtihggbgmdlhlcaaGreatDoorRows
import Derived.JoinedOf
import Derived.SevenTiedAt
import Derived.KernelRfl
set_option linter.unusedVariables false
set_option linter.unusedSimpArgs false
namespace Go.Proofs.YtihggbgmdlhlcaaGreatDoor.fnExactIsMachine
open Go Go.Proofs
theorem f26 : ((Rows.fnExactIsMachineRow.lifted == Tryz.prog.liftsFinal)) = true := by kernel_rfl
theorem f27 : ((Tryz.prog.make == some Rows.fnExactIsMachineRow.make)) = true := by kernel_rfl
end Go.Proofs.YtihggbgmdlhlcaaGreatDoor.fnExactIsMachine
