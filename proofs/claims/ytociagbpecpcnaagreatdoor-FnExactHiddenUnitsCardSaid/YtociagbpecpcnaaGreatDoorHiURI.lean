/- A closed fact about the row FnExactHiddenUnits; no condition. -/
import Derived.Test.YtociagbpecpcnaaGreatDoorRows
import Derived.JoinedOf
import Derived.SevenTiedAt
import Derived.KernelRfl
set_option linter.unusedVariables false
set_option linter.unusedSimpArgs false
namespace Go.Proofs.YtociagbpecpcnaaGreatDoor.fnExactHiddenUnits
open Go Go.Proofs
theorem f26 : ((Rows.fnExactHiddenUnitsRow.lifted == Tryz.prog.liftsFinal)) = true := by kernel_rfl
theorem f27 : ((Tryz.prog.make == some Rows.fnExactHiddenUnitsRow.make)) = true := by kernel_rfl
end Go.Proofs.YtociagbpecpcnaaGreatDoor.fnExactHiddenUnits
