/- A closed fact; no condition. -/
import Derived.Test.YtgfgmjefikefeaaGreatDoorRows
import Derived.JoinedOf
import Derived.SevenTiedAt
import Derived.KernelRfl
set_option linter.unusedVariables false
set_option linter.unusedSimpArgs false
namespace Go.Proofs.YtgfgmjefikefeaaGreatDoor.fnExactMobilityOf
open Go Go.Proofs
theorem f26 : ((Rows.fnExactMobilityOfRow.lifted == Tryz.prog.liftsFinal)) = true := by kernel_rfl
theorem f27 : ((Tryz.prog.make == some Rows.fnExactMobilityOfRow.make)) = true := by kernel_rfl
end Go.Proofs.YtgfgmjefikefeaaGreatDoor.fnExactMobilityOf
