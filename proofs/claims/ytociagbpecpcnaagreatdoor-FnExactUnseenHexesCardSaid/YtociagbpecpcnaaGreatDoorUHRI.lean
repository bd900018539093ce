/- A closed fact about the row FnExactUnseenHexes; no condition. -/
import Derived.Test.YtociagbpecpcnaaGreatDoorRows
import Derived.JoinedOf
import Derived.SevenTiedAt
import Derived.KernelRfl
set_option linter.unusedVariables false
set_option linter.unusedSimpArgs false
namespace Go.Proofs.YtociagbpecpcnaaGreatDoor.fnExactUnseenHexes
open Go Go.Proofs
theorem f26 : ((Rows.fnExactUnseenHexesRow.lifted == Tryz.prog.liftsFinal)) = true := by kernel_rfl
theorem f27 : ((Tryz.prog.make == some Rows.fnExactUnseenHexesRow.make)) = true := by kernel_rfl
end Go.Proofs.YtociagbpecpcnaaGreatDoor.fnExactUnseenHexes
