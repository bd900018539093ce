/- A closed fact about the row FnExactSpottersOf; no condition. -/
import Derived.Test.YtociagbpecpcnaaGreatDoorRows
import Derived.JoinedOf
import Derived.SevenTiedAt
import Derived.KernelRfl
set_option linter.unusedVariables false
set_option linter.unusedSimpArgs false
namespace Go.Proofs.YtociagbpecpcnaaGreatDoor.fnExactSpottersOf
open Go Go.Proofs
theorem f26 : ((Rows.fnExactSpottersOfRow.lifted == Tryz.prog.liftsFinal)) = true := by kernel_rfl
theorem f27 : ((Tryz.prog.make == some Rows.fnExactSpottersOfRow.make)) = true := by kernel_rfl
end Go.Proofs.YtociagbpecpcnaaGreatDoor.fnExactSpottersOf
