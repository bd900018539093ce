/- A closed fact about the row FnExactNewsOf; no condition. -/
import Derived.Test.YtociagbpecpcnaaGreatDoorRows
import Derived.JoinedOf
import Derived.SevenTiedAt
import Derived.KernelRfl
set_option linter.unusedVariables false
set_option linter.unusedSimpArgs false
namespace Go.Proofs.YtociagbpecpcnaaGreatDoor.fnExactNewsOf
open Go Go.Proofs
theorem k3 : false = Rows.fnExactNewsOfRow.goesBy Tryz.prog := by kernel_rfl
end Go.Proofs.YtociagbpecpcnaaGreatDoor.fnExactNewsOf
