/- A closed fact; no condition. -/
import Derived.Test.YteenmeomlhkphaaGreatDoorRows
import Derived.JoinedOf
import Derived.SevenTiedAt
import Derived.KernelRfl
set_option linter.unusedVariables false
set_option linter.unusedSimpArgs false
namespace Go.Proofs.YteenmeomlhkphaaGreatDoor.fnExactViewOf
open Go Go.Proofs
theorem k3 : false = Rows.fnExactViewOfRow.goesBy Tryz.prog := by kernel_rfl
end Go.Proofs.YteenmeomlhkphaaGreatDoor.fnExactViewOf
