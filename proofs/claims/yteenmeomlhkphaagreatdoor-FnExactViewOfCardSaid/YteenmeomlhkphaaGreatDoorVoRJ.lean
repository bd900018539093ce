/- A closed fact; no condition. -/
import Derived.Test.YteenmeomlhkphaaGreatDoorRows
import Derived.JoinedOf
import Derived.SevenTiedAt
import Derived.KernelRfl
set_option linter.unusedVariables false
set_option linter.unusedSimpArgs false
namespace Go.Proofs.YteenmeomlhkphaaGreatDoor.fnExactViewOf
open Go Go.Proofs
theorem k1 : Tryz.prog.mainIs = some (true, "f9ded02df2f47823796a6c8e03d8f555f368eb7a8fe0a2167ef800ae436f9aba".toList) := by kernel_rfl
end Go.Proofs.YteenmeomlhkphaaGreatDoor.fnExactViewOf
