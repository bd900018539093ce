/- A closed fact; no condition. -/
import Derived.Test.YtockjpnbfllmaaaGreatDoorRows
import Derived.JoinedOf
import Derived.SevenTiedAt
import Derived.KernelRfl
set_option linter.unusedVariables false
set_option linter.unusedSimpArgs false
namespace Go.Proofs.YtockjpnbfllmaaaGreatDoor.fnExactSameReport
open Go Go.Proofs
theorem k2 : false = Tryz.prog.looks [] := by kernel_rfl
end Go.Proofs.YtockjpnbfllmaaaGreatDoor.fnExactSameReport
