/- A closed fact; no condition. -/
import Derived.Test.YtockjpnbfllmaaaGreatDoorRows
import Derived.JoinedOf
import Derived.SevenTiedAt
import Derived.KernelRfl
set_option linter.unusedVariables false
set_option linter.unusedSimpArgs false
namespace Go.Proofs.YtockjpnbfllmaaaGreatDoor.fnExactSameReport
open Go Go.Proofs
theorem k1 : Tryz.prog.mainIs = some (true, "80cb33bb1eb7f7a6ad0b8099af4c5cc10edd08b45e57cbae486f9d11672376b4".toList) := by kernel_rfl
end Go.Proofs.YtockjpnbfllmaaaGreatDoor.fnExactSameReport
