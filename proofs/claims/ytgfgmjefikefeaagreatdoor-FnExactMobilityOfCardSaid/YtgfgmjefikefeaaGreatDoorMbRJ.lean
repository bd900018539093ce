/- A closed fact; no condition. -/
import Derived.Test.YtgfgmjefikefeaaGreatDoorRows
import Derived.JoinedOf
import Derived.SevenTiedAt
import Derived.KernelRfl
set_option linter.unusedVariables false
set_option linter.unusedSimpArgs false
namespace Go.Proofs.YtgfgmjefikefeaaGreatDoor.fnExactMobilityOf
open Go Go.Proofs
theorem k1 : Tryz.prog.mainIs = some (true, "5be826b1d7a7646ead91cffc440f3359bfa1b94b3c188d04616258106abc7aaa".toList) := by kernel_rfl
end Go.Proofs.YtgfgmjefikefeaaGreatDoor.fnExactMobilityOf
