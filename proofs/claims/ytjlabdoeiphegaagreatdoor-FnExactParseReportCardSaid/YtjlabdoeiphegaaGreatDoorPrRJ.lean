/- A closed fact; no condition. -/
import Derived.Test.YtjlabdoeiphegaaGreatDoorRows
import Derived.JoinedOf
import Derived.SevenTiedAt
import Derived.KernelRfl
set_option linter.unusedVariables false
set_option linter.unusedSimpArgs false
namespace Go.Proofs.YtjlabdoeiphegaaGreatDoor.fnExactParseReport
open Go Go.Proofs
theorem k1 : Tryz.prog.mainIs = some (true, "7763377871fc6dd1020e137af40c9fde247f33351d429c048147ae23061dbb1f".toList) := by kernel_rfl
end Go.Proofs.YtjlabdoeiphegaaGreatDoor.fnExactParseReport
