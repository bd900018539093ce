/- A closed fact about the row FnExactSideWorth; no condition. -/
import Derived.Test.YtihggbgmdlhlcaaGreatDoorRows
import Derived.JoinedOf
import Derived.SevenTiedAt
import Derived.KernelRfl
set_option linter.unusedVariables false
set_option linter.unusedSimpArgs false
namespace Go.Proofs.YtihggbgmdlhlcaaGreatDoor.fnExactSideWorth
open Go Go.Proofs
theorem k1 : Tryz.prog.mainIs = some (true, "5cc8fc11dd3ddf3d5f6457482cd9330f2b700f86da6b03302e136146b6067f79".toList) := by kernel_rfl
end Go.Proofs.YtihggbgmdlhlcaaGreatDoor.fnExactSideWorth
