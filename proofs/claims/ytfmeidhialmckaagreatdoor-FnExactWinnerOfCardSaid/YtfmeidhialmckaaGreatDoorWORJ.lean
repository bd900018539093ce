/- A closed fact about the row FnExactWinnerOf; no condition. -/
import Derived.Test.YtfmeidhialmckaaGreatDoorRows
import Derived.JoinedOf
import Derived.SevenTiedAt
import Derived.KernelRfl
set_option linter.unusedVariables false
set_option linter.unusedSimpArgs false
namespace Go.Proofs.YtfmeidhialmckaaGreatDoor.fnExactWinnerOf
open Go Go.Proofs
theorem k1 : Tryz.prog.mainIs = some (true, "c8193c3be16ae02a70f598e768af905173c75a911500b2c3fe3d868ca50cf0ea".toList) := by kernel_rfl
end Go.Proofs.YtfmeidhialmckaaGreatDoor.fnExactWinnerOf
