/- A closed fact about the row FnExactWinnerOf; no condition. -/
import Derived.Test.YtfmeidhialmckaaGreatDoorRows
import Derived.JoinedOf
import Derived.SevenTiedAt
import Derived.KernelRfl
set_option linter.unusedVariables false
set_option linter.unusedSimpArgs false
namespace Go.Proofs.YtfmeidhialmckaaGreatDoor.fnExactWinnerOf
open Go Go.Proofs
theorem k3 : false = Rows.fnExactWinnerOfRow.goesBy Tryz.prog := by kernel_rfl
end Go.Proofs.YtfmeidhialmckaaGreatDoor.fnExactWinnerOf
