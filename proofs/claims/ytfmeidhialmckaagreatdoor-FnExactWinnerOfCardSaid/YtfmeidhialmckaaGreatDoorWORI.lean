/- A closed fact about the row FnExactWinnerOf; no condition. -/
import Derived.Test.YtfmeidhialmckaaGreatDoorRows
import Derived.JoinedOf
import Derived.SevenTiedAt
import Derived.KernelRfl
set_option linter.unusedVariables false
set_option linter.unusedSimpArgs false
namespace Go.Proofs.YtfmeidhialmckaaGreatDoor.fnExactWinnerOf
open Go Go.Proofs
theorem f26 : ((Rows.fnExactWinnerOfRow.lifted == Tryz.prog.liftsFinal)) = true := by kernel_rfl
theorem f27 : ((Tryz.prog.make == some Rows.fnExactWinnerOfRow.make)) = true := by kernel_rfl
end Go.Proofs.YtfmeidhialmckaaGreatDoor.fnExactWinnerOf
