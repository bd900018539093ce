/- A closed fact about the row FnExactNextReaction; no condition. -/
import Derived.Test.YtfmeidhialmckaaGreatDoorRows
import Derived.JoinedOf
import Derived.SevenTiedAt
import Derived.KernelRfl
set_option linter.unusedVariables false
set_option linter.unusedSimpArgs false
namespace Go.Proofs.YtfmeidhialmckaaGreatDoor.fnExactNextReaction
open Go Go.Proofs
theorem k4 : Rows.fnExactNextReactionRow.wfByText (OpenSpec.ofChange Rows.fnExactNextReactionSpec) = true := by kernel_rfl
theorem k5 : Tryz.prog.funcNamed "loop.example/g00886/laws.FnExactNextReaction" = some 6 := by kernel_rfl
end Go.Proofs.YtfmeidhialmckaaGreatDoor.fnExactNextReaction
