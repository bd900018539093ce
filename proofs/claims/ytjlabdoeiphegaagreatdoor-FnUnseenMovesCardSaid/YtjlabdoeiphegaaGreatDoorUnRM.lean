/- A closed fact; no condition. -/
import Derived.Test.YtjlabdoeiphegaaGreatDoorRows
import Derived.JoinedOf
import Derived.SevenTiedAt
import Derived.KernelRfl
set_option linter.unusedVariables false
set_option linter.unusedSimpArgs false
namespace Go.Proofs.YtjlabdoeiphegaaGreatDoor.fnUnseenMoves
open Go Go.Proofs
theorem k4 : Rows.fnUnseenMovesRow.wfByText (OpenSpec.ofChange Rows.fnUnseenMovesSpec) = true := by kernel_rfl
theorem k5 : Tryz.prog.funcNamed "loop.example/g00886/laws.FnUnseenMoves" = some 5 := by kernel_rfl
end Go.Proofs.YtjlabdoeiphegaaGreatDoor.fnUnseenMoves
