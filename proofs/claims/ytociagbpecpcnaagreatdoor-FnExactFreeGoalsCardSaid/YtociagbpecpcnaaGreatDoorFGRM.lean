/- A closed fact about the row FnExactFreeGoals; no condition. -/
import Derived.Test.YtociagbpecpcnaaGreatDoorRows
import Derived.JoinedOf
import Derived.SevenTiedAt
import Derived.KernelRfl
set_option linter.unusedVariables false
set_option linter.unusedSimpArgs false
namespace Go.Proofs.YtociagbpecpcnaaGreatDoor.fnExactFreeGoals
open Go Go.Proofs
theorem k4 : Rows.fnExactFreeGoalsRow.wfByText (OpenSpec.ofChange Rows.fnExactFreeGoalsSpec) = true := by kernel_rfl
theorem k5 : Tryz.prog.funcNamed "loop.example/g00886/laws.FnExactFreeGoals" = some 7 := by kernel_rfl
end Go.Proofs.YtociagbpecpcnaaGreatDoor.fnExactFreeGoals
