/- A closed fact about the row FnExactReactionsLeft; no condition. -/
import Derived.Test.YtociagbpecpcnaaGreatDoorRows
import Derived.JoinedOf
import Derived.SevenTiedAt
import Derived.KernelRfl
set_option linter.unusedVariables false
set_option linter.unusedSimpArgs false
namespace Go.Proofs.YtociagbpecpcnaaGreatDoor.fnExactReactionsLeft
open Go Go.Proofs
theorem k4 : Rows.fnExactReactionsLeftRow.wfByText (OpenSpec.ofChange Rows.fnExactReactionsLeftSpec) = true := by kernel_rfl
theorem k5 : Tryz.prog.funcNamed "loop.example/g00886/laws.FnExactReactionsLeft" = some 8 := by kernel_rfl
end Go.Proofs.YtociagbpecpcnaaGreatDoor.fnExactReactionsLeft
