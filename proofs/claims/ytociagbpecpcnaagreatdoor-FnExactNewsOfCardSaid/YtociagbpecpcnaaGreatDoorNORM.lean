/- A closed fact about the row FnExactNewsOf; no condition. -/
import Derived.Test.YtociagbpecpcnaaGreatDoorRows
import Derived.JoinedOf
import Derived.SevenTiedAt
import Derived.KernelRfl
set_option linter.unusedVariables false
set_option linter.unusedSimpArgs false
namespace Go.Proofs.YtociagbpecpcnaaGreatDoor.fnExactNewsOf
open Go Go.Proofs
theorem k4 : Rows.fnExactNewsOfRow.wfByText (OpenSpec.ofChange Rows.fnExactNewsOfSpec) = true := by kernel_rfl
theorem k5 : Tryz.prog.funcNamed "loop.example/g00886/laws.FnExactNewsOf" = some 5 := by kernel_rfl
end Go.Proofs.YtociagbpecpcnaaGreatDoor.fnExactNewsOf
