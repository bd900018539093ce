/- A closed fact about the row FnExactUnseenHexes; no condition. -/
import Derived.Test.YtociagbpecpcnaaGreatDoorRows
import Derived.JoinedOf
import Derived.SevenTiedAt
import Derived.KernelRfl
set_option linter.unusedVariables false
set_option linter.unusedSimpArgs false
namespace Go.Proofs.YtociagbpecpcnaaGreatDoor.fnExactUnseenHexes
open Go Go.Proofs
theorem k4 : Rows.fnExactUnseenHexesRow.wfByText (OpenSpec.ofChange Rows.fnExactUnseenHexesSpec) = true := by kernel_rfl
theorem k5 : Tryz.prog.funcNamed "loop.example/g00886/laws.FnExactUnseenHexes" = some 4 := by kernel_rfl
end Go.Proofs.YtociagbpecpcnaaGreatDoor.fnExactUnseenHexes
