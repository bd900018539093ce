/- A closed fact about the row FnExactSpottersOf; no condition. -/
import Derived.Test.YtociagbpecpcnaaGreatDoorRows
import Derived.JoinedOf
import Derived.SevenTiedAt
import Derived.KernelRfl
set_option linter.unusedVariables false
set_option linter.unusedSimpArgs false
namespace Go.Proofs.YtociagbpecpcnaaGreatDoor.fnExactSpottersOf
open Go Go.Proofs
theorem k4 : Rows.fnExactSpottersOfRow.wfByText (OpenSpec.ofChange Rows.fnExactSpottersOfSpec) = true := by kernel_rfl
theorem k5 : Tryz.prog.funcNamed "loop.example/g00886/laws.FnExactSpottersOf" = some 9 := by kernel_rfl
end Go.Proofs.YtociagbpecpcnaaGreatDoor.fnExactSpottersOf
