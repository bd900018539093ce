/- A closed fact; no condition. -/
import Derived.Test.YtockjpnbfllmaaaGreatDoorRows
import Derived.JoinedOf
import Derived.SevenTiedAt
import Derived.KernelRfl
set_option linter.unusedVariables false
set_option linter.unusedSimpArgs false
namespace Go.Proofs.YtockjpnbfllmaaaGreatDoor.fnExactReportOf
open Go Go.Proofs
theorem k4 : Rows.fnExactReportOfRow.wfByText (OpenSpec.ofChange Rows.fnExactReportOfSpec) = true := by kernel_rfl
theorem k5 : Tryz.prog.funcNamed "loop.example/g00886/laws.FnExactReportOf" = some 4 := by kernel_rfl
end Go.Proofs.YtockjpnbfllmaaaGreatDoor.fnExactReportOf
