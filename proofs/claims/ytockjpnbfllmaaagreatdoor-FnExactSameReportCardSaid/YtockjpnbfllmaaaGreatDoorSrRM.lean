/- A closed fact; no condition. -/
import Derived.Test.YtockjpnbfllmaaaGreatDoorRows
import Derived.JoinedOf
import Derived.SevenTiedAt
import Derived.KernelRfl
set_option linter.unusedVariables false
set_option linter.unusedSimpArgs false
namespace Go.Proofs.YtockjpnbfllmaaaGreatDoor.fnExactSameReport
open Go Go.Proofs
theorem k4 : Rows.fnExactSameReportRow.wfByText (OpenSpec.ofChange Rows.fnExactSameReportSpec) = true := by kernel_rfl
theorem k5 : Tryz.prog.funcNamed "loop.example/g00886/laws.FnExactSameReport" = some 5 := by kernel_rfl
end Go.Proofs.YtockjpnbfllmaaaGreatDoor.fnExactSameReport
