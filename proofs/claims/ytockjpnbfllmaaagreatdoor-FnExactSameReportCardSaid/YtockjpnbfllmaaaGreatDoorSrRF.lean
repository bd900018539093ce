/- A closed fact; no condition. -/
import Derived.Test.YtockjpnbfllmaaaGreatDoorRows
import Derived.JoinedOf
import Derived.SevenTiedAt
import Derived.KernelRfl
set_option linter.unusedVariables false
set_option linter.unusedSimpArgs false
namespace Go.Proofs.YtockjpnbfllmaaaGreatDoor.fnExactSameReport
open Go Go.Proofs
theorem f0 : (Rows.fnExactSameReportRow.wf (OpenSpec.ofChange Rows.fnExactSameReportSpec)) = true := by kernel_rfl
theorem f1 : (laidOutB Tryz.prog) = true := by kernel_rfl
theorem f2 : (mapsRowed Tryz.prog) = true := by kernel_rfl
theorem f3 : (Tryz.f5.params.all (Tryz.prog.readableRec ·)) = true := by kernel_rfl
theorem f4 : (namedTie Tryz.prog Rows.fnExactSameReportRow.named Rows.fnExactSameReportSpec.vars) = true := by kernel_rfl
theorem f5 : ((Rows.fnExactSameReportRow.stops == [])) = true := by kernel_rfl
theorem f6 : ((Tryz.prog.stops == [])) = true := by kernel_rfl
theorem f7 : ((Rows.fnExactSameReportRow.knobs == [])) = true := by kernel_rfl
theorem f8 : ((Tryz.prog.stopKnobs == [])) = true := by kernel_rfl
theorem f9 : ((Rows.fnExactSameReportRow.inPlace == Tryz.prog.inPlace 5)) = true := by kernel_rfl
theorem f10 : ((Rows.fnExactSameReportRow.unfollowed == Tryz.prog.unfollowed 5)) = true := by kernel_rfl
theorem f11 : ((Rows.fnExactSameReportRow.recurses == Tryz.prog.recurses 5)) = true := by kernel_rfl
theorem f12 : ((Rows.fnExactSameReportRow.named == Tryz.prog.varsNamed 5)) = true := by kernel_rfl
end Go.Proofs.YtockjpnbfllmaaaGreatDoor.fnExactSameReport
