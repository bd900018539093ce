/- A closed fact; no condition. -/
import Derived.Test.YtockjpnbfllmaaaGreatDoorRows
import Derived.JoinedOf
import Derived.SevenTiedAt
import Derived.KernelRfl
set_option linter.unusedVariables false
set_option linter.unusedSimpArgs false
namespace Go.Proofs.YtockjpnbfllmaaaGreatDoor.fnExactReportOf
open Go Go.Proofs
theorem f0 : (Rows.fnExactReportOfRow.wf (OpenSpec.ofChange Rows.fnExactReportOfSpec)) = true := by kernel_rfl
theorem f1 : (laidOutB Tryz.prog) = true := by kernel_rfl
theorem f2 : (mapsRowed Tryz.prog) = true := by kernel_rfl
theorem f3 : (Tryz.f4.params.all (Tryz.prog.readableRec ·)) = true := by kernel_rfl
theorem f4 : (namedTie Tryz.prog Rows.fnExactReportOfRow.named Rows.fnExactReportOfSpec.vars) = true := by kernel_rfl
theorem f5 : ((Rows.fnExactReportOfRow.stops == [])) = true := by kernel_rfl
theorem f6 : ((Tryz.prog.stops == [])) = true := by kernel_rfl
theorem f7 : ((Rows.fnExactReportOfRow.knobs == [])) = true := by kernel_rfl
theorem f8 : ((Tryz.prog.stopKnobs == [])) = true := by kernel_rfl
theorem f9 : ((Rows.fnExactReportOfRow.inPlace == Tryz.prog.inPlace 4)) = true := by kernel_rfl
theorem f10 : ((Rows.fnExactReportOfRow.unfollowed == Tryz.prog.unfollowed 4)) = true := by kernel_rfl
theorem f11 : ((Rows.fnExactReportOfRow.recurses == Tryz.prog.recurses 4)) = true := by kernel_rfl
theorem f12 : ((Rows.fnExactReportOfRow.named == Tryz.prog.varsNamed 4)) = true := by kernel_rfl
end Go.Proofs.YtockjpnbfllmaaaGreatDoor.fnExactReportOf
