/- A closed fact; no condition. -/
import Derived.Test.YtockjpnbfllmaaaGreatDoorRows
import Derived.JoinedOf
import Derived.SevenTiedAt
import Derived.KernelRfl
set_option linter.unusedVariables false
set_option linter.unusedSimpArgs false
namespace Go.Proofs.YtockjpnbfllmaaaGreatDoor.fnExactReportText
open Go Go.Proofs
theorem f0 : (Rows.fnExactReportTextRow.wf (OpenSpec.ofChange Rows.fnExactReportTextSpec)) = true := by kernel_rfl
theorem f1 : (laidOutB Tryz.prog) = true := by kernel_rfl
theorem f2 : (mapsRowed Tryz.prog) = true := by kernel_rfl
theorem f3 : (Tryz.f3.params.all (Tryz.prog.readableRec ·)) = true := by kernel_rfl
theorem f4 : (namedTie Tryz.prog Rows.fnExactReportTextRow.named Rows.fnExactReportTextSpec.vars) = true := by kernel_rfl
theorem f5 : ((Rows.fnExactReportTextRow.stops == [])) = true := by kernel_rfl
theorem f6 : ((Tryz.prog.stops == [])) = true := by kernel_rfl
theorem f7 : ((Rows.fnExactReportTextRow.knobs == [])) = true := by kernel_rfl
theorem f8 : ((Tryz.prog.stopKnobs == [])) = true := by kernel_rfl
theorem f9 : ((Rows.fnExactReportTextRow.inPlace == Tryz.prog.inPlace 3)) = true := by kernel_rfl
theorem f10 : ((Rows.fnExactReportTextRow.unfollowed == Tryz.prog.unfollowed 3)) = true := by kernel_rfl
theorem f11 : ((Rows.fnExactReportTextRow.recurses == Tryz.prog.recurses 3)) = true := by kernel_rfl
theorem f12 : ((Rows.fnExactReportTextRow.named == Tryz.prog.varsNamed 3)) = true := by kernel_rfl
end Go.Proofs.YtockjpnbfllmaaaGreatDoor.fnExactReportText
