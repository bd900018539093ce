/- A closed fact about the row FnExactHiddenThreat; no condition. -/
import Derived.Test.YtihggbgmdlhlcaaGreatDoorRows
import Derived.JoinedOf
import Derived.SevenTiedAt
import Derived.KernelRfl
set_option linter.unusedVariables false
set_option linter.unusedSimpArgs false
namespace Go.Proofs.YtihggbgmdlhlcaaGreatDoor.fnExactHiddenThreat
open Go Go.Proofs
theorem f0 : (Rows.fnExactHiddenThreatRow.wf (OpenSpec.ofChange Rows.fnExactHiddenThreatSpec)) = true := by kernel_rfl
theorem f1 : (laidOutB Tryz.prog) = true := by kernel_rfl
theorem f2 : (mapsRowed Tryz.prog) = true := by kernel_rfl
theorem f3 : (Tryz.f5.params.all (Tryz.prog.readableRec ·)) = true := by kernel_rfl
theorem f4 : (namedTie Tryz.prog Rows.fnExactHiddenThreatRow.named Rows.fnExactHiddenThreatSpec.vars) = true := by kernel_rfl
theorem f5 : ((Rows.fnExactHiddenThreatRow.stops == [])) = true := by kernel_rfl
theorem f6 : ((Tryz.prog.stops == [])) = true := by kernel_rfl
theorem f7 : ((Rows.fnExactHiddenThreatRow.knobs == [])) = true := by kernel_rfl
theorem f8 : ((Tryz.prog.stopKnobs == [])) = true := by kernel_rfl
theorem f9 : ((Rows.fnExactHiddenThreatRow.inPlace == Tryz.prog.inPlace 5)) = true := by kernel_rfl
theorem f10 : ((Rows.fnExactHiddenThreatRow.unfollowed == Tryz.prog.unfollowed 5)) = true := by kernel_rfl
theorem f11 : ((Rows.fnExactHiddenThreatRow.recurses == Tryz.prog.recurses 5)) = true := by kernel_rfl
theorem f12 : ((Rows.fnExactHiddenThreatRow.named == Tryz.prog.varsNamed 5)) = true := by kernel_rfl
end Go.Proofs.YtihggbgmdlhlcaaGreatDoor.fnExactHiddenThreat
