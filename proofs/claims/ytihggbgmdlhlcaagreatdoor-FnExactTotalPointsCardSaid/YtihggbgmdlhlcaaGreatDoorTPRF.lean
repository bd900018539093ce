/- A closed fact about the row FnExactTotalPoints; no condition. -/
import Derived.Test.YtihggbgmdlhlcaaGreatDoorRows
import Derived.JoinedOf
import Derived.SevenTiedAt
import Derived.KernelRfl
set_option linter.unusedVariables false
set_option linter.unusedSimpArgs false
namespace Go.Proofs.YtihggbgmdlhlcaaGreatDoor.fnExactTotalPoints
open Go Go.Proofs
theorem f0 : (Rows.fnExactTotalPointsRow.wf (OpenSpec.ofChange Rows.fnExactTotalPointsSpec)) = true := by kernel_rfl
theorem f1 : (laidOutB Tryz.prog) = true := by kernel_rfl
theorem f2 : (mapsRowed Tryz.prog) = true := by kernel_rfl
theorem f3 : (Tryz.f13.params.all (Tryz.prog.readableRec ·)) = true := by kernel_rfl
theorem f4 : (namedTie Tryz.prog Rows.fnExactTotalPointsRow.named Rows.fnExactTotalPointsSpec.vars) = true := by kernel_rfl
theorem f5 : ((Rows.fnExactTotalPointsRow.stops == [])) = true := by kernel_rfl
theorem f6 : ((Tryz.prog.stops == [])) = true := by kernel_rfl
theorem f7 : ((Rows.fnExactTotalPointsRow.knobs == [])) = true := by kernel_rfl
theorem f8 : ((Tryz.prog.stopKnobs == [])) = true := by kernel_rfl
theorem f9 : ((Rows.fnExactTotalPointsRow.inPlace == Tryz.prog.inPlace 13)) = true := by kernel_rfl
theorem f10 : ((Rows.fnExactTotalPointsRow.unfollowed == Tryz.prog.unfollowed 13)) = true := by kernel_rfl
theorem f11 : ((Rows.fnExactTotalPointsRow.recurses == Tryz.prog.recurses 13)) = true := by kernel_rfl
theorem f12 : ((Rows.fnExactTotalPointsRow.named == Tryz.prog.varsNamed 13)) = true := by kernel_rfl
end Go.Proofs.YtihggbgmdlhlcaaGreatDoor.fnExactTotalPoints
