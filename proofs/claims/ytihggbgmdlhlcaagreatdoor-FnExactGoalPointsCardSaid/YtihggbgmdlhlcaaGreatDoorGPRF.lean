/- A closed fact about the row FnExactGoalPoints; no condition. -/
import Derived.Test.YtihggbgmdlhlcaaGreatDoorRows
import Derived.JoinedOf
import Derived.SevenTiedAt
import Derived.KernelRfl
set_option linter.unusedVariables false
set_option linter.unusedSimpArgs false
namespace Go.Proofs.YtihggbgmdlhlcaaGreatDoor.fnExactGoalPoints
open Go Go.Proofs
theorem f0 : (Rows.fnExactGoalPointsRow.wf (OpenSpec.ofChange Rows.fnExactGoalPointsSpec)) = true := by kernel_rfl
theorem f1 : (laidOutB Tryz.prog) = true := by kernel_rfl
theorem f2 : (mapsRowed Tryz.prog) = true := by kernel_rfl
theorem f3 : (Tryz.f11.params.all (Tryz.prog.readableRec ·)) = true := by kernel_rfl
theorem f4 : (namedTie Tryz.prog Rows.fnExactGoalPointsRow.named Rows.fnExactGoalPointsSpec.vars) = true := by kernel_rfl
theorem f5 : ((Rows.fnExactGoalPointsRow.stops == [])) = true := by kernel_rfl
theorem f6 : ((Tryz.prog.stops == [])) = true := by kernel_rfl
theorem f7 : ((Rows.fnExactGoalPointsRow.knobs == [])) = true := by kernel_rfl
theorem f8 : ((Tryz.prog.stopKnobs == [])) = true := by kernel_rfl
theorem f9 : ((Rows.fnExactGoalPointsRow.inPlace == Tryz.prog.inPlace 11)) = true := by kernel_rfl
theorem f10 : ((Rows.fnExactGoalPointsRow.unfollowed == Tryz.prog.unfollowed 11)) = true := by kernel_rfl
theorem f11 : ((Rows.fnExactGoalPointsRow.recurses == Tryz.prog.recurses 11)) = true := by kernel_rfl
theorem f12 : ((Rows.fnExactGoalPointsRow.named == Tryz.prog.varsNamed 11)) = true := by kernel_rfl
end Go.Proofs.YtihggbgmdlhlcaaGreatDoor.fnExactGoalPoints
