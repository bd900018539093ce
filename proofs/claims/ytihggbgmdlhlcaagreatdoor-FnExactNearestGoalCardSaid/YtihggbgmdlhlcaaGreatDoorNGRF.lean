/- A closed fact about the row FnExactNearestGoal; no condition. -/
import Derived.Test.YtihggbgmdlhlcaaGreatDoorRows
import Derived.JoinedOf
import Derived.SevenTiedAt
import Derived.KernelRfl
set_option linter.unusedVariables false
set_option linter.unusedSimpArgs false
namespace Go.Proofs.YtihggbgmdlhlcaaGreatDoor.fnExactNearestGoal
open Go Go.Proofs
theorem f0 : (Rows.fnExactNearestGoalRow.wf (OpenSpec.ofChange Rows.fnExactNearestGoalSpec)) = true := by kernel_rfl
theorem f1 : (laidOutB Tryz.prog) = true := by kernel_rfl
theorem f2 : (mapsRowed Tryz.prog) = true := by kernel_rfl
theorem f3 : (Tryz.f4.params.all (Tryz.prog.readableRec ·)) = true := by kernel_rfl
theorem f4 : (namedTie Tryz.prog Rows.fnExactNearestGoalRow.named Rows.fnExactNearestGoalSpec.vars) = true := by kernel_rfl
theorem f5 : ((Rows.fnExactNearestGoalRow.stops == [])) = true := by kernel_rfl
theorem f6 : ((Tryz.prog.stops == [])) = true := by kernel_rfl
theorem f7 : ((Rows.fnExactNearestGoalRow.knobs == [])) = true := by kernel_rfl
theorem f8 : ((Tryz.prog.stopKnobs == [])) = true := by kernel_rfl
theorem f9 : ((Rows.fnExactNearestGoalRow.inPlace == Tryz.prog.inPlace 4)) = true := by kernel_rfl
theorem f10 : ((Rows.fnExactNearestGoalRow.unfollowed == Tryz.prog.unfollowed 4)) = true := by kernel_rfl
theorem f11 : ((Rows.fnExactNearestGoalRow.recurses == Tryz.prog.recurses 4)) = true := by kernel_rfl
theorem f12 : ((Rows.fnExactNearestGoalRow.named == Tryz.prog.varsNamed 4)) = true := by kernel_rfl
end Go.Proofs.YtihggbgmdlhlcaaGreatDoor.fnExactNearestGoal
