/- A closed fact about the row FnExactPointsNeeded; no condition. -/
import Derived.Test.YtihggbgmdlhlcaaGreatDoorRows
import Derived.JoinedOf
import Derived.SevenTiedAt
import Derived.KernelRfl
set_option linter.unusedVariables false
set_option linter.unusedSimpArgs false
namespace Go.Proofs.YtihggbgmdlhlcaaGreatDoor.fnExactPointsNeeded
open Go Go.Proofs
theorem f0 : (Rows.fnExactPointsNeededRow.wf (OpenSpec.ofChange Rows.fnExactPointsNeededSpec)) = true := by kernel_rfl
theorem f1 : (laidOutB Tryz.prog) = true := by kernel_rfl
theorem f2 : (mapsRowed Tryz.prog) = true := by kernel_rfl
theorem f3 : (Tryz.f14.params.all (Tryz.prog.readableRec ·)) = true := by kernel_rfl
theorem f4 : (namedTie Tryz.prog Rows.fnExactPointsNeededRow.named Rows.fnExactPointsNeededSpec.vars) = true := by kernel_rfl
theorem f5 : ((Rows.fnExactPointsNeededRow.stops == [])) = true := by kernel_rfl
theorem f6 : ((Tryz.prog.stops == [])) = true := by kernel_rfl
theorem f7 : ((Rows.fnExactPointsNeededRow.knobs == [])) = true := by kernel_rfl
theorem f8 : ((Tryz.prog.stopKnobs == [])) = true := by kernel_rfl
theorem f9 : ((Rows.fnExactPointsNeededRow.inPlace == Tryz.prog.inPlace 14)) = true := by kernel_rfl
theorem f10 : ((Rows.fnExactPointsNeededRow.unfollowed == Tryz.prog.unfollowed 14)) = true := by kernel_rfl
theorem f11 : ((Rows.fnExactPointsNeededRow.recurses == Tryz.prog.recurses 14)) = true := by kernel_rfl
theorem f12 : ((Rows.fnExactPointsNeededRow.named == Tryz.prog.varsNamed 14)) = true := by kernel_rfl
end Go.Proofs.YtihggbgmdlhlcaaGreatDoor.fnExactPointsNeeded
