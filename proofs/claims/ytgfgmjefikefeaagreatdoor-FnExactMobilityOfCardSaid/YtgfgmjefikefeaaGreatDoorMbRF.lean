/- A closed fact; no condition. -/
import Derived.Test.YtgfgmjefikefeaaGreatDoorRows
import Derived.JoinedOf
import Derived.SevenTiedAt
import Derived.KernelRfl
set_option linter.unusedVariables false
set_option linter.unusedSimpArgs false
namespace Go.Proofs.YtgfgmjefikefeaaGreatDoor.fnExactMobilityOf
open Go Go.Proofs
theorem f0 : (Rows.fnExactMobilityOfRow.wf (OpenSpec.ofChange Rows.fnExactMobilityOfSpec)) = true := by kernel_rfl
theorem f1 : (laidOutB Tryz.prog) = true := by kernel_rfl
theorem f2 : (mapsRowed Tryz.prog) = true := by kernel_rfl
theorem f3 : (Tryz.f3.params.all (Tryz.prog.readableRec ·)) = true := by kernel_rfl
theorem f4 : (namedTie Tryz.prog Rows.fnExactMobilityOfRow.named Rows.fnExactMobilityOfSpec.vars) = true := by kernel_rfl
theorem f5 : ((Rows.fnExactMobilityOfRow.stops == [])) = true := by kernel_rfl
theorem f6 : ((Tryz.prog.stops == [])) = true := by kernel_rfl
theorem f7 : ((Rows.fnExactMobilityOfRow.knobs == [])) = true := by kernel_rfl
theorem f8 : ((Tryz.prog.stopKnobs == [])) = true := by kernel_rfl
theorem f9 : ((Rows.fnExactMobilityOfRow.inPlace == Tryz.prog.inPlace 3)) = true := by kernel_rfl
theorem f10 : ((Rows.fnExactMobilityOfRow.unfollowed == Tryz.prog.unfollowed 3)) = true := by kernel_rfl
theorem f11 : ((Rows.fnExactMobilityOfRow.recurses == Tryz.prog.recurses 3)) = true := by kernel_rfl
theorem f12 : ((Rows.fnExactMobilityOfRow.named == Tryz.prog.varsNamed 3)) = true := by kernel_rfl
end Go.Proofs.YtgfgmjefikefeaaGreatDoor.fnExactMobilityOf
