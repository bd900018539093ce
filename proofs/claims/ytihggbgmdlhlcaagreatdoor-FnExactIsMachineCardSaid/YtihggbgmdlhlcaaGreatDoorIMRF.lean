/- A closed fact about the row FnExactIsMachine; no condition. -/
import Derived.Test.YtihggbgmdlhlcaaGreatDoorRows
import Derived.JoinedOf
import Derived.SevenTiedAt
import Derived.KernelRfl
set_option linter.unusedVariables false
set_option linter.unusedSimpArgs false
namespace Go.Proofs.YtihggbgmdlhlcaaGreatDoor.fnExactIsMachine
open Go Go.Proofs
theorem f0 : (Rows.fnExactIsMachineRow.wf (OpenSpec.ofChange Rows.fnExactIsMachineSpec)) = true := by kernel_rfl
theorem f1 : (laidOutB Tryz.prog) = true := by kernel_rfl
theorem f2 : (mapsRowed Tryz.prog) = true := by kernel_rfl
theorem f3 : (Tryz.f9.params.all (Tryz.prog.readableRec ·)) = true := by kernel_rfl
theorem f4 : (namedTie Tryz.prog Rows.fnExactIsMachineRow.named Rows.fnExactIsMachineSpec.vars) = true := by kernel_rfl
theorem f5 : ((Rows.fnExactIsMachineRow.stops == [])) = true := by kernel_rfl
theorem f6 : ((Tryz.prog.stops == [])) = true := by kernel_rfl
theorem f7 : ((Rows.fnExactIsMachineRow.knobs == [])) = true := by kernel_rfl
theorem f8 : ((Tryz.prog.stopKnobs == [])) = true := by kernel_rfl
theorem f9 : ((Rows.fnExactIsMachineRow.inPlace == Tryz.prog.inPlace 9)) = true := by kernel_rfl
theorem f10 : ((Rows.fnExactIsMachineRow.unfollowed == Tryz.prog.unfollowed 9)) = true := by kernel_rfl
theorem f11 : ((Rows.fnExactIsMachineRow.recurses == Tryz.prog.recurses 9)) = true := by kernel_rfl
theorem f12 : ((Rows.fnExactIsMachineRow.named == Tryz.prog.varsNamed 9)) = true := by kernel_rfl
end Go.Proofs.YtihggbgmdlhlcaaGreatDoor.fnExactIsMachine
