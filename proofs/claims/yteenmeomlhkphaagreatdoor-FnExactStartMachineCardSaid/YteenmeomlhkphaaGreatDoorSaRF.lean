/- A closed fact about the row FnExactStartMachine; no condition. -/
import Derived.Test.YteenmeomlhkphaaGreatDoorRows
import Derived.JoinedOf
import Derived.SevenTiedAt
import Derived.KernelRfl
set_option linter.unusedVariables false
set_option linter.unusedSimpArgs false
namespace Go.Proofs.YteenmeomlhkphaaGreatDoor.fnExactStartMachine
open Go Go.Proofs
theorem f0 : (Rows.fnExactStartMachineRow.wf (OpenSpec.ofChange Rows.fnExactStartMachineSpec)) = true := by kernel_rfl
theorem f1 : (laidOutB Tryz.prog) = true := by kernel_rfl
theorem f2 : (mapsRowed Tryz.prog) = true := by kernel_rfl
theorem f3 : (Tryz.f4.params.all (Tryz.prog.readableRec ·)) = true := by kernel_rfl
theorem f4 : (namedTie Tryz.prog Rows.fnExactStartMachineRow.named Rows.fnExactStartMachineSpec.vars) = true := by kernel_rfl
theorem f5 : ((Rows.fnExactStartMachineRow.stops == [])) = true := by kernel_rfl
theorem f6 : ((Tryz.prog.stops == [])) = true := by kernel_rfl
theorem f7 : ((Rows.fnExactStartMachineRow.knobs == [])) = true := by kernel_rfl
theorem f8 : ((Tryz.prog.stopKnobs == [])) = true := by kernel_rfl
theorem f9 : ((Rows.fnExactStartMachineRow.inPlace == Tryz.prog.inPlace 4)) = true := by kernel_rfl
theorem f10 : ((Rows.fnExactStartMachineRow.unfollowed == Tryz.prog.unfollowed 4)) = true := by kernel_rfl
theorem f11 : ((Rows.fnExactStartMachineRow.recurses == Tryz.prog.recurses 4)) = true := by kernel_rfl
theorem f12 : ((Rows.fnExactStartMachineRow.named == Tryz.prog.varsNamed 4)) = true := by kernel_rfl
end Go.Proofs.YteenmeomlhkphaaGreatDoor.fnExactStartMachine
