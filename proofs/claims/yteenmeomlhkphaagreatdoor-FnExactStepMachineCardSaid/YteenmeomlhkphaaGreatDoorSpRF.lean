/- A closed fact; no condition. -/
import Derived.Test.YteenmeomlhkphaaGreatDoorRows
import Derived.JoinedOf
import Derived.SevenTiedAt
import Derived.KernelRfl
set_option linter.unusedVariables false
set_option linter.unusedSimpArgs false
namespace Go.Proofs.YteenmeomlhkphaaGreatDoor.fnExactStepMachine
open Go Go.Proofs
theorem f0 : (Rows.fnExactStepMachineRow.wf (OpenSpec.ofChange Rows.fnExactStepMachineSpec)) = true := by kernel_rfl
theorem f1 : (laidOutB Tryz.prog) = true := by kernel_rfl
theorem f2 : (mapsRowed Tryz.prog) = true := by kernel_rfl
theorem f3 : (Tryz.f7.params.all (Tryz.prog.readableRec ·)) = true := by kernel_rfl
theorem f4 : (namedTie Tryz.prog Rows.fnExactStepMachineRow.named Rows.fnExactStepMachineSpec.vars) = true := by kernel_rfl
theorem f5 : ((Rows.fnExactStepMachineRow.stops == [])) = true := by kernel_rfl
theorem f6 : ((Tryz.prog.stops == [])) = true := by kernel_rfl
theorem f7 : ((Rows.fnExactStepMachineRow.knobs == [])) = true := by kernel_rfl
theorem f8 : ((Tryz.prog.stopKnobs == [])) = true := by kernel_rfl
theorem f9 : ((Rows.fnExactStepMachineRow.inPlace == Tryz.prog.inPlace 7)) = true := by kernel_rfl
theorem f10 : ((Rows.fnExactStepMachineRow.unfollowed == Tryz.prog.unfollowed 7)) = true := by kernel_rfl
theorem f11 : ((Rows.fnExactStepMachineRow.recurses == Tryz.prog.recurses 7)) = true := by kernel_rfl
theorem f12 : ((Rows.fnExactStepMachineRow.named == Tryz.prog.varsNamed 7)) = true := by kernel_rfl
end Go.Proofs.YteenmeomlhkphaaGreatDoor.fnExactStepMachine
