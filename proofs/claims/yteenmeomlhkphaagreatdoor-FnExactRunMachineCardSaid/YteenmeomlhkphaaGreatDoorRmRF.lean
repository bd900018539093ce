/- A closed fact; no condition. -/
import Derived.Test.YteenmeomlhkphaaGreatDoorRows
import Derived.JoinedOf
import Derived.SevenTiedAt
import Derived.KernelRfl
set_option linter.unusedVariables false
set_option linter.unusedSimpArgs false
namespace Go.Proofs.YteenmeomlhkphaaGreatDoor.fnExactRunMachine
open Go Go.Proofs
theorem f0 : (Rows.fnExactRunMachineRow.wf (OpenSpec.ofChange Rows.fnExactRunMachineSpec)) = true := by kernel_rfl
theorem f1 : (laidOutB Tryz.prog) = true := by kernel_rfl
theorem f2 : (mapsRowed Tryz.prog) = true := by kernel_rfl
theorem f3 : (Tryz.f8.params.all (Tryz.prog.readableRec ·)) = true := by kernel_rfl
theorem f4 : (namedTie Tryz.prog Rows.fnExactRunMachineRow.named Rows.fnExactRunMachineSpec.vars) = true := by kernel_rfl
theorem f5 : ((Rows.fnExactRunMachineRow.stops == [])) = true := by kernel_rfl
theorem f6 : ((Tryz.prog.stops == [])) = true := by kernel_rfl
theorem f7 : ((Rows.fnExactRunMachineRow.knobs == [])) = true := by kernel_rfl
theorem f8 : ((Tryz.prog.stopKnobs == [])) = true := by kernel_rfl
theorem f9 : ((Rows.fnExactRunMachineRow.inPlace == Tryz.prog.inPlace 8)) = true := by kernel_rfl
theorem f10 : ((Rows.fnExactRunMachineRow.unfollowed == Tryz.prog.unfollowed 8)) = true := by kernel_rfl
theorem f11 : ((Rows.fnExactRunMachineRow.recurses == Tryz.prog.recurses 8)) = true := by kernel_rfl
theorem f12 : ((Rows.fnExactRunMachineRow.named == Tryz.prog.varsNamed 8)) = true := by kernel_rfl
end Go.Proofs.YteenmeomlhkphaaGreatDoor.fnExactRunMachine
