/- A closed fact; no condition. -/
import Derived.Test.YteenmeomlhkphaaGreatDoorRows
import Derived.JoinedOf
import Derived.SevenTiedAt
import Derived.KernelRfl
set_option linter.unusedVariables false
set_option linter.unusedSimpArgs false
namespace Go.Proofs.YteenmeomlhkphaaGreatDoor.fnExactUpdateMemory
open Go Go.Proofs
theorem f0 : (Rows.fnExactUpdateMemoryRow.wf (OpenSpec.ofChange Rows.fnExactUpdateMemorySpec)) = true := by kernel_rfl
theorem f1 : (laidOutB Tryz.prog) = true := by kernel_rfl
theorem f2 : (mapsRowed Tryz.prog) = true := by kernel_rfl
theorem f3 : (Tryz.f6.params.all (Tryz.prog.readableRec ·)) = true := by kernel_rfl
theorem f4 : (namedTie Tryz.prog Rows.fnExactUpdateMemoryRow.named Rows.fnExactUpdateMemorySpec.vars) = true := by kernel_rfl
theorem f5 : ((Rows.fnExactUpdateMemoryRow.stops == [])) = true := by kernel_rfl
theorem f6 : ((Tryz.prog.stops == [])) = true := by kernel_rfl
theorem f7 : ((Rows.fnExactUpdateMemoryRow.knobs == [])) = true := by kernel_rfl
theorem f8 : ((Tryz.prog.stopKnobs == [])) = true := by kernel_rfl
theorem f9 : ((Rows.fnExactUpdateMemoryRow.inPlace == Tryz.prog.inPlace 6)) = true := by kernel_rfl
theorem f10 : ((Rows.fnExactUpdateMemoryRow.unfollowed == Tryz.prog.unfollowed 6)) = true := by kernel_rfl
theorem f11 : ((Rows.fnExactUpdateMemoryRow.recurses == Tryz.prog.recurses 6)) = true := by kernel_rfl
theorem f12 : ((Rows.fnExactUpdateMemoryRow.named == Tryz.prog.varsNamed 6)) = true := by kernel_rfl
end Go.Proofs.YteenmeomlhkphaaGreatDoor.fnExactUpdateMemory
