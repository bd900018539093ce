/- A closed fact; no condition. -/
import Derived.Test.YteenmeomlhkphaaGreatDoorRows
import Derived.JoinedOf
import Derived.SevenTiedAt
import Derived.KernelRfl
set_option linter.unusedVariables false
set_option linter.unusedSimpArgs false
namespace Go.Proofs.YteenmeomlhkphaaGreatDoor.fnExactViewOf
open Go Go.Proofs
theorem f0 : (Rows.fnExactViewOfRow.wf (OpenSpec.ofChange Rows.fnExactViewOfSpec)) = true := by kernel_rfl
theorem f1 : (laidOutB Tryz.prog) = true := by kernel_rfl
theorem f2 : (mapsRowed Tryz.prog) = true := by kernel_rfl
theorem f3 : (Tryz.f9.params.all (Tryz.prog.readableRec ·)) = true := by kernel_rfl
theorem f4 : (namedTie Tryz.prog Rows.fnExactViewOfRow.named Rows.fnExactViewOfSpec.vars) = true := by kernel_rfl
theorem f5 : ((Rows.fnExactViewOfRow.stops == [])) = true := by kernel_rfl
theorem f6 : ((Tryz.prog.stops == [])) = true := by kernel_rfl
theorem f7 : ((Rows.fnExactViewOfRow.knobs == [])) = true := by kernel_rfl
theorem f8 : ((Tryz.prog.stopKnobs == [])) = true := by kernel_rfl
theorem f9 : ((Rows.fnExactViewOfRow.inPlace == Tryz.prog.inPlace 9)) = true := by kernel_rfl
theorem f10 : ((Rows.fnExactViewOfRow.unfollowed == Tryz.prog.unfollowed 9)) = true := by kernel_rfl
theorem f11 : ((Rows.fnExactViewOfRow.recurses == Tryz.prog.recurses 9)) = true := by kernel_rfl
theorem f12 : ((Rows.fnExactViewOfRow.named == Tryz.prog.varsNamed 9)) = true := by kernel_rfl
end Go.Proofs.YteenmeomlhkphaaGreatDoor.fnExactViewOf
