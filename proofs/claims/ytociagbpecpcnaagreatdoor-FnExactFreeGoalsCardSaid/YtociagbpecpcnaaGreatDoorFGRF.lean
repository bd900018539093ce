/- A closed fact about the row FnExactFreeGoals; no condition. -/
import Derived.Test.YtociagbpecpcnaaGreatDoorRows
import Derived.JoinedOf
import Derived.SevenTiedAt
import Derived.KernelRfl
set_option linter.unusedVariables false
set_option linter.unusedSimpArgs false
namespace Go.Proofs.YtociagbpecpcnaaGreatDoor.fnExactFreeGoals
open Go Go.Proofs
theorem f0 : (Rows.fnExactFreeGoalsRow.wf (OpenSpec.ofChange Rows.fnExactFreeGoalsSpec)) = true := by kernel_rfl
theorem f1 : (laidOutB Tryz.prog) = true := by kernel_rfl
theorem f2 : (mapsRowed Tryz.prog) = true := by kernel_rfl
theorem f3 : (Tryz.f7.params.all (Tryz.prog.readableRec ·)) = true := by kernel_rfl
theorem f4 : (namedTie Tryz.prog Rows.fnExactFreeGoalsRow.named Rows.fnExactFreeGoalsSpec.vars) = true := by kernel_rfl
theorem f5 : ((Rows.fnExactFreeGoalsRow.stops == [])) = true := by kernel_rfl
theorem f6 : ((Tryz.prog.stops == [])) = true := by kernel_rfl
theorem f7 : ((Rows.fnExactFreeGoalsRow.knobs == [])) = true := by kernel_rfl
theorem f8 : ((Tryz.prog.stopKnobs == [])) = true := by kernel_rfl
theorem f9 : ((Rows.fnExactFreeGoalsRow.inPlace == Tryz.prog.inPlace 7)) = true := by kernel_rfl
theorem f10 : ((Rows.fnExactFreeGoalsRow.unfollowed == Tryz.prog.unfollowed 7)) = true := by kernel_rfl
theorem f11 : ((Rows.fnExactFreeGoalsRow.recurses == Tryz.prog.recurses 7)) = true := by kernel_rfl
theorem f12 : ((Rows.fnExactFreeGoalsRow.named == Tryz.prog.varsNamed 7)) = true := by kernel_rfl
end Go.Proofs.YtociagbpecpcnaaGreatDoor.fnExactFreeGoals
