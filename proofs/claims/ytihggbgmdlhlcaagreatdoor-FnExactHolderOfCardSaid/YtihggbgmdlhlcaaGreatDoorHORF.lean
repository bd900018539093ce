/- A closed fact about the row FnExactHolderOf; no condition. -/
import Derived.Test.YtihggbgmdlhlcaaGreatDoorRows
import Derived.JoinedOf
import Derived.SevenTiedAt
import Derived.KernelRfl
set_option linter.unusedVariables false
set_option linter.unusedSimpArgs false
namespace Go.Proofs.YtihggbgmdlhlcaaGreatDoor.fnExactHolderOf
open Go Go.Proofs
theorem f0 : (Rows.fnExactHolderOfRow.wf (OpenSpec.ofChange Rows.fnExactHolderOfSpec)) = true := by kernel_rfl
theorem f1 : (laidOutB Tryz.prog) = true := by kernel_rfl
theorem f2 : (mapsRowed Tryz.prog) = true := by kernel_rfl
theorem f3 : (Tryz.f6.params.all (Tryz.prog.readableRec ·)) = true := by kernel_rfl
theorem f4 : (namedTie Tryz.prog Rows.fnExactHolderOfRow.named Rows.fnExactHolderOfSpec.vars) = true := by kernel_rfl
theorem f5 : ((Rows.fnExactHolderOfRow.stops == [])) = true := by kernel_rfl
theorem f6 : ((Tryz.prog.stops == [])) = true := by kernel_rfl
theorem f7 : ((Rows.fnExactHolderOfRow.knobs == [])) = true := by kernel_rfl
theorem f8 : ((Tryz.prog.stopKnobs == [])) = true := by kernel_rfl
theorem f9 : ((Rows.fnExactHolderOfRow.inPlace == Tryz.prog.inPlace 6)) = true := by kernel_rfl
theorem f10 : ((Rows.fnExactHolderOfRow.unfollowed == Tryz.prog.unfollowed 6)) = true := by kernel_rfl
theorem f11 : ((Rows.fnExactHolderOfRow.recurses == Tryz.prog.recurses 6)) = true := by kernel_rfl
theorem f12 : ((Rows.fnExactHolderOfRow.named == Tryz.prog.varsNamed 6)) = true := by kernel_rfl
end Go.Proofs.YtihggbgmdlhlcaaGreatDoor.fnExactHolderOf
