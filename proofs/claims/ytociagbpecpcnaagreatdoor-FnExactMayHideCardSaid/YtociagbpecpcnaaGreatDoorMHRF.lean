/- A closed fact about the row FnExactMayHide; no condition. -/
import Derived.Test.YtociagbpecpcnaaGreatDoorRows
import Derived.JoinedOf
import Derived.SevenTiedAt
import Derived.KernelRfl
set_option linter.unusedVariables false
set_option linter.unusedSimpArgs false
namespace Go.Proofs.YtociagbpecpcnaaGreatDoor.fnExactMayHide
open Go Go.Proofs
theorem f0 : (Rows.fnExactMayHideRow.wf (OpenSpec.ofChange Rows.fnExactMayHideSpec)) = true := by kernel_rfl
theorem f1 : (laidOutB Tryz.prog) = true := by kernel_rfl
theorem f2 : (mapsRowed Tryz.prog) = true := by kernel_rfl
theorem f3 : (Tryz.f6.params.all (Tryz.prog.readableRec ·)) = true := by kernel_rfl
theorem f4 : (namedTie Tryz.prog Rows.fnExactMayHideRow.named Rows.fnExactMayHideSpec.vars) = true := by kernel_rfl
theorem f5 : ((Rows.fnExactMayHideRow.stops == [])) = true := by kernel_rfl
theorem f6 : ((Tryz.prog.stops == [])) = true := by kernel_rfl
theorem f7 : ((Rows.fnExactMayHideRow.knobs == [])) = true := by kernel_rfl
theorem f8 : ((Tryz.prog.stopKnobs == [])) = true := by kernel_rfl
theorem f9 : ((Rows.fnExactMayHideRow.inPlace == Tryz.prog.inPlace 6)) = true := by kernel_rfl
theorem f10 : ((Rows.fnExactMayHideRow.unfollowed == Tryz.prog.unfollowed 6)) = true := by kernel_rfl
theorem f11 : ((Rows.fnExactMayHideRow.recurses == Tryz.prog.recurses 6)) = true := by kernel_rfl
theorem f12 : ((Rows.fnExactMayHideRow.named == Tryz.prog.varsNamed 6)) = true := by kernel_rfl
end Go.Proofs.YtociagbpecpcnaaGreatDoor.fnExactMayHide
