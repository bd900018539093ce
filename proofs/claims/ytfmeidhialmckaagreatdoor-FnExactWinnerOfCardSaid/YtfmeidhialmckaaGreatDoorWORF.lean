/- A closed fact about the row FnExactWinnerOf; no condition. -/
import Derived.Test.YtfmeidhialmckaaGreatDoorRows
import Derived.JoinedOf
import Derived.SevenTiedAt
import Derived.KernelRfl
set_option linter.unusedVariables false
set_option linter.unusedSimpArgs false
namespace Go.Proofs.YtfmeidhialmckaaGreatDoor.fnExactWinnerOf
open Go Go.Proofs
theorem f0 : (Rows.fnExactWinnerOfRow.wf (OpenSpec.ofChange Rows.fnExactWinnerOfSpec)) = true := by kernel_rfl
theorem f1 : (laidOutB Tryz.prog) = true := by kernel_rfl
theorem f2 : (mapsRowed Tryz.prog) = true := by kernel_rfl
theorem f3 : (Tryz.f8.params.all (Tryz.prog.readableRec ·)) = true := by kernel_rfl
theorem f4 : (namedTie Tryz.prog Rows.fnExactWinnerOfRow.named Rows.fnExactWinnerOfSpec.vars) = true := by kernel_rfl
theorem f5 : ((Rows.fnExactWinnerOfRow.stops == [])) = true := by kernel_rfl
theorem f6 : ((Tryz.prog.stops == [])) = true := by kernel_rfl
theorem f7 : ((Rows.fnExactWinnerOfRow.knobs == [])) = true := by kernel_rfl
theorem f8 : ((Tryz.prog.stopKnobs == [])) = true := by kernel_rfl
theorem f9 : ((Rows.fnExactWinnerOfRow.inPlace == Tryz.prog.inPlace 8)) = true := by kernel_rfl
theorem f10 : ((Rows.fnExactWinnerOfRow.unfollowed == Tryz.prog.unfollowed 8)) = true := by kernel_rfl
theorem f11 : ((Rows.fnExactWinnerOfRow.recurses == Tryz.prog.recurses 8)) = true := by kernel_rfl
theorem f12 : ((Rows.fnExactWinnerOfRow.named == Tryz.prog.varsNamed 8)) = true := by kernel_rfl
end Go.Proofs.YtfmeidhialmckaaGreatDoor.fnExactWinnerOf
