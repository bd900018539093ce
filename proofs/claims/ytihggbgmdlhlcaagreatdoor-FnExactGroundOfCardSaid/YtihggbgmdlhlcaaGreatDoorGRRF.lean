/- A closed fact about the row FnExactGroundOf; no condition. -/
import Derived.Test.YtihggbgmdlhlcaaGreatDoorRows
import Derived.JoinedOf
import Derived.SevenTiedAt
import Derived.KernelRfl
set_option linter.unusedVariables false
set_option linter.unusedSimpArgs false
namespace Go.Proofs.YtihggbgmdlhlcaaGreatDoor.fnExactGroundOf
open Go Go.Proofs
theorem f0 : (Rows.fnExactGroundOfRow.wf (OpenSpec.ofChange Rows.fnExactGroundOfSpec)) = true := by kernel_rfl
theorem f1 : (laidOutB Tryz.prog) = true := by kernel_rfl
theorem f2 : (mapsRowed Tryz.prog) = true := by kernel_rfl
theorem f3 : (Tryz.f7.params.all (Tryz.prog.readableRec ·)) = true := by kernel_rfl
theorem f4 : (namedTie Tryz.prog Rows.fnExactGroundOfRow.named Rows.fnExactGroundOfSpec.vars) = true := by kernel_rfl
theorem f5 : ((Rows.fnExactGroundOfRow.stops == [])) = true := by kernel_rfl
theorem f6 : ((Tryz.prog.stops == [])) = true := by kernel_rfl
theorem f7 : ((Rows.fnExactGroundOfRow.knobs == [])) = true := by kernel_rfl
theorem f8 : ((Tryz.prog.stopKnobs == [])) = true := by kernel_rfl
theorem f9 : ((Rows.fnExactGroundOfRow.inPlace == Tryz.prog.inPlace 7)) = true := by kernel_rfl
theorem f10 : ((Rows.fnExactGroundOfRow.unfollowed == Tryz.prog.unfollowed 7)) = true := by kernel_rfl
theorem f11 : ((Rows.fnExactGroundOfRow.recurses == Tryz.prog.recurses 7)) = true := by kernel_rfl
theorem f12 : ((Rows.fnExactGroundOfRow.named == Tryz.prog.varsNamed 7)) = true := by kernel_rfl
end Go.Proofs.YtihggbgmdlhlcaaGreatDoor.fnExactGroundOf
