/- A closed fact about the row FnExactSideWorth; no condition. -/
import Derived.Test.YtihggbgmdlhlcaaGreatDoorRows
import Derived.JoinedOf
import Derived.SevenTiedAt
import Derived.KernelRfl
set_option linter.unusedVariables false
set_option linter.unusedSimpArgs false
namespace Go.Proofs.YtihggbgmdlhlcaaGreatDoor.fnExactSideWorth
open Go Go.Proofs
theorem f0 : (Rows.fnExactSideWorthRow.wf (OpenSpec.ofChange Rows.fnExactSideWorthSpec)) = true := by kernel_rfl
theorem f1 : (laidOutB Tryz.prog) = true := by kernel_rfl
theorem f2 : (mapsRowed Tryz.prog) = true := by kernel_rfl
theorem f3 : (Tryz.f12.params.all (Tryz.prog.readableRec ·)) = true := by kernel_rfl
theorem f4 : (namedTie Tryz.prog Rows.fnExactSideWorthRow.named Rows.fnExactSideWorthSpec.vars) = true := by kernel_rfl
theorem f5 : ((Rows.fnExactSideWorthRow.stops == [])) = true := by kernel_rfl
theorem f6 : ((Tryz.prog.stops == [])) = true := by kernel_rfl
theorem f7 : ((Rows.fnExactSideWorthRow.knobs == [])) = true := by kernel_rfl
theorem f8 : ((Tryz.prog.stopKnobs == [])) = true := by kernel_rfl
theorem f9 : ((Rows.fnExactSideWorthRow.inPlace == Tryz.prog.inPlace 12)) = true := by kernel_rfl
theorem f10 : ((Rows.fnExactSideWorthRow.unfollowed == Tryz.prog.unfollowed 12)) = true := by kernel_rfl
theorem f11 : ((Rows.fnExactSideWorthRow.recurses == Tryz.prog.recurses 12)) = true := by kernel_rfl
theorem f12 : ((Rows.fnExactSideWorthRow.named == Tryz.prog.varsNamed 12)) = true := by kernel_rfl
end Go.Proofs.YtihggbgmdlhlcaaGreatDoor.fnExactSideWorth
