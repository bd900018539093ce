/- A closed fact about the row FnExactUnitWorth; no condition. -/
import Derived.Test.YtihggbgmdlhlcaaGreatDoorRows
import Derived.JoinedOf
import Derived.SevenTiedAt
import Derived.KernelRfl
set_option linter.unusedVariables false
set_option linter.unusedSimpArgs false
namespace Go.Proofs.YtihggbgmdlhlcaaGreatDoor.fnExactUnitWorth
open Go Go.Proofs
theorem f0 : (Rows.fnExactUnitWorthRow.wf (OpenSpec.ofChange Rows.fnExactUnitWorthSpec)) = true := by kernel_rfl
theorem f1 : (laidOutB Tryz.prog) = true := by kernel_rfl
theorem f2 : (mapsRowed Tryz.prog) = true := by kernel_rfl
theorem f3 : (Tryz.f10.params.all (Tryz.prog.readableRec ·)) = true := by kernel_rfl
theorem f4 : (namedTie Tryz.prog Rows.fnExactUnitWorthRow.named Rows.fnExactUnitWorthSpec.vars) = true := by kernel_rfl
theorem f5 : ((Rows.fnExactUnitWorthRow.stops == [])) = true := by kernel_rfl
theorem f6 : ((Tryz.prog.stops == [])) = true := by kernel_rfl
theorem f7 : ((Rows.fnExactUnitWorthRow.knobs == [])) = true := by kernel_rfl
theorem f8 : ((Tryz.prog.stopKnobs == [])) = true := by kernel_rfl
theorem f9 : ((Rows.fnExactUnitWorthRow.inPlace == Tryz.prog.inPlace 10)) = true := by kernel_rfl
theorem f10 : ((Rows.fnExactUnitWorthRow.unfollowed == Tryz.prog.unfollowed 10)) = true := by kernel_rfl
theorem f11 : ((Rows.fnExactUnitWorthRow.recurses == Tryz.prog.recurses 10)) = true := by kernel_rfl
theorem f12 : ((Rows.fnExactUnitWorthRow.named == Tryz.prog.varsNamed 10)) = true := by kernel_rfl
end Go.Proofs.YtihggbgmdlhlcaaGreatDoor.fnExactUnitWorth
