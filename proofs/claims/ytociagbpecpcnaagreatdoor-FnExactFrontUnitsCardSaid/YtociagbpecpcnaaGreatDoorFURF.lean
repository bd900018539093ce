/- A closed fact about the row FnExactFrontUnits; no condition. -/
import Derived.Test.YtociagbpecpcnaaGreatDoorRows
import Derived.JoinedOf
import Derived.SevenTiedAt
import Derived.KernelRfl
set_option linter.unusedVariables false
set_option linter.unusedSimpArgs false
namespace Go.Proofs.YtociagbpecpcnaaGreatDoor.fnExactFrontUnits
open Go Go.Proofs
theorem f0 : (Rows.fnExactFrontUnitsRow.wf (OpenSpec.ofChange Rows.fnExactFrontUnitsSpec)) = true := by kernel_rfl
theorem f1 : (laidOutB Tryz.prog) = true := by kernel_rfl
theorem f2 : (mapsRowed Tryz.prog) = true := by kernel_rfl
theorem f3 : (Tryz.f3.params.all (Tryz.prog.readableRec ·)) = true := by kernel_rfl
theorem f4 : (namedTie Tryz.prog Rows.fnExactFrontUnitsRow.named Rows.fnExactFrontUnitsSpec.vars) = true := by kernel_rfl
theorem f5 : ((Rows.fnExactFrontUnitsRow.stops == [])) = true := by kernel_rfl
theorem f6 : ((Tryz.prog.stops == [])) = true := by kernel_rfl
theorem f7 : ((Rows.fnExactFrontUnitsRow.knobs == [])) = true := by kernel_rfl
theorem f8 : ((Tryz.prog.stopKnobs == [])) = true := by kernel_rfl
theorem f9 : ((Rows.fnExactFrontUnitsRow.inPlace == Tryz.prog.inPlace 3)) = true := by kernel_rfl
theorem f10 : ((Rows.fnExactFrontUnitsRow.unfollowed == Tryz.prog.unfollowed 3)) = true := by kernel_rfl
theorem f11 : ((Rows.fnExactFrontUnitsRow.recurses == Tryz.prog.recurses 3)) = true := by kernel_rfl
theorem f12 : ((Rows.fnExactFrontUnitsRow.named == Tryz.prog.varsNamed 3)) = true := by kernel_rfl
end Go.Proofs.YtociagbpecpcnaaGreatDoor.fnExactFrontUnits
