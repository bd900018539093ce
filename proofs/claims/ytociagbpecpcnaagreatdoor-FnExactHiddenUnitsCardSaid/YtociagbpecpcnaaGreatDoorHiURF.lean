/- A closed fact about the row FnExactHiddenUnits; no condition. -/
import Derived.Test.YtociagbpecpcnaaGreatDoorRows
import Derived.JoinedOf
import Derived.SevenTiedAt
import Derived.KernelRfl
set_option linter.unusedVariables false
set_option linter.unusedSimpArgs false
namespace Go.Proofs.YtociagbpecpcnaaGreatDoor.fnExactHiddenUnits
open Go Go.Proofs
theorem f0 : (Rows.fnExactHiddenUnitsRow.wf (OpenSpec.ofChange Rows.fnExactHiddenUnitsSpec)) = true := by kernel_rfl
theorem f1 : (laidOutB Tryz.prog) = true := by kernel_rfl
theorem f2 : (mapsRowed Tryz.prog) = true := by kernel_rfl
theorem f3 : (Tryz.f11.params.all (Tryz.prog.readableRec ·)) = true := by kernel_rfl
theorem f4 : (namedTie Tryz.prog Rows.fnExactHiddenUnitsRow.named Rows.fnExactHiddenUnitsSpec.vars) = true := by kernel_rfl
theorem f5 : ((Rows.fnExactHiddenUnitsRow.stops == [])) = true := by kernel_rfl
theorem f6 : ((Tryz.prog.stops == [])) = true := by kernel_rfl
theorem f7 : ((Rows.fnExactHiddenUnitsRow.knobs == [])) = true := by kernel_rfl
theorem f8 : ((Tryz.prog.stopKnobs == [])) = true := by kernel_rfl
theorem f9 : ((Rows.fnExactHiddenUnitsRow.inPlace == Tryz.prog.inPlace 11)) = true := by kernel_rfl
theorem f10 : ((Rows.fnExactHiddenUnitsRow.unfollowed == Tryz.prog.unfollowed 11)) = true := by kernel_rfl
theorem f11 : ((Rows.fnExactHiddenUnitsRow.recurses == Tryz.prog.recurses 11)) = true := by kernel_rfl
theorem f12 : ((Rows.fnExactHiddenUnitsRow.named == Tryz.prog.varsNamed 11)) = true := by kernel_rfl
end Go.Proofs.YtociagbpecpcnaaGreatDoor.fnExactHiddenUnits
