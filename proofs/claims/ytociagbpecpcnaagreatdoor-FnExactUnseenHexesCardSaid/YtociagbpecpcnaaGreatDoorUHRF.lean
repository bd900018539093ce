/- A closed fact about the row FnExactUnseenHexes; no condition. -/
import Derived.Test.YtociagbpecpcnaaGreatDoorRows
import Derived.JoinedOf
import Derived.SevenTiedAt
import Derived.KernelRfl
set_option linter.unusedVariables false
set_option linter.unusedSimpArgs false
namespace Go.Proofs.YtociagbpecpcnaaGreatDoor.fnExactUnseenHexes
open Go Go.Proofs
theorem f0 : (Rows.fnExactUnseenHexesRow.wf (OpenSpec.ofChange Rows.fnExactUnseenHexesSpec)) = true := by kernel_rfl
theorem f1 : (laidOutB Tryz.prog) = true := by kernel_rfl
theorem f2 : (mapsRowed Tryz.prog) = true := by kernel_rfl
theorem f3 : (Tryz.f4.params.all (Tryz.prog.readableRec ·)) = true := by kernel_rfl
theorem f4 : (namedTie Tryz.prog Rows.fnExactUnseenHexesRow.named Rows.fnExactUnseenHexesSpec.vars) = true := by kernel_rfl
theorem f5 : ((Rows.fnExactUnseenHexesRow.stops == [])) = true := by kernel_rfl
theorem f6 : ((Tryz.prog.stops == [])) = true := by kernel_rfl
theorem f7 : ((Rows.fnExactUnseenHexesRow.knobs == [])) = true := by kernel_rfl
theorem f8 : ((Tryz.prog.stopKnobs == [])) = true := by kernel_rfl
theorem f9 : ((Rows.fnExactUnseenHexesRow.inPlace == Tryz.prog.inPlace 4)) = true := by kernel_rfl
theorem f10 : ((Rows.fnExactUnseenHexesRow.unfollowed == Tryz.prog.unfollowed 4)) = true := by kernel_rfl
theorem f11 : ((Rows.fnExactUnseenHexesRow.recurses == Tryz.prog.recurses 4)) = true := by kernel_rfl
theorem f12 : ((Rows.fnExactUnseenHexesRow.named == Tryz.prog.varsNamed 4)) = true := by kernel_rfl
end Go.Proofs.YtociagbpecpcnaaGreatDoor.fnExactUnseenHexes
