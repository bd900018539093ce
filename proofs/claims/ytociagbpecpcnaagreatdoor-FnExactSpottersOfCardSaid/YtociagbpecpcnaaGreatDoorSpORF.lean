/- A closed fact about the row FnExactSpottersOf; no condition. -/
import Derived.Test.YtociagbpecpcnaaGreatDoorRows
import Derived.JoinedOf
import Derived.SevenTiedAt
import Derived.KernelRfl
set_option linter.unusedVariables false
set_option linter.unusedSimpArgs false
namespace Go.Proofs.YtociagbpecpcnaaGreatDoor.fnExactSpottersOf
open Go Go.Proofs
theorem f0 : (Rows.fnExactSpottersOfRow.wf (OpenSpec.ofChange Rows.fnExactSpottersOfSpec)) = true := by kernel_rfl
theorem f1 : (laidOutB Tryz.prog) = true := by kernel_rfl
theorem f2 : (mapsRowed Tryz.prog) = true := by kernel_rfl
theorem f3 : (Tryz.f9.params.all (Tryz.prog.readableRec ·)) = true := by kernel_rfl
theorem f4 : (namedTie Tryz.prog Rows.fnExactSpottersOfRow.named Rows.fnExactSpottersOfSpec.vars) = true := by kernel_rfl
theorem f5 : ((Rows.fnExactSpottersOfRow.stops == [])) = true := by kernel_rfl
theorem f6 : ((Tryz.prog.stops == [])) = true := by kernel_rfl
theorem f7 : ((Rows.fnExactSpottersOfRow.knobs == [])) = true := by kernel_rfl
theorem f8 : ((Tryz.prog.stopKnobs == [])) = true := by kernel_rfl
theorem f9 : ((Rows.fnExactSpottersOfRow.inPlace == Tryz.prog.inPlace 9)) = true := by kernel_rfl
theorem f10 : ((Rows.fnExactSpottersOfRow.unfollowed == Tryz.prog.unfollowed 9)) = true := by kernel_rfl
theorem f11 : ((Rows.fnExactSpottersOfRow.recurses == Tryz.prog.recurses 9)) = true := by kernel_rfl
theorem f12 : ((Rows.fnExactSpottersOfRow.named == Tryz.prog.varsNamed 9)) = true := by kernel_rfl
end Go.Proofs.YtociagbpecpcnaaGreatDoor.fnExactSpottersOf
