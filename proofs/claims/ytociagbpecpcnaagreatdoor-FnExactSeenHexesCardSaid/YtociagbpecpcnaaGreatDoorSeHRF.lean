/- A closed fact about the row FnExactSeenHexes; no condition. -/
import Derived.Test.YtociagbpecpcnaaGreatDoorRows
import Derived.JoinedOf
import Derived.SevenTiedAt
import Derived.KernelRfl
set_option linter.unusedVariables false
set_option linter.unusedSimpArgs false
namespace Go.Proofs.YtociagbpecpcnaaGreatDoor.fnExactSeenHexes
open Go Go.Proofs
theorem f0 : (Rows.fnExactSeenHexesRow.wf (OpenSpec.ofChange Rows.fnExactSeenHexesSpec)) = true := by kernel_rfl
theorem f1 : (laidOutB Tryz.prog) = true := by kernel_rfl
theorem f2 : (mapsRowed Tryz.prog) = true := by kernel_rfl
theorem f3 : (Tryz.f10.params.all (Tryz.prog.readableRec ·)) = true := by kernel_rfl
theorem f4 : (namedTie Tryz.prog Rows.fnExactSeenHexesRow.named Rows.fnExactSeenHexesSpec.vars) = true := by kernel_rfl
theorem f5 : ((Rows.fnExactSeenHexesRow.stops == [])) = true := by kernel_rfl
theorem f6 : ((Tryz.prog.stops == [])) = true := by kernel_rfl
theorem f7 : ((Rows.fnExactSeenHexesRow.knobs == [])) = true := by kernel_rfl
theorem f8 : ((Tryz.prog.stopKnobs == [])) = true := by kernel_rfl
theorem f9 : ((Rows.fnExactSeenHexesRow.inPlace == Tryz.prog.inPlace 10)) = true := by kernel_rfl
theorem f10 : ((Rows.fnExactSeenHexesRow.unfollowed == Tryz.prog.unfollowed 10)) = true := by kernel_rfl
theorem f11 : ((Rows.fnExactSeenHexesRow.recurses == Tryz.prog.recurses 10)) = true := by kernel_rfl
theorem f12 : ((Rows.fnExactSeenHexesRow.named == Tryz.prog.varsNamed 10)) = true := by kernel_rfl
end Go.Proofs.YtociagbpecpcnaaGreatDoor.fnExactSeenHexes
