/- A closed fact about the row FnExactNewsOf; no condition. -/
import Derived.Test.YtociagbpecpcnaaGreatDoorRows
import Derived.JoinedOf
import Derived.SevenTiedAt
import Derived.KernelRfl
set_option linter.unusedVariables false
set_option linter.unusedSimpArgs false
namespace Go.Proofs.YtociagbpecpcnaaGreatDoor.fnExactNewsOf
open Go Go.Proofs
theorem f0 : (Rows.fnExactNewsOfRow.wf (OpenSpec.ofChange Rows.fnExactNewsOfSpec)) = true := by kernel_rfl
theorem f1 : (laidOutB Tryz.prog) = true := by kernel_rfl
theorem f2 : (mapsRowed Tryz.prog) = true := by kernel_rfl
theorem f3 : (Tryz.f5.params.all (Tryz.prog.readableRec ·)) = true := by kernel_rfl
theorem f4 : (namedTie Tryz.prog Rows.fnExactNewsOfRow.named Rows.fnExactNewsOfSpec.vars) = true := by kernel_rfl
theorem f5 : ((Rows.fnExactNewsOfRow.stops == [])) = true := by kernel_rfl
theorem f6 : ((Tryz.prog.stops == [])) = true := by kernel_rfl
theorem f7 : ((Rows.fnExactNewsOfRow.knobs == [])) = true := by kernel_rfl
theorem f8 : ((Tryz.prog.stopKnobs == [])) = true := by kernel_rfl
theorem f9 : ((Rows.fnExactNewsOfRow.inPlace == Tryz.prog.inPlace 5)) = true := by kernel_rfl
theorem f10 : ((Rows.fnExactNewsOfRow.unfollowed == Tryz.prog.unfollowed 5)) = true := by kernel_rfl
theorem f11 : ((Rows.fnExactNewsOfRow.recurses == Tryz.prog.recurses 5)) = true := by kernel_rfl
theorem f12 : ((Rows.fnExactNewsOfRow.named == Tryz.prog.varsNamed 5)) = true := by kernel_rfl
end Go.Proofs.YtociagbpecpcnaaGreatDoor.fnExactNewsOf
