/- A closed fact about the row FnExactReactionsLeft; no condition. -/
import Derived.Test.YtociagbpecpcnaaGreatDoorRows
import Derived.JoinedOf
import Derived.SevenTiedAt
import Derived.KernelRfl
set_option linter.unusedVariables false
set_option linter.unusedSimpArgs false
namespace Go.Proofs.YtociagbpecpcnaaGreatDoor.fnExactReactionsLeft
open Go Go.Proofs
theorem f0 : (Rows.fnExactReactionsLeftRow.wf (OpenSpec.ofChange Rows.fnExactReactionsLeftSpec)) = true := by kernel_rfl
theorem f1 : (laidOutB Tryz.prog) = true := by kernel_rfl
theorem f2 : (mapsRowed Tryz.prog) = true := by kernel_rfl
theorem f3 : (Tryz.f8.params.all (Tryz.prog.readableRec ·)) = true := by kernel_rfl
theorem f4 : (namedTie Tryz.prog Rows.fnExactReactionsLeftRow.named Rows.fnExactReactionsLeftSpec.vars) = true := by kernel_rfl
theorem f5 : ((Rows.fnExactReactionsLeftRow.stops == [])) = true := by kernel_rfl
theorem f6 : ((Tryz.prog.stops == [])) = true := by kernel_rfl
theorem f7 : ((Rows.fnExactReactionsLeftRow.knobs == [])) = true := by kernel_rfl
theorem f8 : ((Tryz.prog.stopKnobs == [])) = true := by kernel_rfl
theorem f9 : ((Rows.fnExactReactionsLeftRow.inPlace == Tryz.prog.inPlace 8)) = true := by kernel_rfl
theorem f10 : ((Rows.fnExactReactionsLeftRow.unfollowed == Tryz.prog.unfollowed 8)) = true := by kernel_rfl
theorem f11 : ((Rows.fnExactReactionsLeftRow.recurses == Tryz.prog.recurses 8)) = true := by kernel_rfl
theorem f12 : ((Rows.fnExactReactionsLeftRow.named == Tryz.prog.varsNamed 8)) = true := by kernel_rfl
end Go.Proofs.YtociagbpecpcnaaGreatDoor.fnExactReactionsLeft
