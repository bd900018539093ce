/- A closed fact about the row FnExactCountHidings; no condition. -/
import Derived.Test.YtihggbgmdlhlcaaGreatDoorRows
import Derived.JoinedOf
import Derived.SevenTiedAt
import Derived.KernelRfl
set_option linter.unusedVariables false
set_option linter.unusedSimpArgs false
namespace Go.Proofs.YtihggbgmdlhlcaaGreatDoor.fnExactCountHidings
open Go Go.Proofs
theorem f0 : (Rows.fnExactCountHidingsRow.wf (OpenSpec.ofChange Rows.fnExactCountHidingsSpec)) = true := by kernel_rfl
theorem f1 : (laidOutB Tryz.prog) = true := by kernel_rfl
theorem f2 : (mapsRowed Tryz.prog) = true := by kernel_rfl
theorem f3 : (Tryz.f3.params.all (Tryz.prog.readableRec ·)) = true := by kernel_rfl
theorem f4 : (namedTie Tryz.prog Rows.fnExactCountHidingsRow.named Rows.fnExactCountHidingsSpec.vars) = true := by kernel_rfl
theorem f5 : ((Rows.fnExactCountHidingsRow.stops == [])) = true := by kernel_rfl
theorem f6 : ((Tryz.prog.stops == [])) = true := by kernel_rfl
theorem f7 : ((Rows.fnExactCountHidingsRow.knobs == [])) = true := by kernel_rfl
theorem f8 : ((Tryz.prog.stopKnobs == [])) = true := by kernel_rfl
theorem f9 : ((Rows.fnExactCountHidingsRow.inPlace == Tryz.prog.inPlace 3)) = true := by kernel_rfl
theorem f10 : ((Rows.fnExactCountHidingsRow.unfollowed == Tryz.prog.unfollowed 3)) = true := by kernel_rfl
theorem f11 : ((Rows.fnExactCountHidingsRow.recurses == Tryz.prog.recurses 3)) = true := by kernel_rfl
theorem f12 : ((Rows.fnExactCountHidingsRow.named == Tryz.prog.varsNamed 3)) = true := by kernel_rfl
end Go.Proofs.YtihggbgmdlhlcaaGreatDoor.fnExactCountHidings
