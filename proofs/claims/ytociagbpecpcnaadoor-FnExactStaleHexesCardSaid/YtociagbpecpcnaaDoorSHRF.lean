/- A closed fact about the row FnExactStaleHexes; no condition. -/
import Derived.Test.YtociagbpecpcnaaDoorRows
import Derived.JoinedOf
import Derived.SevenTiedAt
import Derived.KernelRfl
set_option linter.unusedVariables false
set_option linter.unusedSimpArgs false
namespace Go.Proofs.YtociagbpecpcnaaDoor.fnExactStaleHexes
open Go Go.Proofs
theorem f0 : (Rows.fnExactStaleHexesRow.wf (OpenSpec.ofChange Rows.fnExactStaleHexesSpec)) = true := by kernel_rfl
theorem f1 : (laidOutB Tryd.prog) = true := by kernel_rfl
theorem f2 : (mapsRowed Tryd.prog) = true := by kernel_rfl
theorem f3 : (Tryd.f3.params.all (Tryd.prog.readableRec ·)) = true := by kernel_rfl
theorem f4 : (namedTie Tryd.prog Rows.fnExactStaleHexesRow.named Rows.fnExactStaleHexesSpec.vars) = true := by kernel_rfl
theorem f5 : ((Rows.fnExactStaleHexesRow.stops == [])) = true := by kernel_rfl
theorem f6 : ((Tryd.prog.stops == [])) = true := by kernel_rfl
theorem f7 : ((Rows.fnExactStaleHexesRow.knobs == [])) = true := by kernel_rfl
theorem f8 : ((Tryd.prog.stopKnobs == [])) = true := by kernel_rfl
theorem f9 : ((Rows.fnExactStaleHexesRow.inPlace == Tryd.prog.inPlace 3)) = true := by kernel_rfl
theorem f10 : ((Rows.fnExactStaleHexesRow.unfollowed == Tryd.prog.unfollowed 3)) = true := by kernel_rfl
theorem f11 : ((Rows.fnExactStaleHexesRow.recurses == Tryd.prog.recurses 3)) = true := by kernel_rfl
theorem f12 : ((Rows.fnExactStaleHexesRow.named == Tryd.prog.varsNamed 3)) = true := by kernel_rfl
end Go.Proofs.YtociagbpecpcnaaDoor.fnExactStaleHexes
