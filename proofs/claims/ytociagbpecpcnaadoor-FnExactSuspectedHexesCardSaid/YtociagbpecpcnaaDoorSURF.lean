/- A closed fact about the row FnExactSuspectedHexes; no condition. -/
import Derived.Test.YtociagbpecpcnaaDoorRows
import Derived.JoinedOf
import Derived.SevenTiedAt
import Derived.KernelRfl
set_option linter.unusedVariables false
set_option linter.unusedSimpArgs false
namespace Go.Proofs.YtociagbpecpcnaaDoor.fnExactSuspectedHexes
open Go Go.Proofs
theorem f0 : (Rows.fnExactSuspectedHexesRow.wf (OpenSpec.ofChange Rows.fnExactSuspectedHexesSpec)) = true := by kernel_rfl
theorem f1 : (laidOutB Tryd.prog) = true := by kernel_rfl
theorem f2 : (mapsRowed Tryd.prog) = true := by kernel_rfl
theorem f3 : (Tryd.f4.params.all (Tryd.prog.readableRec ·)) = true := by kernel_rfl
theorem f4 : (namedTie Tryd.prog Rows.fnExactSuspectedHexesRow.named Rows.fnExactSuspectedHexesSpec.vars) = true := by kernel_rfl
theorem f5 : ((Rows.fnExactSuspectedHexesRow.stops == [])) = true := by kernel_rfl
theorem f6 : ((Tryd.prog.stops == [])) = true := by kernel_rfl
theorem f7 : ((Rows.fnExactSuspectedHexesRow.knobs == [])) = true := by kernel_rfl
theorem f8 : ((Tryd.prog.stopKnobs == [])) = true := by kernel_rfl
theorem f9 : ((Rows.fnExactSuspectedHexesRow.inPlace == Tryd.prog.inPlace 4)) = true := by kernel_rfl
theorem f10 : ((Rows.fnExactSuspectedHexesRow.unfollowed == Tryd.prog.unfollowed 4)) = true := by kernel_rfl
theorem f11 : ((Rows.fnExactSuspectedHexesRow.recurses == Tryd.prog.recurses 4)) = true := by kernel_rfl
theorem f12 : ((Rows.fnExactSuspectedHexesRow.named == Tryd.prog.varsNamed 4)) = true := by kernel_rfl
end Go.Proofs.YtociagbpecpcnaaDoor.fnExactSuspectedHexes
