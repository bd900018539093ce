/- A closed fact about the row FnExactSuspectedHexes; no condition. -/
import Derived.Test.YtociagbpecpcnaaDoorRows
import Derived.JoinedOf
import Derived.SevenTiedAt
import Derived.KernelRfl
set_option linter.unusedVariables false
set_option linter.unusedSimpArgs false
namespace Go.Proofs.YtociagbpecpcnaaDoor.fnExactSuspectedHexes
open Go Go.Proofs
theorem k4 : Rows.fnExactSuspectedHexesRow.wfByText (OpenSpec.ofChange Rows.fnExactSuspectedHexesSpec) = true := by kernel_rfl
theorem k5 : Tryd.prog.funcNamed "loop.example/g00886/laws.FnExactSuspectedHexes" = some 4 := by kernel_rfl
end Go.Proofs.YtociagbpecpcnaaDoor.fnExactSuspectedHexes
