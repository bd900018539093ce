/- A closed fact about the row FnExactStaleHexes; no condition. -/
import Derived.Test.YtociagbpecpcnaaDoorRows
import Derived.JoinedOf
import Derived.SevenTiedAt
import Derived.KernelRfl
set_option linter.unusedVariables false
set_option linter.unusedSimpArgs false
namespace Go.Proofs.YtociagbpecpcnaaDoor.fnExactStaleHexes
open Go Go.Proofs
theorem k4 : Rows.fnExactStaleHexesRow.wfByText (OpenSpec.ofChange Rows.fnExactStaleHexesSpec) = true := by kernel_rfl
theorem k5 : Tryd.prog.funcNamed "loop.example/g00886/laws.FnExactStaleHexes" = some 3 := by kernel_rfl
end Go.Proofs.YtociagbpecpcnaaDoor.fnExactStaleHexes
