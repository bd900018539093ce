/- A closed fact about the row FnExactSuspectedHexes; no condition. -/
import Derived.Test.YtociagbpecpcnaaDoorRows
import Derived.JoinedOf
import Derived.SevenTiedAt
import Derived.KernelRfl
set_option linter.unusedVariables false
set_option linter.unusedSimpArgs false
namespace Go.Proofs.YtociagbpecpcnaaDoor.fnExactSuspectedHexes
open Go Go.Proofs
theorem k2 : false = Tryd.prog.looks [] := by kernel_rfl
end Go.Proofs.YtociagbpecpcnaaDoor.fnExactSuspectedHexes
