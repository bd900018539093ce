/- A closed fact about the row FnExactStaleHexes; no condition. -/
import Derived.Test.YtociagbpecpcnaaDoorRows
import Derived.JoinedOf
import Derived.SevenTiedAt
import Derived.KernelRfl
set_option linter.unusedVariables false
set_option linter.unusedSimpArgs false
namespace Go.Proofs.YtociagbpecpcnaaDoor.fnExactStaleHexes
open Go Go.Proofs
theorem f25 : (Tryd.prog.mayEnter) = true := by kernel_rfl
end Go.Proofs.YtociagbpecpcnaaDoor.fnExactStaleHexes
