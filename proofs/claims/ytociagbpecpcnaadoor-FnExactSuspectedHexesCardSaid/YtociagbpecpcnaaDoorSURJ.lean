/- A closed fact about the row FnExactSuspectedHexes; no condition. -/
import Derived.Test.YtociagbpecpcnaaDoorRows
import Derived.JoinedOf
import Derived.SevenTiedAt
import Derived.KernelRfl
set_option linter.unusedVariables false
set_option linter.unusedSimpArgs false
namespace Go.Proofs.YtociagbpecpcnaaDoor.fnExactSuspectedHexes
open Go Go.Proofs
theorem k1 : Tryd.prog.mainIs = some (true, "69ca5448b38ddfd79e5299650701e1459d441216b95fb0f622a8811684e316b6".toList) := by kernel_rfl
end Go.Proofs.YtociagbpecpcnaaDoor.fnExactSuspectedHexes
