/- A closed fact; no condition. -/
import Derived.Test.YtjlabdoeiphegaaDoorRows
import Derived.JoinedOf
import Derived.SevenTiedAt
import Derived.KernelRfl
set_option linter.unusedVariables false
set_option linter.unusedSimpArgs false
namespace Go.Proofs.YtjlabdoeiphegaaDoor.fnExactNewMemory
open Go Go.Proofs
theorem k3 : false = Rows.fnExactNewMemoryRow.goesBy Tryd.prog := by kernel_rfl
end Go.Proofs.YtjlabdoeiphegaaDoor.fnExactNewMemory
