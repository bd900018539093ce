/- A closed fact; no condition. -/
import Derived.Test.YtjlabdoeiphegaaDoorRows
import Derived.JoinedOf
import Derived.SevenTiedAt
import Derived.KernelRfl
set_option linter.unusedVariables false
set_option linter.unusedSimpArgs false
namespace Go.Proofs.YtjlabdoeiphegaaDoor.fnExactNewMemory
open Go Go.Proofs
theorem k1 : Tryd.prog.mainIs = some (true, "ae49d918e46002018b7eceffb066cd1e315435f4eaf0067a65c55587a72e4ed8".toList) := by kernel_rfl
end Go.Proofs.YtjlabdoeiphegaaDoor.fnExactNewMemory
