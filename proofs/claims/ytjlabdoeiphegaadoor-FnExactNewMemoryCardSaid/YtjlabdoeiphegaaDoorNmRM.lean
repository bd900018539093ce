/- A closed fact; no condition. -/
import Derived.Test.YtjlabdoeiphegaaDoorRows
import Derived.JoinedOf
import Derived.SevenTiedAt
import Derived.KernelRfl
set_option linter.unusedVariables false
set_option linter.unusedSimpArgs false
namespace Go.Proofs.YtjlabdoeiphegaaDoor.fnExactNewMemory
open Go Go.Proofs
theorem k4 : Rows.fnExactNewMemoryRow.wfByText (OpenSpec.ofChange Rows.fnExactNewMemorySpec) = true := by kernel_rfl
theorem k5 : Tryd.prog.funcNamed "loop.example/g00886/laws.FnExactNewMemory" = some 3 := by kernel_rfl
end Go.Proofs.YtjlabdoeiphegaaDoor.fnExactNewMemory
