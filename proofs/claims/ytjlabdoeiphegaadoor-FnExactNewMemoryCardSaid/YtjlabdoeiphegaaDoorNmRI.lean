/- A closed fact; no condition. -/
import Derived.Test.YtjlabdoeiphegaaDoorRows
import Derived.JoinedOf
import Derived.SevenTiedAt
import Derived.KernelRfl
set_option linter.unusedVariables false
set_option linter.unusedSimpArgs false
namespace Go.Proofs.YtjlabdoeiphegaaDoor.fnExactNewMemory
open Go Go.Proofs
theorem f26 : ((Rows.fnExactNewMemoryRow.lifted == Tryd.prog.liftsFinal)) = true := by kernel_rfl
theorem f27 : ((Tryd.prog.make == some Rows.fnExactNewMemoryRow.make)) = true := by kernel_rfl
end Go.Proofs.YtjlabdoeiphegaaDoor.fnExactNewMemory
