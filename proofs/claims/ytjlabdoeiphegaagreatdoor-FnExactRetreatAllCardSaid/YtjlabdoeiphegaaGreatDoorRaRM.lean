/- A closed fact; no condition. -/
import Derived.Test.YtjlabdoeiphegaaGreatDoorRows
import Derived.JoinedOf
import Derived.SevenTiedAt
import Derived.KernelRfl
set_option linter.unusedVariables false
set_option linter.unusedSimpArgs false
namespace Go.Proofs.YtjlabdoeiphegaaGreatDoor.fnExactRetreatAll
open Go Go.Proofs
theorem k4 : Rows.fnExactRetreatAllRow.wfByText (OpenSpec.ofChange Rows.fnExactRetreatAllSpec) = true := by kernel_rfl
theorem k5 : Tryz.prog.funcNamed "loop.example/g00886/laws.FnExactRetreatAll" = some 4 := by kernel_rfl
end Go.Proofs.YtjlabdoeiphegaaGreatDoor.fnExactRetreatAll
