/- A closed fact; no condition. -/
import Derived.Test.YtjlabdoeiphegaaGreatDoorRows
import Derived.JoinedOf
import Derived.SevenTiedAt
import Derived.KernelRfl
set_option linter.unusedVariables false
set_option linter.unusedSimpArgs false
namespace Go.Proofs.YtjlabdoeiphegaaGreatDoor.fnExactParseReport
open Go Go.Proofs
theorem k2 : true = Tryz.prog.looks [] := by kernel_rfl
end Go.Proofs.YtjlabdoeiphegaaGreatDoor.fnExactParseReport
