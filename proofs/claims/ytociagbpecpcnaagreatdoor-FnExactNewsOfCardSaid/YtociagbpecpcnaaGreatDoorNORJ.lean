/- A closed fact about the row FnExactNewsOf; no condition. -/
import Derived.Test.YtociagbpecpcnaaGreatDoorRows
import Derived.JoinedOf
import Derived.SevenTiedAt
import Derived.KernelRfl
set_option linter.unusedVariables false
set_option linter.unusedSimpArgs false
namespace Go.Proofs.YtociagbpecpcnaaGreatDoor.fnExactNewsOf
open Go Go.Proofs
theorem k1 : Tryz.prog.mainIs = some (true, "58e41be866569b6558350f8030e32204c1aae5a463737200a63215e588f77c2b".toList) := by kernel_rfl
end Go.Proofs.YtociagbpecpcnaaGreatDoor.fnExactNewsOf
