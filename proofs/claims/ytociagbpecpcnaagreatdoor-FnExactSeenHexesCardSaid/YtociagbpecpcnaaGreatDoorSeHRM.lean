/- A closed fact about the row FnExactSeenHexes; no condition. -/
import Derived.Test.YtociagbpecpcnaaGreatDoorRows
import Derived.JoinedOf
import Derived.SevenTiedAt
import Derived.KernelRfl
set_option linter.unusedVariables false
set_option linter.unusedSimpArgs false
namespace Go.Proofs.YtociagbpecpcnaaGreatDoor.fnExactSeenHexes
open Go Go.Proofs
theorem k4 : Rows.fnExactSeenHexesRow.wfByText (OpenSpec.ofChange Rows.fnExactSeenHexesSpec) = true := by kernel_rfl
theorem k5 : Tryz.prog.funcNamed "loop.example/g00886/laws.FnExactSeenHexes" = some 10 := by kernel_rfl
end Go.Proofs.YtociagbpecpcnaaGreatDoor.fnExactSeenHexes
