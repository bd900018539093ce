/- The row FnExactParseReport, its variables listed; no condition. -/
import Derived.Test.YtjlabdoeiphegaaGreatDoorPrRA
import Derived.Test.YtjlabdoeiphegaaGreatDoorPrRF
import Derived.Test.YtjlabdoeiphegaaGreatDoorPrRG
import Derived.Test.YtjlabdoeiphegaaGreatDoorPrRH
import Derived.Test.YtjlabdoeiphegaaGreatDoorPrRI
set_option linter.unusedVariables false
set_option linter.unusedSimpArgs false
namespace Go.Proofs.YtjlabdoeiphegaaGreatDoor.fnExactParseReport
open Go.ChangeShapes Go.WideShapes Go.ChangeAt Go.RowKit Go.Proofs.YtjlabdoeiphegaaGreatDoor.Ab Go.Proofs.YtjlabdoeiphegaaGreatDoor.X0
open Go.ChangeMaps (open_string shut_string)
set_option maxRecDepth 100000
theorem bAnd {a b : Bool} (h : a = true) (k : b = true) : (a && b) = true := by rw [h, k]; rfl
theorem closed : joinedFacts Tryz.prog 3 Tryz.f3 Rows.fnExactParseReportSpec Rows.fnExactParseReportRow = true := (bAnd (bAnd (bAnd (bAnd (bAnd (bAnd (bAnd (bAnd (bAnd (bAnd (bAnd (bAnd (bAnd (bAnd (bAnd (bAnd (bAnd (bAnd (bAnd (bAnd (bAnd (bAnd (bAnd (bAnd (bAnd (bAnd (bAnd (bAnd (bAnd (bAnd (bAnd f0 f1) f2) f3) f4) f5) f6) f7) f8) f9) f10) f11) f12) f13) f14) f15) f16) f17) f18) f19) f20) f21) f22) f23) f24) f25) f26) f27) f28) f29) f30) f31)
theorem over : Rows.fnExactParseReportRow.holds Tryz.pinned (OpenSpec.ofChange Rows.fnExactParseReportSpec) :=
  OpenClaim.holds_of_wide 3 Tryz.f3 rfl rfl rfl rfl rfl rfl rfl ⟨rfl, rfl, rfl, rfl, rfl⟩ rfl rfl rfl rfl rfl (by kernel_rfl) Tryz.func3 closed
    (of_decide_eq_true (by kernel_rfl)) (by unfold Func.isWrapper; first | (rw [if_pos (by decide +kernel)]; kernel_rfl) | (rw [if_neg (by decide +kernel)]; exact ⟨rfl, rfl⟩))
    (fun os started H enc _ => lifted os started H enc)
end Go.Proofs.YtjlabdoeiphegaaGreatDoor.fnExactParseReport
