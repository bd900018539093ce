/- The row FnExactParseReport, for all arguments; no condition. -/
import Derived.Test.YtjlabdoeiphegaaGreatDoorPrRB
import Derived.Test.YtjlabdoeiphegaaGreatDoorPrRJ
import Derived.Test.YtjlabdoeiphegaaGreatDoorPrRK
import Derived.Test.YtjlabdoeiphegaaGreatDoorPrRL
import Derived.Test.YtjlabdoeiphegaaGreatDoorPrRM
set_option linter.unusedVariables false
set_option linter.unusedSimpArgs false
namespace Go.Proofs.YtjlabdoeiphegaaGreatDoor.fnExactParseReport
open Go.ChangeShapes Go.WideShapes Go.ChangeAt Go.RowKit Go.Proofs.YtjlabdoeiphegaaGreatDoor.Ab Go.Proofs.YtjlabdoeiphegaaGreatDoor.X0
open Go.ChangeMaps (open_string shut_string)
theorem proved : Rows.FnExactParseReportCardSaid :=
  Claim7.holds_tied_plain_at .later [] [.data, .data, .data, .data, .sentinel, .sentinel, .data, .pinned] true (true, "7763377871fc6dd1020e137af40c9fde247f33351d429c048147ae23061dbb1f") true
    over (fun _ h => by cases h) k4 (fun _ h => by cases h) fnExactParseReport_row_tie rfl ⟨rfl, rfl⟩ k1 rfl
    (fun f fn hf hfn => by
      obtain rfl : f = 3 := Option.some.inj (k5.symm.trans hf) |>.symm
      obtain rfl : fn = Tryz.f3 := (Option.some.inj (Tryz.func3.symm.trans hfn)).symm
      exact ⟨k2, fun j t ht => by
        rw [Tryz.params3] at ht
        have hm : t ∈ [30, 9] := by simpa using Array.mem_of_getElem? ht
        have hall : ([30, 9].all fun u => !Tryz.prog.wantsStandIn u) = true := by kernel_rfl
        exact (show Tryz.prog.wantsStandIn t = false by simpa using List.all_eq_true.1 hall t hm)⟩)
    k3
end Go.Proofs.YtjlabdoeiphegaaGreatDoor.fnExactParseReport
