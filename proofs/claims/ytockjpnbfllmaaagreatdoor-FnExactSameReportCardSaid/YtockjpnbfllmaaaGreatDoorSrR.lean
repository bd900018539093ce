/- The row FnExactSameReport, for all arguments; no condition. -/
import Derived.Test.YtockjpnbfllmaaaGreatDoorSrRB
import Derived.Test.YtockjpnbfllmaaaGreatDoorSrRJ
import Derived.Test.YtockjpnbfllmaaaGreatDoorSrRK
import Derived.Test.YtockjpnbfllmaaaGreatDoorSrRL
import Derived.Test.YtockjpnbfllmaaaGreatDoorSrRM
set_option linter.unusedVariables false
set_option linter.unusedSimpArgs false
namespace Go.Proofs.YtockjpnbfllmaaaGreatDoor.fnExactSameReport
open Go.ChangeShapes Go.WideShapes Go.ChangeAt Go.RowKit Go.Proofs.YtockjpnbfllmaaaGreatDoor.Ab Go.Proofs.YtockjpnbfllmaaaGreatDoor.X0
open Go.ChangeMaps (open_string shut_string)
theorem proved : Rows.FnExactSameReportCardSaid :=
  Claim7.holds_tied_plain_at .later [] [.data, .data, .data, .data] true (true, "80cb33bb1eb7f7a6ad0b8099af4c5cc10edd08b45e57cbae486f9d11672376b4") false
    over (fun _ h => by cases h) k4 (fun _ h => by cases h) fnExactSameReport_row_tie rfl ⟨rfl, rfl⟩ k1 rfl
    (fun f fn hf hfn => by
      obtain rfl : f = 5 := Option.some.inj (k5.symm.trans hf) |>.symm
      obtain rfl : fn = Tryz.f5 := (Option.some.inj (Tryz.func5.symm.trans hfn)).symm
      exact ⟨k2, fun j t ht => by
        rw [Tryz.params5] at ht
        have hm : t ∈ [30, 54, 54, 3] := by simpa using Array.mem_of_getElem? ht
        have hall : ([30, 54, 54, 3].all fun u => !Tryz.prog.wantsStandIn u) = true := by kernel_rfl
        exact (show Tryz.prog.wantsStandIn t = false by simpa using List.all_eq_true.1 hall t hm)⟩)
    k3
end Go.Proofs.YtockjpnbfllmaaaGreatDoor.fnExactSameReport
