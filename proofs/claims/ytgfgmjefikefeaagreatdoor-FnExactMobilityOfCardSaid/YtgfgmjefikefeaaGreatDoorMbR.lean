/- The row FnExactMobilityOf, for all arguments; no condition. -/
import Derived.Test.YtgfgmjefikefeaaGreatDoorMbRB
import Derived.Test.YtgfgmjefikefeaaGreatDoorMbRJ
import Derived.Test.YtgfgmjefikefeaaGreatDoorMbRK
import Derived.Test.YtgfgmjefikefeaaGreatDoorMbRL
import Derived.Test.YtgfgmjefikefeaaGreatDoorMbRM
set_option linter.unusedVariables false
set_option linter.unusedSimpArgs false
namespace Go.Proofs.YtgfgmjefikefeaaGreatDoor.fnExactMobilityOf
open Go.ChangeShapes Go.WideShapes Go.ChangeAt Go.RowKit Go.Proofs.YtgfgmjefikefeaaGreatDoor.Ab Go.Proofs.YtgfgmjefikefeaaGreatDoor.X0
open Go.ChangeMaps (open_string shut_string)
theorem proved : Rows.FnExactMobilityOfCardSaid :=
  Claim7.holds_tied_plain_at .later [] [.data] true (true, "5be826b1d7a7646ead91cffc440f3359bfa1b94b3c188d04616258106abc7aaa") false
    over (fun _ h => by cases h) k4 (fun _ h => by cases h) fnExactMobilityOf_row_tie rfl ⟨rfl, rfl⟩ k1 rfl
    (fun f fn hf hfn => by
      obtain rfl : f = 3 := Option.some.inj (k5.symm.trans hf) |>.symm
      obtain rfl : fn = Tryz.f3 := (Option.some.inj (Tryz.func3.symm.trans hfn)).symm
      exact ⟨k2, fun j t ht => by
        rw [Tryz.params3] at ht
        have hm : t ∈ [30, 33, 3] := by simpa using Array.mem_of_getElem? ht
        have hall : ([30, 33, 3].all fun u => !Tryz.prog.wantsStandIn u) = true := by kernel_rfl
        exact (show Tryz.prog.wantsStandIn t = false by simpa using List.all_eq_true.1 hall t hm)⟩)
    k3
end Go.Proofs.YtgfgmjefikefeaaGreatDoor.fnExactMobilityOf
