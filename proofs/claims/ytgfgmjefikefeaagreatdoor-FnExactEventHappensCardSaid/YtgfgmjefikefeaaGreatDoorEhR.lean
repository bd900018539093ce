/- The row FnExactEventHappens, for all arguments; no condition. -/
import Derived.Test.YtgfgmjefikefeaaGreatDoorEhRB
import Derived.Test.YtgfgmjefikefeaaGreatDoorEhRJ
import Derived.Test.YtgfgmjefikefeaaGreatDoorEhRK
import Derived.Test.YtgfgmjefikefeaaGreatDoorEhRL
import Derived.Test.YtgfgmjefikefeaaGreatDoorEhRM
set_option linter.unusedVariables false
set_option linter.unusedSimpArgs false
namespace Go.Proofs.YtgfgmjefikefeaaGreatDoor.fnExactEventHappens
open Go.ChangeShapes Go.WideShapes Go.ChangeAt Go.RowKit Go.Proofs.YtgfgmjefikefeaaGreatDoor.Ab Go.Proofs.YtgfgmjefikefeaaGreatDoor.X0
open Go.ChangeMaps (open_string shut_string)
theorem proved : Rows.FnExactEventHappensCardSaid :=
  Claim7.holds_tied_plain_at .later [] [.data] true (true, "5be826b1d7a7646ead91cffc440f3359bfa1b94b3c188d04616258106abc7aaa") false
    over (fun _ h => by cases h) k4 (fun _ h => by cases h) fnExactEventHappens_row_tie rfl ⟨rfl, rfl⟩ k1 rfl
    (fun f fn hf hfn => by
      obtain rfl : f = 4 := Option.some.inj (k5.symm.trans hf) |>.symm
      obtain rfl : fn = Tryz.f4 := (Option.some.inj (Tryz.func4.symm.trans hfn)).symm
      exact ⟨k2, fun j t ht => by
        rw [Tryz.params4] at ht
        have hm : t ∈ [30, 33, 53, 3, 3] := by simpa using Array.mem_of_getElem? ht
        have hall : ([30, 33, 53, 3, 3].all fun u => !Tryz.prog.wantsStandIn u) = true := by kernel_rfl
        exact (show Tryz.prog.wantsStandIn t = false by simpa using List.all_eq_true.1 hall t hm)⟩)
    k3
end Go.Proofs.YtgfgmjefikefeaaGreatDoor.fnExactEventHappens
