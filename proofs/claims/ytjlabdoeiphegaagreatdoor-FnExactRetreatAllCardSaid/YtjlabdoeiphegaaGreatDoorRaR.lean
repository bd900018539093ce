/- The row FnExactRetreatAll, for all arguments; no condition. -/
import Derived.Test.YtjlabdoeiphegaaGreatDoorRaRB
import Derived.Test.YtjlabdoeiphegaaGreatDoorRaRJ
import Derived.Test.YtjlabdoeiphegaaGreatDoorRaRK
import Derived.Test.YtjlabdoeiphegaaGreatDoorRaRL
import Derived.Test.YtjlabdoeiphegaaGreatDoorRaRM
set_option linter.unusedVariables false
set_option linter.unusedSimpArgs false
namespace Go.Proofs.YtjlabdoeiphegaaGreatDoor.fnExactRetreatAll
open Go.ChangeShapes Go.WideShapes Go.ChangeAt Go.RowKit Go.Proofs.YtjlabdoeiphegaaGreatDoor.Ab Go.Proofs.YtjlabdoeiphegaaGreatDoor.X0
open Go.ChangeMaps (open_string shut_string)
theorem proved : Rows.FnExactRetreatAllCardSaid :=
  Claim7.holds_tied_plain_at .later [] [.data] true (true, "7763377871fc6dd1020e137af40c9fde247f33351d429c048147ae23061dbb1f") true
    over (fun _ h => by cases h) k4 (fun _ h => by cases h) fnExactRetreatAll_row_tie rfl ⟨rfl, rfl⟩ k1 rfl
    (fun f fn hf hfn => by
      obtain rfl : f = 4 := Option.some.inj (k5.symm.trans hf) |>.symm
      obtain rfl : fn = Tryz.f4 := (Option.some.inj (Tryz.func4.symm.trans hfn)).symm
      exact ⟨k2, fun j t ht => by
        rw [Tryz.params4] at ht
        have hm : t ∈ [30, 52, 26, 3] := by simpa using Array.mem_of_getElem? ht
        have hall : ([30, 52, 26, 3].all fun u => !Tryz.prog.wantsStandIn u) = true := by kernel_rfl
        exact (show Tryz.prog.wantsStandIn t = false by simpa using List.all_eq_true.1 hall t hm)⟩)
    k3
end Go.Proofs.YtjlabdoeiphegaaGreatDoor.fnExactRetreatAll
