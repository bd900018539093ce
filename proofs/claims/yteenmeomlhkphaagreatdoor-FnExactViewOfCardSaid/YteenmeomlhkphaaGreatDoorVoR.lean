/- The row FnExactViewOf, for all arguments; no condition. -/
import Derived.Test.YteenmeomlhkphaaGreatDoorVoRB
import Derived.Test.YteenmeomlhkphaaGreatDoorVoRJ
import Derived.Test.YteenmeomlhkphaaGreatDoorVoRK
import Derived.Test.YteenmeomlhkphaaGreatDoorVoRL
import Derived.Test.YteenmeomlhkphaaGreatDoorVoRM
set_option linter.unusedVariables false
set_option linter.unusedSimpArgs false
namespace Go.Proofs.YteenmeomlhkphaaGreatDoor.fnExactViewOf
open Go.ChangeShapes Go.WideShapes Go.ChangeAt Go.RowKit Go.Proofs.YteenmeomlhkphaaGreatDoor.Ab Go.Proofs.YteenmeomlhkphaaGreatDoor.X0
open Go.ChangeMaps (open_string shut_string)
theorem proved : Rows.FnExactViewOfCardSaid :=
  Claim7.holds_tied_plain_at .later [] [.data] true (true, "f9ded02df2f47823796a6c8e03d8f555f368eb7a8fe0a2167ef800ae436f9aba") true
    over (fun _ h => by cases h) k4 (fun _ h => by cases h) fnExactViewOf_row_tie rfl ⟨rfl, rfl⟩ k1 rfl
    (fun f fn hf hfn => by
      obtain rfl : f = 9 := Option.some.inj (k5.symm.trans hf) |>.symm
      obtain rfl : fn = Tryz.f9 := (Option.some.inj (Tryz.func9.symm.trans hfn)).symm
      exact ⟨k2, fun j t ht => by
        rw [Tryz.params9] at ht
        have hm : t ∈ [30, 52, 3] := by simpa using Array.mem_of_getElem? ht
        have hall : ([30, 52, 3].all fun u => !Tryz.prog.wantsStandIn u) = true := by kernel_rfl
        exact (show Tryz.prog.wantsStandIn t = false by simpa using List.all_eq_true.1 hall t hm)⟩)
    k3
end Go.Proofs.YteenmeomlhkphaaGreatDoor.fnExactViewOf
