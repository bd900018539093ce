/- The row FnExactNewsOf, for all arguments; no condition. -/
import Derived.Test.YtociagbpecpcnaaGreatDoorNORB
import Derived.Test.YtociagbpecpcnaaGreatDoorNORJ
import Derived.Test.YtociagbpecpcnaaGreatDoorNORK
import Derived.Test.YtociagbpecpcnaaGreatDoorNORL
import Derived.Test.YtociagbpecpcnaaGreatDoorNORM
set_option linter.unusedVariables false
set_option linter.unusedSimpArgs false
namespace Go.Proofs.YtociagbpecpcnaaGreatDoor.fnExactNewsOf
open Go.ChangeShapes Go.WideShapes Go.ChangeAt Go.RowKit Go.Proofs.YtociagbpecpcnaaGreatDoor.Ab Go.Proofs.YtociagbpecpcnaaGreatDoor.X0
open Go.ChangeMaps (open_string shut_string)
theorem proved : Rows.FnExactNewsOfCardSaid :=
  Claim7.holds_tied_plain_at .later [] [.data] true (true, "58e41be866569b6558350f8030e32204c1aae5a463737200a63215e588f77c2b") false
    over (fun _ h => by cases h) k4 (fun _ h => by cases h) fnExactNewsOf_row_tie rfl ⟨rfl, rfl⟩ k1 rfl
    (fun f fn hf hfn => by
      obtain rfl : f = 5 := Option.some.inj (k5.symm.trans hf) |>.symm
      obtain rfl : fn = Tryz.f5 := (Option.some.inj (Tryz.func5.symm.trans hfn)).symm
      exact ⟨k2, fun j t ht => by
        rw [Tryz.params5] at ht
        have hm : t ∈ [30, 58, 58] := by simpa using Array.mem_of_getElem? ht
        have hall : ([30, 58, 58].all fun u => !Tryz.prog.wantsStandIn u) = true := by kernel_rfl
        exact (show Tryz.prog.wantsStandIn t = false by simpa using List.all_eq_true.1 hall t hm)⟩)
    k3
end Go.Proofs.YtociagbpecpcnaaGreatDoor.fnExactNewsOf
