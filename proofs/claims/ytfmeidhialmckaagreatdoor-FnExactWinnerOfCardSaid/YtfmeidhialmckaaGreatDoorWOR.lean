/- The row FnExactWinnerOf, for all arguments; no condition. -/
import Derived.Test.YtfmeidhialmckaaGreatDoorWORB
import Derived.Test.YtfmeidhialmckaaGreatDoorWORJ
import Derived.Test.YtfmeidhialmckaaGreatDoorWORK
import Derived.Test.YtfmeidhialmckaaGreatDoorWORL
import Derived.Test.YtfmeidhialmckaaGreatDoorWORM
set_option linter.unusedVariables false
set_option linter.unusedSimpArgs false
namespace Go.Proofs.YtfmeidhialmckaaGreatDoor.fnExactWinnerOf
open Go.ChangeShapes Go.WideShapes Go.ChangeAt Go.RowKit Go.Proofs.YtfmeidhialmckaaGreatDoor.Ab Go.Proofs.YtfmeidhialmckaaGreatDoor.X0
open Go.ChangeMaps (open_string shut_string)
theorem proved : Rows.FnExactWinnerOfCardSaid :=
  Claim7.holds_tied_plain_at .later [] [.data] true (true, "c8193c3be16ae02a70f598e768af905173c75a911500b2c3fe3d868ca50cf0ea") false
    over (fun _ h => by cases h) k4 (fun _ h => by cases h) fnExactWinnerOf_row_tie rfl ⟨rfl, rfl⟩ k1 rfl
    (fun f fn hf hfn => by
      obtain rfl : f = 8 := Option.some.inj (k5.symm.trans hf) |>.symm
      obtain rfl : fn = Tryz.f8 := (Option.some.inj (Tryz.func8.symm.trans hfn)).symm
      exact ⟨k2, fun j t ht => by
        rw [Tryz.params8] at ht
        have hm : t ∈ [30, 33, 78] := by simpa using Array.mem_of_getElem? ht
        have hall : ([30, 33, 78].all fun u => !Tryz.prog.wantsStandIn u) = true := by kernel_rfl
        exact (show Tryz.prog.wantsStandIn t = false by simpa using List.all_eq_true.1 hall t hm)⟩)
    k3
end Go.Proofs.YtfmeidhialmckaaGreatDoor.fnExactWinnerOf
