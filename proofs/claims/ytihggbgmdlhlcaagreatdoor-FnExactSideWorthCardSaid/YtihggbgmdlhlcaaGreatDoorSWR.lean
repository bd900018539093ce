/- The row FnExactSideWorth, for all arguments; no condition. -/
import Derived.Test.YtihggbgmdlhlcaaGreatDoorSWRB
import Derived.Test.YtihggbgmdlhlcaaGreatDoorSWRJ
import Derived.Test.YtihggbgmdlhlcaaGreatDoorSWRK
import Derived.Test.YtihggbgmdlhlcaaGreatDoorSWRL
import Derived.Test.YtihggbgmdlhlcaaGreatDoorSWRM
set_option linter.unusedVariables false
set_option linter.unusedSimpArgs false
namespace Go.Proofs.YtihggbgmdlhlcaaGreatDoor.fnExactSideWorth
open Go.ChangeShapes Go.WideShapes Go.ChangeAt Go.RowKit Go.Proofs.YtihggbgmdlhlcaaGreatDoor.Ab Go.Proofs.YtihggbgmdlhlcaaGreatDoor.X0
open Go.ChangeMaps (open_string shut_string)
theorem proved : Rows.FnExactSideWorthCardSaid :=
  Claim7.holds_tied_plain_at .later [] [.data] true (true, "5cc8fc11dd3ddf3d5f6457482cd9330f2b700f86da6b03302e136146b6067f79") false
    over (fun _ h => by cases h) k4 (fun _ h => by cases h) fnExactSideWorth_row_tie rfl ⟨rfl, rfl⟩ k1 rfl
    (fun f fn hf hfn => by
      obtain rfl : f = 12 := Option.some.inj (k5.symm.trans hf) |>.symm
      obtain rfl : fn = Tryz.f12 := (Option.some.inj (Tryz.func12.symm.trans hfn)).symm
      exact ⟨k2, fun j t ht => by
        rw [Tryz.params12] at ht
        have hm : t ∈ [30, 54, 3, 26] := by simpa using Array.mem_of_getElem? ht
        have hall : ([30, 54, 3, 26].all fun u => !Tryz.prog.wantsStandIn u) = true := by kernel_rfl
        exact (show Tryz.prog.wantsStandIn t = false by simpa using List.all_eq_true.1 hall t hm)⟩)
    k3
end Go.Proofs.YtihggbgmdlhlcaaGreatDoor.fnExactSideWorth
