/- The row FnExactSuspectedHexes, for all arguments; no condition. -/
import Derived.Test.YtociagbpecpcnaaDoorSURB
import Derived.Test.YtociagbpecpcnaaDoorSURJ
import Derived.Test.YtociagbpecpcnaaDoorSURK
import Derived.Test.YtociagbpecpcnaaDoorSURL
import Derived.Test.YtociagbpecpcnaaDoorSURM
set_option linter.unusedVariables false
set_option linter.unusedSimpArgs false
namespace Go.Proofs.YtociagbpecpcnaaDoor.fnExactSuspectedHexes
open Go.ChangeShapes Go.WideShapes Go.ChangeAt Go.RowKit Go.Proofs.YtociagbpecpcnaaDoor.Ab Go.Proofs.YtociagbpecpcnaaDoor.X0
open Go.ChangeMaps (open_string shut_string)
theorem proved : Rows.FnExactSuspectedHexesCardSaid :=
  Claim7.holds_tied_plain_at .later [] [.data] true (true, "69ca5448b38ddfd79e5299650701e1459d441216b95fb0f622a8811684e316b6") false
    over (fun _ h => by cases h) k4 (fun _ h => by cases h) fnExactSuspectedHexes_row_tie rfl ⟨rfl, rfl⟩ k1 rfl
    (fun f fn hf hfn => by
      obtain rfl : f = 4 := Option.some.inj (k5.symm.trans hf) |>.symm
      obtain rfl : fn = Tryd.f4 := (Option.some.inj (Tryd.func4.symm.trans hfn)).symm
      exact ⟨k2, fun j t ht => by
        rw [Tryd.params4] at ht
        have hm : t ∈ [30, 32] := by simpa using Array.mem_of_getElem? ht
        have hall : ([30, 32].all fun u => !Tryd.prog.wantsStandIn u) = true := by kernel_rfl
        exact (show Tryd.prog.wantsStandIn t = false by simpa using List.all_eq_true.1 hall t hm)⟩)
    k3
end Go.Proofs.YtociagbpecpcnaaDoor.fnExactSuspectedHexes
