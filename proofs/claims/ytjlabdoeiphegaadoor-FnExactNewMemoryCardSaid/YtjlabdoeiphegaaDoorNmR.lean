/- The row FnExactNewMemory, for all arguments; no condition. -/
import Derived.Test.YtjlabdoeiphegaaDoorNmRB
import Derived.Test.YtjlabdoeiphegaaDoorNmRJ
import Derived.Test.YtjlabdoeiphegaaDoorNmRK
import Derived.Test.YtjlabdoeiphegaaDoorNmRL
import Derived.Test.YtjlabdoeiphegaaDoorNmRM
set_option linter.unusedVariables false
set_option linter.unusedSimpArgs false
namespace Go.Proofs.YtjlabdoeiphegaaDoor.fnExactNewMemory
open Go.ChangeShapes Go.WideShapes Go.ChangeAt Go.RowKit Go.Proofs.YtjlabdoeiphegaaDoor.Ab Go.Proofs.YtjlabdoeiphegaaDoor.X0
open Go.ChangeMaps (open_string shut_string)
theorem proved : Rows.FnExactNewMemoryCardSaid :=
  Claim7.holds_tied_plain_at .later [] [.data] true (true, "ae49d918e46002018b7eceffb066cd1e315435f4eaf0067a65c55587a72e4ed8") false
    over (fun _ h => by cases h) k4 (fun _ h => by cases h) fnExactNewMemory_row_tie rfl ⟨rfl, rfl⟩ k1 rfl
    (fun f fn hf hfn => by
      obtain rfl : f = 3 := Option.some.inj (k5.symm.trans hf) |>.symm
      obtain rfl : fn = Tryd.f3 := (Option.some.inj (Tryd.func3.symm.trans hfn)).symm
      exact ⟨k2, fun j t ht => by
        rw [Tryd.params3] at ht
        have hm : t ∈ [30] := by simpa using Array.mem_of_getElem? ht
        have hall : ([30].all fun u => !Tryd.prog.wantsStandIn u) = true := by kernel_rfl
        exact (show Tryd.prog.wantsStandIn t = false by simpa using List.all_eq_true.1 hall t hm)⟩)
    k3
end Go.Proofs.YtjlabdoeiphegaaDoor.fnExactNewMemory
