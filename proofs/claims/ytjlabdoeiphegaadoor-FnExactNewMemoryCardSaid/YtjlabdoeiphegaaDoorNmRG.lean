/- A closed fact; no condition. -/
import Derived.Test.YtjlabdoeiphegaaDoorRows
import Derived.JoinedOf
import Derived.SevenTiedAt
import Derived.KernelRfl
set_option linter.unusedVariables false
set_option linter.unusedSimpArgs false
namespace Go.Proofs.YtjlabdoeiphegaaDoor.fnExactNewMemory
open Go Go.Proofs
theorem f13 : ((Rows.fnExactNewMemoryRow.maps == (Tryd.f3.params.toList ++ Rows.fnExactNewMemorySpec.plain.varTypes Tryd.prog).any (Tryd.prog.mapsRec ·))) = true := by kernel_rfl
theorem f14 : ((Rows.fnExactNewMemoryRow.ifaces == (Tryd.f3.params.toList ++ Rows.fnExactNewMemorySpec.plain.varTypes Tryd.prog).any (Tryd.prog.ifacesRec ·))) = true := by kernel_rfl
theorem f15 : ((Rows.fnExactNewMemoryRow.mapsOut == Tryd.prog.mapsAmong Tryd.f3.resultTypes.toList)) = true := by kernel_rfl
theorem f16 : ((Rows.fnExactNewMemoryRow.loops == (Tryd.f3.params.toList ++ Rows.fnExactNewMemorySpec.plain.varTypes Tryd.prog).any (Tryd.prog.loopsFrom ·))) = true := by kernel_rfl
theorem f17 : ((Rows.fnExactNewMemoryRow.wideKeys == (Tryd.f3.params.toList ++ Rows.fnExactNewMemorySpec.plain.varTypes Tryd.prog ++ Tryd.f3.resultTypes.toList).any (Tryd.prog.wideKeysFrom ·))) = true := by kernel_rfl
theorem f18 : (Rows.fnExactNewMemorySpec.vars.all (Tryd.prog.varReadable ·)) = true := by kernel_rfl
theorem f19 : (Tryd.f3.resultTypes.all (fun t => Tryd.prog.readableRec t && decide (t < Tryd.prog.types.size))) = true := by kernel_rfl
theorem f20 : ((Rows.fnExactNewMemoryRow.ifacesOut == Tryd.f3.resultTypes.toList.any (Tryd.prog.ifacesRec ·))) = true := by kernel_rfl
theorem f21 : ((Rows.fnExactNewMemoryRow.loopsOut == Tryd.f3.resultTypes.toList.any (Tryd.prog.loopsFrom ·))) = true := by kernel_rfl
theorem f22 : ((Rows.fnExactNewMemoryRow.plainKeys == Tryd.prog.plainKeys)) = true := by kernel_rfl
theorem f23 : (Rows.fnExactNewMemoryRow.shortTexts.isNone) = true := by kernel_rfl
theorem f24 : (Tryd.prog.stopsHeard) = true := by kernel_rfl
theorem f28 : ((Rows.fnExactNewMemoryRow.kinds == (if Rows.fnExactNewMemoryRow.domain.isEmpty then [] else Tryd.f3.params.toList.map fun t => match Tryd.prog.underlying t with | some (.int k) => some k | _ => none))) = true := by kernel_rfl
theorem f29 : ((Rows.fnExactNewMemoryRow.pinned == Rows.fnExactNewMemoryRow.pinnedBy)) = true := by kernel_rfl
theorem f30 : ((Rows.fnExactNewMemoryRow.veiled == (Tryd.f3.params.toList ++ Rows.fnExactNewMemorySpec.plain.varTypes Tryd.prog ++ Tryd.f3.resultTypes.toList).any (Tryd.prog.veiledRec ·))) = true := by kernel_rfl
theorem f31 : (Rows.fnExactNewMemoryRow.veiledFits Tryd.prog Tryd.f3.params.toList (Tryd.f3.params.toList ++ Rows.fnExactNewMemorySpec.plain.varTypes Tryd.prog ++ Tryd.f3.resultTypes.toList)) = true := by kernel_rfl
end Go.Proofs.YtjlabdoeiphegaaDoor.fnExactNewMemory
