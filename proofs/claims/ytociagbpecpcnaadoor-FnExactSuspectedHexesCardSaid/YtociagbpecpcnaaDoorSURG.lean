/- A closed fact about the row FnExactSuspectedHexes; no condition. -/
import Derived.Test.YtociagbpecpcnaaDoorRows
import Derived.JoinedOf
import Derived.SevenTiedAt
import Derived.KernelRfl
set_option linter.unusedVariables false
set_option linter.unusedSimpArgs false
namespace Go.Proofs.YtociagbpecpcnaaDoor.fnExactSuspectedHexes
open Go Go.Proofs
theorem f13 : ((Rows.fnExactSuspectedHexesRow.maps == (Tryd.f4.params.toList ++ Rows.fnExactSuspectedHexesSpec.plain.varTypes Tryd.prog).any (Tryd.prog.mapsRec ·))) = true := by kernel_rfl
theorem f14 : ((Rows.fnExactSuspectedHexesRow.ifaces == (Tryd.f4.params.toList ++ Rows.fnExactSuspectedHexesSpec.plain.varTypes Tryd.prog).any (Tryd.prog.ifacesRec ·))) = true := by kernel_rfl
theorem f15 : ((Rows.fnExactSuspectedHexesRow.mapsOut == Tryd.prog.mapsAmong Tryd.f4.resultTypes.toList)) = true := by kernel_rfl
theorem f16 : ((Rows.fnExactSuspectedHexesRow.loops == (Tryd.f4.params.toList ++ Rows.fnExactSuspectedHexesSpec.plain.varTypes Tryd.prog).any (Tryd.prog.loopsFrom ·))) = true := by kernel_rfl
theorem f17 : ((Rows.fnExactSuspectedHexesRow.wideKeys == (Tryd.f4.params.toList ++ Rows.fnExactSuspectedHexesSpec.plain.varTypes Tryd.prog ++ Tryd.f4.resultTypes.toList).any (Tryd.prog.wideKeysFrom ·))) = true := by kernel_rfl
theorem f18 : (Rows.fnExactSuspectedHexesSpec.vars.all (Tryd.prog.varReadable ·)) = true := by kernel_rfl
theorem f19 : (Tryd.f4.resultTypes.all (fun t => Tryd.prog.readableRec t && decide (t < Tryd.prog.types.size))) = true := by kernel_rfl
theorem f20 : ((Rows.fnExactSuspectedHexesRow.ifacesOut == Tryd.f4.resultTypes.toList.any (Tryd.prog.ifacesRec ·))) = true := by kernel_rfl
theorem f21 : ((Rows.fnExactSuspectedHexesRow.loopsOut == Tryd.f4.resultTypes.toList.any (Tryd.prog.loopsFrom ·))) = true := by kernel_rfl
theorem f22 : ((Rows.fnExactSuspectedHexesRow.plainKeys == Tryd.prog.plainKeys)) = true := by kernel_rfl
theorem f23 : (Rows.fnExactSuspectedHexesRow.shortTexts.isNone) = true := by kernel_rfl
theorem f24 : (Tryd.prog.stopsHeard) = true := by kernel_rfl
theorem f28 : ((Rows.fnExactSuspectedHexesRow.kinds == (if Rows.fnExactSuspectedHexesRow.domain.isEmpty then [] else Tryd.f4.params.toList.map fun t => match Tryd.prog.underlying t with | some (.int k) => some k | _ => none))) = true := by kernel_rfl
theorem f29 : ((Rows.fnExactSuspectedHexesRow.pinned == Rows.fnExactSuspectedHexesRow.pinnedBy)) = true := by kernel_rfl
theorem f30 : ((Rows.fnExactSuspectedHexesRow.veiled == (Tryd.f4.params.toList ++ Rows.fnExactSuspectedHexesSpec.plain.varTypes Tryd.prog ++ Tryd.f4.resultTypes.toList).any (Tryd.prog.veiledRec ·))) = true := by kernel_rfl
theorem f31 : (Rows.fnExactSuspectedHexesRow.veiledFits Tryd.prog Tryd.f4.params.toList (Tryd.f4.params.toList ++ Rows.fnExactSuspectedHexesSpec.plain.varTypes Tryd.prog ++ Tryd.f4.resultTypes.toList)) = true := by kernel_rfl
end Go.Proofs.YtociagbpecpcnaaDoor.fnExactSuspectedHexes
