/- A closed fact about the row FnExactStaleHexes; no condition. -/
import Derived.Test.YtociagbpecpcnaaDoorRows
import Derived.JoinedOf
import Derived.SevenTiedAt
import Derived.KernelRfl
set_option linter.unusedVariables false
set_option linter.unusedSimpArgs false
namespace Go.Proofs.YtociagbpecpcnaaDoor.fnExactStaleHexes
open Go Go.Proofs
theorem f13 : ((Rows.fnExactStaleHexesRow.maps == (Tryd.f3.params.toList ++ Rows.fnExactStaleHexesSpec.plain.varTypes Tryd.prog).any (Tryd.prog.mapsRec ·))) = true := by kernel_rfl
theorem f14 : ((Rows.fnExactStaleHexesRow.ifaces == (Tryd.f3.params.toList ++ Rows.fnExactStaleHexesSpec.plain.varTypes Tryd.prog).any (Tryd.prog.ifacesRec ·))) = true := by kernel_rfl
theorem f15 : ((Rows.fnExactStaleHexesRow.mapsOut == Tryd.prog.mapsAmong Tryd.f3.resultTypes.toList)) = true := by kernel_rfl
theorem f16 : ((Rows.fnExactStaleHexesRow.loops == (Tryd.f3.params.toList ++ Rows.fnExactStaleHexesSpec.plain.varTypes Tryd.prog).any (Tryd.prog.loopsFrom ·))) = true := by kernel_rfl
theorem f17 : ((Rows.fnExactStaleHexesRow.wideKeys == (Tryd.f3.params.toList ++ Rows.fnExactStaleHexesSpec.plain.varTypes Tryd.prog ++ Tryd.f3.resultTypes.toList).any (Tryd.prog.wideKeysFrom ·))) = true := by kernel_rfl
theorem f18 : (Rows.fnExactStaleHexesSpec.vars.all (Tryd.prog.varReadable ·)) = true := by kernel_rfl
theorem f19 : (Tryd.f3.resultTypes.all (fun t => Tryd.prog.readableRec t && decide (t < Tryd.prog.types.size))) = true := by kernel_rfl
theorem f20 : ((Rows.fnExactStaleHexesRow.ifacesOut == Tryd.f3.resultTypes.toList.any (Tryd.prog.ifacesRec ·))) = true := by kernel_rfl
theorem f21 : ((Rows.fnExactStaleHexesRow.loopsOut == Tryd.f3.resultTypes.toList.any (Tryd.prog.loopsFrom ·))) = true := by kernel_rfl
theorem f22 : ((Rows.fnExactStaleHexesRow.plainKeys == Tryd.prog.plainKeys)) = true := by kernel_rfl
theorem f23 : (Rows.fnExactStaleHexesRow.shortTexts.isNone) = true := by kernel_rfl
theorem f24 : (Tryd.prog.stopsHeard) = true := by kernel_rfl
theorem f28 : ((Rows.fnExactStaleHexesRow.kinds == (if Rows.fnExactStaleHexesRow.domain.isEmpty then [] else Tryd.f3.params.toList.map fun t => match Tryd.prog.underlying t with | some (.int k) => some k | _ => none))) = true := by kernel_rfl
theorem f29 : ((Rows.fnExactStaleHexesRow.pinned == Rows.fnExactStaleHexesRow.pinnedBy)) = true := by kernel_rfl
theorem f30 : ((Rows.fnExactStaleHexesRow.veiled == (Tryd.f3.params.toList ++ Rows.fnExactStaleHexesSpec.plain.varTypes Tryd.prog ++ Tryd.f3.resultTypes.toList).any (Tryd.prog.veiledRec ·))) = true := by kernel_rfl
theorem f31 : (Rows.fnExactStaleHexesRow.veiledFits Tryd.prog Tryd.f3.params.toList (Tryd.f3.params.toList ++ Rows.fnExactStaleHexesSpec.plain.varTypes Tryd.prog ++ Tryd.f3.resultTypes.toList)) = true := by kernel_rfl
end Go.Proofs.YtociagbpecpcnaaDoor.fnExactStaleHexes
