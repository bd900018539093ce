/- A closed fact about the row FnExactTotalPoints; no condition. -/
import Derived.Test.YtihggbgmdlhlcaaGreatDoorRows
import Derived.JoinedOf
import Derived.SevenTiedAt
import Derived.KernelRfl
set_option linter.unusedVariables false
set_option linter.unusedSimpArgs false
namespace Go.Proofs.YtihggbgmdlhlcaaGreatDoor.fnExactTotalPoints
open Go Go.Proofs
theorem f13 : ((Rows.fnExactTotalPointsRow.maps == (Tryz.f13.params.toList ++ Rows.fnExactTotalPointsSpec.plain.varTypes Tryz.prog).any (Tryz.prog.mapsRec ·))) = true := by kernel_rfl
theorem f14 : ((Rows.fnExactTotalPointsRow.ifaces == (Tryz.f13.params.toList ++ Rows.fnExactTotalPointsSpec.plain.varTypes Tryz.prog).any (Tryz.prog.ifacesRec ·))) = true := by kernel_rfl
theorem f15 : ((Rows.fnExactTotalPointsRow.mapsOut == Tryz.prog.mapsAmong Tryz.f13.resultTypes.toList)) = true := by kernel_rfl
theorem f16 : ((Rows.fnExactTotalPointsRow.loops == (Tryz.f13.params.toList ++ Rows.fnExactTotalPointsSpec.plain.varTypes Tryz.prog).any (Tryz.prog.loopsFrom ·))) = true := by kernel_rfl
theorem f17 : ((Rows.fnExactTotalPointsRow.wideKeys == (Tryz.f13.params.toList ++ Rows.fnExactTotalPointsSpec.plain.varTypes Tryz.prog ++ Tryz.f13.resultTypes.toList).any (Tryz.prog.wideKeysFrom ·))) = true := by kernel_rfl
theorem f18 : (Rows.fnExactTotalPointsSpec.vars.all (Tryz.prog.varReadable ·)) = true := by kernel_rfl
theorem f19 : (Tryz.f13.resultTypes.all (fun t => Tryz.prog.readableRec t && decide (t < Tryz.prog.types.size))) = true := by kernel_rfl
theorem f20 : ((Rows.fnExactTotalPointsRow.ifacesOut == Tryz.f13.resultTypes.toList.any (Tryz.prog.ifacesRec ·))) = true := by kernel_rfl
theorem f21 : ((Rows.fnExactTotalPointsRow.loopsOut == Tryz.f13.resultTypes.toList.any (Tryz.prog.loopsFrom ·))) = true := by kernel_rfl
theorem f22 : ((Rows.fnExactTotalPointsRow.plainKeys == Tryz.prog.plainKeys)) = true := by kernel_rfl
theorem f23 : (Rows.fnExactTotalPointsRow.shortTexts.isNone) = true := by kernel_rfl
theorem f24 : (Tryz.prog.stopsHeard) = true := by kernel_rfl
theorem f28 : ((Rows.fnExactTotalPointsRow.kinds == (if Rows.fnExactTotalPointsRow.domain.isEmpty then [] else Tryz.f13.params.toList.map fun t => match Tryz.prog.underlying t with | some (.int k) => some k | _ => none))) = true := by kernel_rfl
theorem f29 : ((Rows.fnExactTotalPointsRow.pinned == Rows.fnExactTotalPointsRow.pinnedBy)) = true := by kernel_rfl
theorem f30 : ((Rows.fnExactTotalPointsRow.veiled == (Tryz.f13.params.toList ++ Rows.fnExactTotalPointsSpec.plain.varTypes Tryz.prog ++ Tryz.f13.resultTypes.toList).any (Tryz.prog.veiledRec ·))) = true := by kernel_rfl
theorem f31 : (Rows.fnExactTotalPointsRow.veiledFits Tryz.prog Tryz.f13.params.toList (Tryz.f13.params.toList ++ Rows.fnExactTotalPointsSpec.plain.varTypes Tryz.prog ++ Tryz.f13.resultTypes.toList)) = true := by kernel_rfl
end Go.Proofs.YtihggbgmdlhlcaaGreatDoor.fnExactTotalPoints
