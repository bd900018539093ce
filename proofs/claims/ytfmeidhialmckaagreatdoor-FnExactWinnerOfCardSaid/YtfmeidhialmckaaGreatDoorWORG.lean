/- A closed fact about the row FnExactWinnerOf; no condition. -/
import Derived.Test.YtfmeidhialmckaaGreatDoorRows
import Derived.JoinedOf
import Derived.SevenTiedAt
import Derived.KernelRfl
set_option linter.unusedVariables false
set_option linter.unusedSimpArgs false
namespace Go.Proofs.YtfmeidhialmckaaGreatDoor.fnExactWinnerOf
open Go Go.Proofs
theorem f13 : ((Rows.fnExactWinnerOfRow.maps == (Tryz.f8.params.toList ++ Rows.fnExactWinnerOfSpec.plain.varTypes Tryz.prog).any (Tryz.prog.mapsRec ·))) = true := by kernel_rfl
theorem f14 : ((Rows.fnExactWinnerOfRow.ifaces == (Tryz.f8.params.toList ++ Rows.fnExactWinnerOfSpec.plain.varTypes Tryz.prog).any (Tryz.prog.ifacesRec ·))) = true := by kernel_rfl
theorem f15 : ((Rows.fnExactWinnerOfRow.mapsOut == Tryz.prog.mapsAmong Tryz.f8.resultTypes.toList)) = true := by kernel_rfl
theorem f16 : ((Rows.fnExactWinnerOfRow.loops == (Tryz.f8.params.toList ++ Rows.fnExactWinnerOfSpec.plain.varTypes Tryz.prog).any (Tryz.prog.loopsFrom ·))) = true := by kernel_rfl
theorem f17 : ((Rows.fnExactWinnerOfRow.wideKeys == (Tryz.f8.params.toList ++ Rows.fnExactWinnerOfSpec.plain.varTypes Tryz.prog ++ Tryz.f8.resultTypes.toList).any (Tryz.prog.wideKeysFrom ·))) = true := by kernel_rfl
theorem f18 : (Rows.fnExactWinnerOfSpec.vars.all (Tryz.prog.varReadable ·)) = true := by kernel_rfl
theorem f19 : (Tryz.f8.resultTypes.all (fun t => Tryz.prog.readableRec t && decide (t < Tryz.prog.types.size))) = true := by kernel_rfl
theorem f20 : ((Rows.fnExactWinnerOfRow.ifacesOut == Tryz.f8.resultTypes.toList.any (Tryz.prog.ifacesRec ·))) = true := by kernel_rfl
theorem f21 : ((Rows.fnExactWinnerOfRow.loopsOut == Tryz.f8.resultTypes.toList.any (Tryz.prog.loopsFrom ·))) = true := by kernel_rfl
theorem f22 : ((Rows.fnExactWinnerOfRow.plainKeys == Tryz.prog.plainKeys)) = true := by kernel_rfl
theorem f23 : (Rows.fnExactWinnerOfRow.shortTexts.isNone) = true := by kernel_rfl
theorem f24 : (Tryz.prog.stopsHeard) = true := by kernel_rfl
theorem f28 : ((Rows.fnExactWinnerOfRow.kinds == (if Rows.fnExactWinnerOfRow.domain.isEmpty then [] else Tryz.f8.params.toList.map fun t => match Tryz.prog.underlying t with | some (.int k) => some k | _ => none))) = true := by kernel_rfl
theorem f29 : ((Rows.fnExactWinnerOfRow.pinned == Rows.fnExactWinnerOfRow.pinnedBy)) = true := by kernel_rfl
theorem f30 : ((Rows.fnExactWinnerOfRow.veiled == (Tryz.f8.params.toList ++ Rows.fnExactWinnerOfSpec.plain.varTypes Tryz.prog ++ Tryz.f8.resultTypes.toList).any (Tryz.prog.veiledRec ·))) = true := by kernel_rfl
theorem f31 : (Rows.fnExactWinnerOfRow.veiledFits Tryz.prog Tryz.f8.params.toList (Tryz.f8.params.toList ++ Rows.fnExactWinnerOfSpec.plain.varTypes Tryz.prog ++ Tryz.f8.resultTypes.toList)) = true := by kernel_rfl
end Go.Proofs.YtfmeidhialmckaaGreatDoor.fnExactWinnerOf
