/- A closed fact; no condition. -/
import Derived.Test.YteenmeomlhkphaaGreatDoorRows
import Derived.JoinedOf
import Derived.SevenTiedAt
import Derived.KernelRfl
set_option linter.unusedVariables false
set_option linter.unusedSimpArgs false
namespace Go.Proofs.YteenmeomlhkphaaGreatDoor.fnExactViewOf
open Go Go.Proofs
theorem f13 : ((Rows.fnExactViewOfRow.maps == (Tryz.f9.params.toList ++ Rows.fnExactViewOfSpec.plain.varTypes Tryz.prog).any (Tryz.prog.mapsRec ·))) = true := by kernel_rfl
theorem f14 : ((Rows.fnExactViewOfRow.ifaces == (Tryz.f9.params.toList ++ Rows.fnExactViewOfSpec.plain.varTypes Tryz.prog).any (Tryz.prog.ifacesRec ·))) = true := by kernel_rfl
theorem f15 : ((Rows.fnExactViewOfRow.mapsOut == Tryz.prog.mapsAmong Tryz.f9.resultTypes.toList)) = true := by kernel_rfl
theorem f16 : ((Rows.fnExactViewOfRow.loops == (Tryz.f9.params.toList ++ Rows.fnExactViewOfSpec.plain.varTypes Tryz.prog).any (Tryz.prog.loopsFrom ·))) = true := by kernel_rfl
theorem f17 : ((Rows.fnExactViewOfRow.wideKeys == (Tryz.f9.params.toList ++ Rows.fnExactViewOfSpec.plain.varTypes Tryz.prog ++ Tryz.f9.resultTypes.toList).any (Tryz.prog.wideKeysFrom ·))) = true := by kernel_rfl
theorem f18 : (Rows.fnExactViewOfSpec.vars.all (Tryz.prog.varReadable ·)) = true := by kernel_rfl
theorem f19 : (Tryz.f9.resultTypes.all (fun t => Tryz.prog.readableRec t && decide (t < Tryz.prog.types.size))) = true := by kernel_rfl
theorem f20 : ((Rows.fnExactViewOfRow.ifacesOut == Tryz.f9.resultTypes.toList.any (Tryz.prog.ifacesRec ·))) = true := by kernel_rfl
theorem f21 : ((Rows.fnExactViewOfRow.loopsOut == Tryz.f9.resultTypes.toList.any (Tryz.prog.loopsFrom ·))) = true := by kernel_rfl
theorem f22 : ((Rows.fnExactViewOfRow.plainKeys == Tryz.prog.plainKeys)) = true := by kernel_rfl
theorem f23 : (Rows.fnExactViewOfRow.shortTexts.isNone) = true := by kernel_rfl
theorem f24 : (Tryz.prog.stopsHeard) = true := by kernel_rfl
theorem f28 : ((Rows.fnExactViewOfRow.kinds == (if Rows.fnExactViewOfRow.domain.isEmpty then [] else Tryz.f9.params.toList.map fun t => match Tryz.prog.underlying t with | some (.int k) => some k | _ => none))) = true := by kernel_rfl
theorem f29 : ((Rows.fnExactViewOfRow.pinned == Rows.fnExactViewOfRow.pinnedBy)) = true := by kernel_rfl
theorem f30 : ((Rows.fnExactViewOfRow.veiled == (Tryz.f9.params.toList ++ Rows.fnExactViewOfSpec.plain.varTypes Tryz.prog ++ Tryz.f9.resultTypes.toList).any (Tryz.prog.veiledRec ·))) = true := by kernel_rfl
theorem f31 : (Rows.fnExactViewOfRow.veiledFits Tryz.prog Tryz.f9.params.toList (Tryz.f9.params.toList ++ Rows.fnExactViewOfSpec.plain.varTypes Tryz.prog ++ Tryz.f9.resultTypes.toList)) = true := by kernel_rfl
end Go.Proofs.YteenmeomlhkphaaGreatDoor.fnExactViewOf
