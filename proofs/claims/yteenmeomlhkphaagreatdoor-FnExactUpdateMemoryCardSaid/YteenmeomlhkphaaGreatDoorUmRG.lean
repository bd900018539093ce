/- A closed fact; no condition. -/
import Derived.Test.YteenmeomlhkphaaGreatDoorRows
import Derived.JoinedOf
import Derived.SevenTiedAt
import Derived.KernelRfl
set_option linter.unusedVariables false
set_option linter.unusedSimpArgs false
namespace Go.Proofs.YteenmeomlhkphaaGreatDoor.fnExactUpdateMemory
open Go Go.Proofs
theorem f13 : ((Rows.fnExactUpdateMemoryRow.maps == (Tryz.f6.params.toList ++ Rows.fnExactUpdateMemorySpec.plain.varTypes Tryz.prog).any (Tryz.prog.mapsRec ·))) = true := by kernel_rfl
theorem f14 : ((Rows.fnExactUpdateMemoryRow.ifaces == (Tryz.f6.params.toList ++ Rows.fnExactUpdateMemorySpec.plain.varTypes Tryz.prog).any (Tryz.prog.ifacesRec ·))) = true := by kernel_rfl
theorem f15 : ((Rows.fnExactUpdateMemoryRow.mapsOut == Tryz.prog.mapsAmong Tryz.f6.resultTypes.toList)) = true := by kernel_rfl
theorem f16 : ((Rows.fnExactUpdateMemoryRow.loops == (Tryz.f6.params.toList ++ Rows.fnExactUpdateMemorySpec.plain.varTypes Tryz.prog).any (Tryz.prog.loopsFrom ·))) = true := by kernel_rfl
theorem f17 : ((Rows.fnExactUpdateMemoryRow.wideKeys == (Tryz.f6.params.toList ++ Rows.fnExactUpdateMemorySpec.plain.varTypes Tryz.prog ++ Tryz.f6.resultTypes.toList).any (Tryz.prog.wideKeysFrom ·))) = true := by kernel_rfl
theorem f18 : (Rows.fnExactUpdateMemorySpec.vars.all (Tryz.prog.varReadable ·)) = true := by kernel_rfl
theorem f19 : (Tryz.f6.resultTypes.all (fun t => Tryz.prog.readableRec t && decide (t < Tryz.prog.types.size))) = true := by kernel_rfl
theorem f20 : ((Rows.fnExactUpdateMemoryRow.ifacesOut == Tryz.f6.resultTypes.toList.any (Tryz.prog.ifacesRec ·))) = true := by kernel_rfl
theorem f21 : ((Rows.fnExactUpdateMemoryRow.loopsOut == Tryz.f6.resultTypes.toList.any (Tryz.prog.loopsFrom ·))) = true := by kernel_rfl
theorem f22 : ((Rows.fnExactUpdateMemoryRow.plainKeys == Tryz.prog.plainKeys)) = true := by kernel_rfl
theorem f23 : (Rows.fnExactUpdateMemoryRow.shortTexts.isNone) = true := by kernel_rfl
theorem f24 : (Tryz.prog.stopsHeard) = true := by kernel_rfl
theorem f28 : ((Rows.fnExactUpdateMemoryRow.kinds == (if Rows.fnExactUpdateMemoryRow.domain.isEmpty then [] else Tryz.f6.params.toList.map fun t => match Tryz.prog.underlying t with | some (.int k) => some k | _ => none))) = true := by kernel_rfl
theorem f29 : ((Rows.fnExactUpdateMemoryRow.pinned == Rows.fnExactUpdateMemoryRow.pinnedBy)) = true := by kernel_rfl
theorem f30 : ((Rows.fnExactUpdateMemoryRow.veiled == (Tryz.f6.params.toList ++ Rows.fnExactUpdateMemorySpec.plain.varTypes Tryz.prog ++ Tryz.f6.resultTypes.toList).any (Tryz.prog.veiledRec ·))) = true := by kernel_rfl
theorem f31 : (Rows.fnExactUpdateMemoryRow.veiledFits Tryz.prog Tryz.f6.params.toList (Tryz.f6.params.toList ++ Rows.fnExactUpdateMemorySpec.plain.varTypes Tryz.prog ++ Tryz.f6.resultTypes.toList)) = true := by kernel_rfl
end Go.Proofs.YteenmeomlhkphaaGreatDoor.fnExactUpdateMemory
