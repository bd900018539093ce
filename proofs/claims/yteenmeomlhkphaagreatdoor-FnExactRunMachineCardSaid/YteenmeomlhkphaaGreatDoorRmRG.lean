/- A closed fact; no condition. -/
import Derived.Test.YteenmeomlhkphaaGreatDoorRows
import Derived.JoinedOf
import Derived.SevenTiedAt
import Derived.KernelRfl
set_option linter.unusedVariables false
set_option linter.unusedSimpArgs false
namespace Go.Proofs.YteenmeomlhkphaaGreatDoor.fnExactRunMachine
open Go Go.Proofs
theorem f13 : ((Rows.fnExactRunMachineRow.maps == (Tryz.f8.params.toList ++ Rows.fnExactRunMachineSpec.plain.varTypes Tryz.prog).any (Tryz.prog.mapsRec ·))) = true := by kernel_rfl
theorem f14 : ((Rows.fnExactRunMachineRow.ifaces == (Tryz.f8.params.toList ++ Rows.fnExactRunMachineSpec.plain.varTypes Tryz.prog).any (Tryz.prog.ifacesRec ·))) = true := by kernel_rfl
theorem f15 : ((Rows.fnExactRunMachineRow.mapsOut == Tryz.prog.mapsAmong Tryz.f8.resultTypes.toList)) = true := by kernel_rfl
theorem f16 : ((Rows.fnExactRunMachineRow.loops == (Tryz.f8.params.toList ++ Rows.fnExactRunMachineSpec.plain.varTypes Tryz.prog).any (Tryz.prog.loopsFrom ·))) = true := by kernel_rfl
theorem f17 : ((Rows.fnExactRunMachineRow.wideKeys == (Tryz.f8.params.toList ++ Rows.fnExactRunMachineSpec.plain.varTypes Tryz.prog ++ Tryz.f8.resultTypes.toList).any (Tryz.prog.wideKeysFrom ·))) = true := by kernel_rfl
theorem f18 : (Rows.fnExactRunMachineSpec.vars.all (Tryz.prog.varReadable ·)) = true := by kernel_rfl
theorem f19 : (Tryz.f8.resultTypes.all (fun t => Tryz.prog.readableRec t && decide (t < Tryz.prog.types.size))) = true := by kernel_rfl
theorem f20 : ((Rows.fnExactRunMachineRow.ifacesOut == Tryz.f8.resultTypes.toList.any (Tryz.prog.ifacesRec ·))) = true := by kernel_rfl
theorem f21 : ((Rows.fnExactRunMachineRow.loopsOut == Tryz.f8.resultTypes.toList.any (Tryz.prog.loopsFrom ·))) = true := by kernel_rfl
theorem f22 : ((Rows.fnExactRunMachineRow.plainKeys == Tryz.prog.plainKeys)) = true := by kernel_rfl
theorem f23 : (Rows.fnExactRunMachineRow.shortTexts.isNone) = true := by kernel_rfl
theorem f24 : (Tryz.prog.stopsHeard) = true := by kernel_rfl
theorem f28 : ((Rows.fnExactRunMachineRow.kinds == (if Rows.fnExactRunMachineRow.domain.isEmpty then [] else Tryz.f8.params.toList.map fun t => match Tryz.prog.underlying t with | some (.int k) => some k | _ => none))) = true := by kernel_rfl
theorem f29 : ((Rows.fnExactRunMachineRow.pinned == Rows.fnExactRunMachineRow.pinnedBy)) = true := by kernel_rfl
theorem f30 : ((Rows.fnExactRunMachineRow.veiled == (Tryz.f8.params.toList ++ Rows.fnExactRunMachineSpec.plain.varTypes Tryz.prog ++ Tryz.f8.resultTypes.toList).any (Tryz.prog.veiledRec ·))) = true := by kernel_rfl
theorem f31 : (Rows.fnExactRunMachineRow.veiledFits Tryz.prog Tryz.f8.params.toList (Tryz.f8.params.toList ++ Rows.fnExactRunMachineSpec.plain.varTypes Tryz.prog ++ Tryz.f8.resultTypes.toList)) = true := by kernel_rfl
end Go.Proofs.YteenmeomlhkphaaGreatDoor.fnExactRunMachine
