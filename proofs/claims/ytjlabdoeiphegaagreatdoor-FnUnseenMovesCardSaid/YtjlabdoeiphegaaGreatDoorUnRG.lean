/- A closed fact; no condition. -/
import Derived.Test.YtjlabdoeiphegaaGreatDoorRows
import Derived.JoinedOf
import Derived.SevenTiedAt
import Derived.KernelRfl
set_option linter.unusedVariables false
set_option linter.unusedSimpArgs false
namespace Go.Proofs.YtjlabdoeiphegaaGreatDoor.fnUnseenMoves
open Go Go.Proofs
theorem f13 : ((Rows.fnUnseenMovesRow.maps == (Tryz.f5.params.toList ++ Rows.fnUnseenMovesSpec.plain.varTypes Tryz.prog).any (Tryz.prog.mapsRec ·))) = true := by kernel_rfl
theorem f14 : ((Rows.fnUnseenMovesRow.ifaces == (Tryz.f5.params.toList ++ Rows.fnUnseenMovesSpec.plain.varTypes Tryz.prog).any (Tryz.prog.ifacesRec ·))) = true := by kernel_rfl
theorem f15 : ((Rows.fnUnseenMovesRow.mapsOut == Tryz.prog.mapsAmong Tryz.f5.resultTypes.toList)) = true := by kernel_rfl
theorem f16 : ((Rows.fnUnseenMovesRow.loops == (Tryz.f5.params.toList ++ Rows.fnUnseenMovesSpec.plain.varTypes Tryz.prog).any (Tryz.prog.loopsFrom ·))) = true := by kernel_rfl
theorem f17 : ((Rows.fnUnseenMovesRow.wideKeys == (Tryz.f5.params.toList ++ Rows.fnUnseenMovesSpec.plain.varTypes Tryz.prog ++ Tryz.f5.resultTypes.toList).any (Tryz.prog.wideKeysFrom ·))) = true := by kernel_rfl
theorem f18 : (Rows.fnUnseenMovesSpec.vars.all (Tryz.prog.varReadable ·)) = true := by kernel_rfl
theorem f19 : (Tryz.f5.resultTypes.all (fun t => Tryz.prog.readableRec t && decide (t < Tryz.prog.types.size))) = true := by kernel_rfl
theorem f20 : ((Rows.fnUnseenMovesRow.ifacesOut == Tryz.f5.resultTypes.toList.any (Tryz.prog.ifacesRec ·))) = true := by kernel_rfl
theorem f21 : ((Rows.fnUnseenMovesRow.loopsOut == Tryz.f5.resultTypes.toList.any (Tryz.prog.loopsFrom ·))) = true := by kernel_rfl
theorem f22 : ((Rows.fnUnseenMovesRow.plainKeys == Tryz.prog.plainKeys)) = true := by kernel_rfl
theorem f23 : (Rows.fnUnseenMovesRow.shortTexts.isNone) = true := by kernel_rfl
theorem f24 : (Tryz.prog.stopsHeard) = true := by kernel_rfl
theorem f28 : ((Rows.fnUnseenMovesRow.kinds == (if Rows.fnUnseenMovesRow.domain.isEmpty then [] else Tryz.f5.params.toList.map fun t => match Tryz.prog.underlying t with | some (.int k) => some k | _ => none))) = true := by kernel_rfl
theorem f29 : ((Rows.fnUnseenMovesRow.pinned == Rows.fnUnseenMovesRow.pinnedBy)) = true := by kernel_rfl
theorem f30 : ((Rows.fnUnseenMovesRow.veiled == (Tryz.f5.params.toList ++ Rows.fnUnseenMovesSpec.plain.varTypes Tryz.prog ++ Tryz.f5.resultTypes.toList).any (Tryz.prog.veiledRec ·))) = true := by kernel_rfl
theorem f31 : (Rows.fnUnseenMovesRow.veiledFits Tryz.prog Tryz.f5.params.toList (Tryz.f5.params.toList ++ Rows.fnUnseenMovesSpec.plain.varTypes Tryz.prog ++ Tryz.f5.resultTypes.toList)) = true := by kernel_rfl
end Go.Proofs.YtjlabdoeiphegaaGreatDoor.fnUnseenMoves
