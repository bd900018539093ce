/- A closed fact; no condition. -/
import Derived.Test.YtjlabdoeiphegaaGreatDoorRows
import Derived.JoinedOf
import Derived.SevenTiedAt
import Derived.KernelRfl
set_option linter.unusedVariables false
set_option linter.unusedSimpArgs false
namespace Go.Proofs.YtjlabdoeiphegaaGreatDoor.fnUnseenMoves
open Go Go.Proofs
theorem f0 : (Rows.fnUnseenMovesRow.wf (OpenSpec.ofChange Rows.fnUnseenMovesSpec)) = true := by kernel_rfl
theorem f1 : (laidOutB Tryz.prog) = true := by kernel_rfl
theorem f2 : (mapsRowed Tryz.prog) = true := by kernel_rfl
theorem f3 : (Tryz.f5.params.all (Tryz.prog.readableRec ·)) = true := by kernel_rfl
theorem f4 : (namedTie Tryz.prog Rows.fnUnseenMovesRow.named Rows.fnUnseenMovesSpec.vars) = true := by kernel_rfl
theorem f5 : ((Rows.fnUnseenMovesRow.stops == [])) = true := by kernel_rfl
theorem f6 : ((Tryz.prog.stops == [])) = true := by kernel_rfl
theorem f7 : ((Rows.fnUnseenMovesRow.knobs == [])) = true := by kernel_rfl
theorem f8 : ((Tryz.prog.stopKnobs == [])) = true := by kernel_rfl
theorem f9 : ((Rows.fnUnseenMovesRow.inPlace == Tryz.prog.inPlace 5)) = true := by kernel_rfl
theorem f10 : ((Rows.fnUnseenMovesRow.unfollowed == Tryz.prog.unfollowed 5)) = true := by kernel_rfl
theorem f11 : ((Rows.fnUnseenMovesRow.recurses == Tryz.prog.recurses 5)) = true := by kernel_rfl
theorem f12 : ((Rows.fnUnseenMovesRow.named == Tryz.prog.varsNamed 5)) = true := by kernel_rfl
end Go.Proofs.YtjlabdoeiphegaaGreatDoor.fnUnseenMoves
