/- A closed fact; no condition. -/
import Derived.Test.YtjlabdoeiphegaaGreatDoorRows
import Derived.JoinedOf
import Derived.SevenTiedAt
import Derived.KernelRfl
set_option linter.unusedVariables false
set_option linter.unusedSimpArgs false
namespace Go.Proofs.YtjlabdoeiphegaaGreatDoor.fnExactRetreatAll
open Go Go.Proofs
theorem f0 : (Rows.fnExactRetreatAllRow.wf (OpenSpec.ofChange Rows.fnExactRetreatAllSpec)) = true := by kernel_rfl
theorem f1 : (laidOutB Tryz.prog) = true := by kernel_rfl
theorem f2 : (mapsRowed Tryz.prog) = true := by kernel_rfl
theorem f3 : (Tryz.f4.params.all (Tryz.prog.readableRec ·)) = true := by kernel_rfl
theorem f4 : (namedTie Tryz.prog Rows.fnExactRetreatAllRow.named Rows.fnExactRetreatAllSpec.vars) = true := by kernel_rfl
theorem f5 : ((Rows.fnExactRetreatAllRow.stops == [])) = true := by kernel_rfl
theorem f6 : ((Tryz.prog.stops == [])) = true := by kernel_rfl
theorem f7 : ((Rows.fnExactRetreatAllRow.knobs == [])) = true := by kernel_rfl
theorem f8 : ((Tryz.prog.stopKnobs == [])) = true := by kernel_rfl
theorem f9 : ((Rows.fnExactRetreatAllRow.inPlace == Tryz.prog.inPlace 4)) = true := by kernel_rfl
theorem f10 : ((Rows.fnExactRetreatAllRow.unfollowed == Tryz.prog.unfollowed 4)) = true := by kernel_rfl
theorem f11 : ((Rows.fnExactRetreatAllRow.recurses == Tryz.prog.recurses 4)) = true := by kernel_rfl
theorem f12 : ((Rows.fnExactRetreatAllRow.named == Tryz.prog.varsNamed 4)) = true := by kernel_rfl
end Go.Proofs.YtjlabdoeiphegaaGreatDoor.fnExactRetreatAll
