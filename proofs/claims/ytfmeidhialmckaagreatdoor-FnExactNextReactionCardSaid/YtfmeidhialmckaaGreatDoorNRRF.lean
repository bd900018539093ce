/- A closed fact about the row FnExactNextReaction; no condition. -/
import Derived.Test.YtfmeidhialmckaaGreatDoorRows
import Derived.JoinedOf
import Derived.SevenTiedAt
import Derived.KernelRfl
set_option linter.unusedVariables false
set_option linter.unusedSimpArgs false
namespace Go.Proofs.YtfmeidhialmckaaGreatDoor.fnExactNextReaction
open Go Go.Proofs
theorem f0 : (Rows.fnExactNextReactionRow.wf (OpenSpec.ofChange Rows.fnExactNextReactionSpec)) = true := by kernel_rfl
theorem f1 : (laidOutB Tryz.prog) = true := by kernel_rfl
theorem f2 : (mapsRowed Tryz.prog) = true := by kernel_rfl
theorem f3 : (Tryz.f6.params.all (Tryz.prog.readableRec ·)) = true := by kernel_rfl
theorem f4 : (namedTie Tryz.prog Rows.fnExactNextReactionRow.named Rows.fnExactNextReactionSpec.vars) = true := by kernel_rfl
theorem f5 : ((Rows.fnExactNextReactionRow.stops == [])) = true := by kernel_rfl
theorem f6 : ((Tryz.prog.stops == [])) = true := by kernel_rfl
theorem f7 : ((Rows.fnExactNextReactionRow.knobs == [])) = true := by kernel_rfl
theorem f8 : ((Tryz.prog.stopKnobs == [])) = true := by kernel_rfl
theorem f9 : ((Rows.fnExactNextReactionRow.inPlace == Tryz.prog.inPlace 6)) = true := by kernel_rfl
theorem f10 : ((Rows.fnExactNextReactionRow.unfollowed == Tryz.prog.unfollowed 6)) = true := by kernel_rfl
theorem f11 : ((Rows.fnExactNextReactionRow.recurses == Tryz.prog.recurses 6)) = true := by kernel_rfl
theorem f12 : ((Rows.fnExactNextReactionRow.named == Tryz.prog.varsNamed 6)) = true := by kernel_rfl
end Go.Proofs.YtfmeidhialmckaaGreatDoor.fnExactNextReaction
