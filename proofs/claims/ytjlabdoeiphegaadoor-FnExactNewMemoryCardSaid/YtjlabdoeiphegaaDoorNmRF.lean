/- A closed fact; no condition. -/
import Derived.Test.YtjlabdoeiphegaaDoorRows
import Derived.JoinedOf
import Derived.SevenTiedAt
import Derived.KernelRfl
set_option linter.unusedVariables false
set_option linter.unusedSimpArgs false
namespace Go.Proofs.YtjlabdoeiphegaaDoor.fnExactNewMemory
open Go Go.Proofs
theorem f0 : (Rows.fnExactNewMemoryRow.wf (OpenSpec.ofChange Rows.fnExactNewMemorySpec)) = true := by kernel_rfl
theorem f1 : (laidOutB Tryd.prog) = true := by kernel_rfl
theorem f2 : (mapsRowed Tryd.prog) = true := by kernel_rfl
theorem f3 : (Tryd.f3.params.all (Tryd.prog.readableRec ·)) = true := by kernel_rfl
theorem f4 : (namedTie Tryd.prog Rows.fnExactNewMemoryRow.named Rows.fnExactNewMemorySpec.vars) = true := by kernel_rfl
theorem f5 : ((Rows.fnExactNewMemoryRow.stops == [])) = true := by kernel_rfl
theorem f6 : ((Tryd.prog.stops == [])) = true := by kernel_rfl
theorem f7 : ((Rows.fnExactNewMemoryRow.knobs == [])) = true := by kernel_rfl
theorem f8 : ((Tryd.prog.stopKnobs == [])) = true := by kernel_rfl
theorem f9 : ((Rows.fnExactNewMemoryRow.inPlace == Tryd.prog.inPlace 3)) = true := by kernel_rfl
theorem f10 : ((Rows.fnExactNewMemoryRow.unfollowed == Tryd.prog.unfollowed 3)) = true := by kernel_rfl
theorem f11 : ((Rows.fnExactNewMemoryRow.recurses == Tryd.prog.recurses 3)) = true := by kernel_rfl
theorem f12 : ((Rows.fnExactNewMemoryRow.named == Tryd.prog.varsNamed 3)) = true := by kernel_rfl
end Go.Proofs.YtjlabdoeiphegaaDoor.fnExactNewMemory
