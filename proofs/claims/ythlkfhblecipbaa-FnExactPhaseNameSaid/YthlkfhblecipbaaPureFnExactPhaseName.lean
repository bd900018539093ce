/- Proved: PhaseName and its reference return the same words, for every 64-bit argument. No condition. -/
import Derived.Test.YthlkfhblecipbaaPFnExactPhaseNamex1
namespace Go.Proofs.Ythlkfhblecipbaa.Pure
open Go.RowKit Go.Proofs.Ythlkfhblecipbaa.PFnExactPhaseName Go.Proofs.YthlkfhblecipbaaW.PrintWords Go.Proofs.YthlkfhblecipbaaW.PrintLast

theorem FnExactPhaseName : laws_FnExactPhaseName.Pure := by
  intro a0 _
  by_cases h : 0 ≤ a0 ∧ a0 ≤ 4
  · have hc : a0 = 0 ∨ a0 = 1 ∨ a0 = 2 ∨ a0 = 3 ∨ a0 = 4 := by omega
    rcases hc with rfl | rfl | rfl | rfl | rfl <;>
      simp [laws_FnExactPhaseName.f, spec_PhaseName.f, spec_l1In.f, impl_PhaseName.f, rdOf]
  · have h0 : a0 ≠ 0 := by omega
    have h1 : a0 ≠ 1 := by omega
    have h2 : a0 ≠ 2 := by omega
    have h3 : a0 ≠ 3 := by omega
    have h4 : a0 ≠ 4 := by omega
    have hs : spec_l1In.f a0 0 4 = some false := by
      unfold spec_l1In.f
      split
      · simp; omega
      · rfl
    simp [laws_FnExactPhaseName.f, spec_PhaseName.f, impl_PhaseName.f, hs, h0, h1, h2, h3, h4]

end Go.Proofs.Ythlkfhblecipbaa.Pure
