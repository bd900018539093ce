/- Proved: WeatherName and its reference return the same words, for every 64-bit argument. No condition. -/
import Derived.Test.YthlkfhblecipbaaPFnExactWeatherNamex1
namespace Go.Proofs.Ythlkfhblecipbaa.Pure
open Go.RowKit Go.Proofs.Ythlkfhblecipbaa.PFnExactWeatherName Go.Proofs.YthlkfhblecipbaaW.PrintWords Go.Proofs.YthlkfhblecipbaaW.PrintLast

theorem FnExactWeatherName : laws_FnExactWeatherName.Pure := by
  intro a0 _
  by_cases h : 0 ≤ a0 ∧ a0 ≤ 2
  · have hc : a0 = 0 ∨ a0 = 1 ∨ a0 = 2 := by omega
    rcases hc with rfl | rfl | rfl <;>
      simp [laws_FnExactWeatherName.f, spec_WeatherName.f, spec_wName.f, spec_l1In.f, impl_WeatherName.f, rdOf]
  · have h0 : a0 ≠ 0 := by omega
    have h1 : a0 ≠ 1 := by omega
    have h2 : a0 ≠ 2 := by omega
    have hs : spec_l1In.f a0 0 2 = some false := by
      unfold spec_l1In.f
      split
      · simp; omega
      · rfl
    simp [laws_FnExactWeatherName.f, spec_WeatherName.f, spec_wName.f, impl_WeatherName.f, hs, h0, h1, h2]

end Go.Proofs.Ythlkfhblecipbaa.Pure
