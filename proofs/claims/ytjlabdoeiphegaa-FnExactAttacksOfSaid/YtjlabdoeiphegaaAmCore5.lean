/- A library function, told; no condition. -/
import Derived.Test.YtjlabdoeiphegaaAmCore3
import Derived.Shelf.Spec.SlicesGrow
set_option linter.unusedVariables false
set_option linter.unusedSimpArgs false
namespace Go.Proofs.Ytjlabdoeiphegaa.Ab
open Go Go.RowKit
variable {P : Program}
theorem grow_kit {gl : Nat → Option (List AC)} {ρ : Go.Shelf.Ren} (L : Go.Proofs.Lays8.n4 P ρ) {f : FuncId} {wd : Nat} {zc : List AC} (hf : ρ.f 4 = f) (hwd : P.cellsOf (ρ.t 25) = wd) (hz : zeroC P (ρ.t 25) = some zc) (hzl : zc.length = wd) (hw : 0 < wd)
  (hby : P.bytesOf (ρ.t 25) ≤ 1024) (hc : callable P f = true) (F : Nat → List AC) {n : Int} (hn : 0 ≤ n ∧ n.toNat ≤ LIM) :
  FnMu P gl f [.c .nil, .c (.int .i64 n)] [] (.c (.own 900000 wd 0 0)) [(900000, .arr wd 0 F false)] := by
 subst hf
 refine grow_fn hc hw hby (fun w => Go.Proofs.Any8.slices_Grow_room L none 0 0 0 w (Nat.le_refl _) (by decide) (by decide) (Nat.le_refl _)) (fun m w h1 h2 h3 => ?_) F hn
 obtain ⟨zv, hr, hcs, ti, hi, hiz⟩ := run_zero (Pr := Old w) (w := w) hz
 have hcell : ti.size = wd := by rw [← hwd]; simp [Program.cellsOf, hi]
 have hbytes : ti.bytes = P.bytesOf (ρ.t 25) := by simp [Program.bytesOf, hi]
 have hvs : zv.cells.size = wd := by rw [← Array.length_toList, hcs.1, hzl]
 refine (Go.Proofs.Any8.slices_Grow_grow L ti zv hi hiz (by omega) none 0 0 m [] w (Nat.le_refl _) (by omega) (by rw [hbytes, Nat.zero_add]; exact h2) (by omega) (by simp) (fun _ => rfl) (fun a h => by cases h)).mono ?_
 rintro e w' ⟨h4, h5⟩
 rw [Nat.zero_add] at h4 h5
 have hge := grownCap_ge w m 0 (ρ.t 25)
 have hcm := grownCap_le_maxLen w m 0 (ρ.t 25) (by unfold maxLen; omega)
 refine ⟨_, _, _, h4, h5, ?_⟩
 have hsz : (([] : List Value).toArray ++ Builtin.zeroCells zv.cells (m - 0) ++ Builtin.zeroCells zv.cells (grownCap w m 0 (ρ.t 25) - m)).size = grownCap w m 0 (ρ.t 25) * wd := by
  simp only [Array.size_append, size_zeroCells, hvs, ← Nat.add_mul, List.size_toArray, List.length_nil, Nat.zero_add]; congr 1; omega
 rw [hsz]
 exact ⟨Nat.le_refl _, Nat.mul_le_mul_right _ hcm⟩
end Go.Proofs.Ytjlabdoeiphegaa.Ab
