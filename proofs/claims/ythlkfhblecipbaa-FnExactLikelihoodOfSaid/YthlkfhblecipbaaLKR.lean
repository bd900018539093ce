/- The row FnExactLikelihoodOf, for all arguments; no condition. -/
import Derived.Test.YthlkfhblecipbaaRows
import Derived.Test.YthlkfhblecipbaaLKP
import Derived.WalkKit
import Derived.ProofKit
import Derived.OpenShut
import Derived.ShutString
import Derived.ChangeOld
import Derived.Below
import Derived.SizedLaws
set_option linter.unusedVariables false
set_option linter.unusedSimpArgs false
namespace Go.Proofs.Ythlkfhblecipbaa.fnExactLikelihoodOf
open Go.ChangeShapes Go.WideShapes Go.ChangeAt Go.RowKit Go.Proofs.Ythlkfhblecipbaa.Ab Go.Proofs.Ythlkfhblecipbaa.X0
open Go.ChangeMaps (open_string shut_string)
theorem own : ownKnob Try.prog.godebug = none := by kernel_rfl
theorem o3 : Opens Try.prog 3 eI okI := opens_int Try.underlying3
theorem o33 : Opens Try.prog 33 eLI okLI := opens_slice (z := zI) Try.underlying33 (by kernel_rfl) (fun _ => rfl) o3
theorem o24 : Opens Try.prog 24 eLLI okLLI := opens_slice (z := zLI) Try.underlying24 (by kernel_rfl) (fun _ => rfl) o33
theorem o26 : Opens Try.prog 26 eTClimate okTClimate :=
  (opens_struct (n := 1) Try.underlying26 (by kernel_rfl) (opensF_cons (w := 1) o24 rfl (by kernel_rfl) opensF_nil)).map (fun x => ⟨x.1⟩) (fun _ h => h) (fun _ => rfl)

set_option maxRecDepth 100000 in
theorem lifted (os : Os) (started : os.Started) (H : Type) (enc : TypeId × Value → H) :
    ReturnsInHanded {} Try.checked os 6 .any (Rows.fnExactLikelihoodOfSpec.pre6 enc Try.prog Try.f6 Rows.fnExactLikelihoodOfRow.domain false) (Rows.fnExactLikelihoodOfSpec.post enc Try.prog Try.f6 false true false false) := by
  refine returnsInHanded_of_change_sized (C := Try.checked) own started (by kernel_rfl) Try.func6
    (ChangeSpec.witness6 (enc := enc) (C := Try.checked) false ⟨#[], #[.agg #[.slice none 0 0], .slice none 0 0], []⟩ 8 (by kernel_rfl) (by kernel_rfl) (by kernel_rfl) (by kernel_rfl)) ?_
  intro W base args ds gs before hval0 hW hcnd hsz0 _
  have hval : ∀ (j : Nat) t v, Try.f6.params[j]? = some t → args[j]? = some v → Value.okWide Try.prog W .any base t v := hval0
  have hW' := hW
  obtain ⟨p, q, hA0, hV, rfl, hfz, hnd⟩ := hW
  have hA : DataW.TrodAll enc Try.prog W 0 (fun _ => true) true Try.f6.params.toList args.toList ds p := hA0
  have hlt := hA.lt
  rw [Try.params6] at hA hval
  obtain ⟨v0, vs0, d0, ds0, p0, q0, hargs, rfl, rfl, h0, r0⟩ := trodAll_cons hA
  obtain ⟨v1, vs1, d1, ds1, p1, q1, rfl, rfl, rfl, h1, r1⟩ := trodAll_cons r0
  obtain ⟨rfl, rfl, rfl⟩ := trodAll_nil r1
  obtain rfl : args = #[v0, v1] := by cases args; simp_all
  obtain ⟨rfl, rfl⟩ := trodVars_none hV
  obtain ⟨a0, k0, w0⟩ := o26.agg Try.underlying26 (hval 0 26 v0 rfl rfl) h0
  have hl0 : ∀ x ∈ p0, x.block < W.heap.size := fun x hx => hlt x (by simp [hx])
  obtain ⟨a1, k1, w1⟩ := o33.cell (by obtain ⟨_, _, _, rfl⟩ := okWide_slice Try.underlying33 (hval 1 33 v1 rfl rfl); intro cs e; cases e) h1
  have hl1 : ∀ x ∈ p1, x.block < W.heap.size := fun x hx => hlt x (by simp [hx])
  have hcall := FnOk.law (gl := gl) (l_FnExactLikelihoodOf_ok a0 a1 true (Go.Proofs.Ythlkfhblecipbaa.X0.law a0 a1 k0 k1)) (W := W) (vals := [v0, v1]) (fun g cs hg => by cases hg) rfl (fun i a v ha hv => by
    match i with
    | 0 => cases ha; cases hv; exact w0
    | 1 => cases ha; cases hv; exact w1
    | i + 2 => cases ha)
  refine hcall.mono fun e W' ⟨he, bel⟩ => ?_
  subst he
  exact ⟨_, rfl, _, _, _, [], _, [], hW', trodAll_mk1 (shut_bool Try.underlying4 _), (trodAll_cons_mk (Below.trod (by kernel_rfl) (by kernel_rfl) (of_decide_eq_true (by kernel_rfl)) h0 bel hl0) (trodAll_cons_mk (Below.trod (by kernel_rfl) (by kernel_rfl) (of_decide_eq_true (by kernel_rfl)) h1 bel hl1) trodAll_mk0)), rfl, bel.frame _, fun h => by cases h⟩
theorem over : Rows.fnExactLikelihoodOfRow.holds Try.pinned (OpenSpec.ofChange Rows.fnExactLikelihoodOfSpec) :=
  OpenClaim.holds_of_wide 6 Try.f6 rfl rfl rfl rfl rfl rfl rfl ⟨rfl, rfl, rfl, rfl, rfl⟩ rfl rfl rfl rfl rfl (by kernel_rfl) Try.func6 (by kernel_rfl)
    (of_decide_eq_true (by kernel_rfl)) (by unfold Func.isWrapper; first | (rw [if_pos (by decide +kernel)]; kernel_rfl) | (rw [if_neg (by decide +kernel)]; exact ⟨rfl, rfl⟩))
    (fun os started H enc _ => lifted os started H enc)
theorem proved : Rows.FnExactLikelihoodOfSaid := over
end Go.Proofs.Ythlkfhblecipbaa.fnExactLikelihoodOf
