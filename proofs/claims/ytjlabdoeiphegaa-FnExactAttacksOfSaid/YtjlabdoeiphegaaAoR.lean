/- The row FnExactAttacksOf, for all arguments; no condition. -/
import Derived.Test.YtjlabdoeiphegaaRows
import Derived.Test.YtjlabdoeiphegaaAoP
import Derived.WalkKit
import Derived.ProofKit
import Derived.OpenShut
import Derived.ShutString
import Derived.ChangeOld
import Derived.Below
import Derived.SizedLaws
set_option linter.unusedVariables false
set_option linter.unusedSimpArgs false
namespace Go.Proofs.Ytjlabdoeiphegaa.fnExactAttacksOf
open Go.ChangeShapes Go.WideShapes Go.ChangeAt Go.RowKit Go.Proofs.Ytjlabdoeiphegaa.Ab Go.Proofs.Ytjlabdoeiphegaa.X0
open Go.ChangeMaps (open_string shut_string)
theorem own : ownKnob Try.prog.godebug = none := by kernel_rfl
theorem o3 : Opens Try.prog 3 eI okI := opens_int Try.underlying3
theorem o40 : Opens Try.prog 40 eLI okLI := opens_slice (z := zI) Try.underlying40 (by kernel_rfl) (fun _ => rfl) o3
theorem o49 : Opens Try.prog 49 eTOrder okTOrder :=
  (opens_struct (n := 3) Try.underlying49 (by kernel_rfl) (opensF_cons (w := 1) o3 rfl (by kernel_rfl) (opensF_cons (w := 1) o40 rfl (by kernel_rfl) (opensF_cons (w := 1) o3 rfl (by kernel_rfl) opensF_nil)))).map (fun x => ⟨x.1, x.2.1, x.2.2.1⟩) (fun _ h => h) (fun _ => rfl)
theorem o22 : Opens Try.prog 22 eLTOrder okLTOrder := opens_slice (z := zTOrder) Try.underlying22 (by kernel_rfl) (fun _ => rfl) o49
theorem o24 : Opens Try.prog 24 eTSheet okTSheet :=
  (opens_struct (n := 2) Try.underlying24 (by kernel_rfl) (opensF_cons (w := 1) o3 rfl (by kernel_rfl) (opensF_cons (w := 1) o22 rfl (by kernel_rfl) opensF_nil))).map (fun x => ⟨x.1, x.2.1⟩) (fun _ h => h) (fun _ => rfl)
set_option maxRecDepth 100000 in
theorem lifted (os : Os) (started : os.Started) (H : Type) (enc : TypeId × Value → H) :
    ReturnsInHanded {} Try.checked os 3 .any (Rows.fnExactAttacksOfSpec.pre6 enc Try.prog Try.f3 Rows.fnExactAttacksOfRow.domain false) (Rows.fnExactAttacksOfSpec.post enc Try.prog Try.f3 false true false false) := by
  refine returnsInHanded_of_change_sized (C := Try.checked) own started (by kernel_rfl) Try.func3
    (ChangeSpec.witness6 (enc := enc) (C := Try.checked) false ⟨#[], #[.agg #[.int .i64 0, .slice none 0 0], .agg #[.int .i64 0, .slice none 0 0]], []⟩ 8 (by kernel_rfl) (by kernel_rfl) (by kernel_rfl) (by kernel_rfl)) ?_
  intro W base args ds gs before hval0 hW hcnd hsz0 _
  have hval : ∀ (j : Nat) t v, Try.f3.params[j]? = some t → args[j]? = some v → Value.okWide Try.prog W .any base t v := hval0
  have hW' := hW
  obtain ⟨p, q, hA0, hV, rfl, hfz, hnd⟩ := hW
  have hA : DataW.TrodAll enc Try.prog W 0 (fun _ => true) true Try.f3.params.toList args.toList ds p := hA0
  have hlt := hA.lt
  rw [Try.params3] at hA hval
  obtain ⟨v0, vs0, d0, ds0, p0, q0, hargs, rfl, rfl, h0, r0⟩ := trodAll_cons hA
  obtain ⟨v1, vs1, d1, ds1, p1, q1, rfl, rfl, rfl, h1, r1⟩ := trodAll_cons r0
  obtain ⟨rfl, rfl, rfl⟩ := trodAll_nil r1
  obtain rfl : args = #[v0, v1] := by cases args; simp_all
  obtain ⟨rfl, rfl⟩ := trodVars_none hV
  obtain ⟨a0, k0, w0⟩ := o24.agg Try.underlying24 (hval 0 24 v0 rfl rfl) h0
  have hl0 : ∀ x ∈ p0, x.block < W.heap.size := fun x hx => hlt x (by simp [hx])
  obtain ⟨a1, k1, w1⟩ := o24.agg Try.underlying24 (hval 1 24 v1 rfl rfl) h1
  have hl1 : ∀ x ∈ p1, x.block < W.heap.size := fun x hx => hlt x (by simp [hx])
  have hcall := LawOk.law (gl := gl) (l_FnExactAttacksOf_T_ok a0 a1 (Go.Proofs.Ytjlabdoeiphegaa.X0.law a0 a1 k0 k1)) (W := W) (vals := [v0, v1]) (fun g cs hg => by cases hg) rfl (fun i a v ha hv => by
    match i with
    | 0 => cases ha; cases hv; exact w0
    | 1 => cases ha; cases hv; exact w1
    | i + 2 => cases ha)
  refine hcall.mono fun e W' ⟨he, bel⟩ => ?_
  subst he
  exact ⟨_, rfl, _, _, _, [], _, [], hW', trodAll_mk1 (shut_bool Try.underlying4 _), (trodAll_cons_mk (Below.trod (by kernel_rfl) (by kernel_rfl) (of_decide_eq_true (by kernel_rfl)) h0 bel hl0) (trodAll_cons_mk (Below.trod (by kernel_rfl) (by kernel_rfl) (of_decide_eq_true (by kernel_rfl)) h1 bel hl1) trodAll_mk0)), rfl, bel.frame _, fun h => by cases h⟩
theorem over : Rows.fnExactAttacksOfRow.holds Try.pinned (OpenSpec.ofChange Rows.fnExactAttacksOfSpec) :=
  OpenClaim.holds_of_wide 3 Try.f3 rfl rfl rfl rfl rfl rfl rfl ⟨rfl, rfl, rfl, rfl, rfl⟩ rfl rfl rfl rfl rfl (by kernel_rfl) Try.func3 (by kernel_rfl)
    (of_decide_eq_true (by kernel_rfl)) (by unfold Func.isWrapper; first | (rw [if_pos (by decide +kernel)]; kernel_rfl) | (rw [if_neg (by decide +kernel)]; exact ⟨rfl, rfl⟩))
    (fun os started H enc _ => lifted os started H enc)
theorem proved : Rows.FnExactAttacksOfSaid := over
end Go.Proofs.Ytjlabdoeiphegaa.fnExactAttacksOf
