/- The law FnExactNewMemory returns true whatever the input, in the row's own form; no condition. -/
import Derived.Test.YtjlabdoeiphegaaDoorCards
import Derived.Test.YtjlabdoeiphegaaDoorTie
import Derived.SevenTiedAt
import Derived.LaidMore
import Derived.Stop.Joined
import Derived.ChangeVars
import Derived.Test.YtjlabdoeiphegaaDoorAmCore3
import Derived.Test.YtjlabdoeiphegaaDoorNmP
import Derived.WalkKit
import Derived.ProofKit
import Derived.OpenShut
import Derived.ShutString
import Derived.ChangeOld
import Derived.Below
import Derived.SizedLaws
set_option linter.unusedVariables false
set_option linter.unusedSimpArgs false
namespace Go.Proofs.YtjlabdoeiphegaaDoor.fnExactNewMemory
open Go.ChangeShapes Go.WideShapes Go.ChangeAt Go.RowKit Go.Proofs.YtjlabdoeiphegaaDoor.Ab Go.Proofs.YtjlabdoeiphegaaDoor.X0
open Go.ChangeMaps (open_string shut_string)
theorem own : ownKnob Tryd.prog.godebug = none := by kernel_rfl
theorem o9 : Opens Tryd.prog 9 eS okS := opens_str Tryd.underlying9
theorem o3 : Opens Tryd.prog 3 eI okI := opens_int Tryd.underlying3
theorem o26 : Opens Tryd.prog 26 eLI okLI := opens_slice (z := zI) Tryd.underlying26 (by kernel_rfl) (fun _ => rfl) o3
theorem o4 : Opens Tryd.prog 4 eB okB := opens_bool Tryd.underlying4
theorem o83 : Opens Tryd.prog 83 eTTerrain okTTerrain :=
  (opens_struct (n := 5) Tryd.underlying83 (by kernel_rfl) (opensF_cons (w := 1) o9 rfl (by kernel_rfl) (opensF_cons (w := 1) o26 rfl (by kernel_rfl) (opensF_cons (w := 1) o3 rfl (by kernel_rfl) (opensF_cons (w := 1) o3 rfl (by kernel_rfl) (opensF_cons (w := 1) o4 rfl (by kernel_rfl) opensF_nil)))))).map (fun x => ⟨x.1, x.2.1, x.2.2.1, x.2.2.2.1, x.2.2.2.2.1⟩) (fun _ h => h) (fun _ => rfl)
theorem o22 : Opens Tryd.prog 22 eLTTerrain okLTTerrain := opens_slice (z := zTTerrain) Tryd.underlying22 (by kernel_rfl) (fun _ => rfl) o83
theorem o86 : Opens Tryd.prog 86 eTKind okTKind :=
  (opens_struct (n := 6) Tryd.underlying86 (by kernel_rfl) (opensF_cons (w := 1) o9 rfl (by kernel_rfl) (opensF_cons (w := 1) o3 rfl (by kernel_rfl) (opensF_cons (w := 1) o3 rfl (by kernel_rfl) (opensF_cons (w := 1) o3 rfl (by kernel_rfl) (opensF_cons (w := 1) o4 rfl (by kernel_rfl) (opensF_cons (w := 1) o3 rfl (by kernel_rfl) opensF_nil))))))).map (fun x => ⟨x.1, x.2.1, x.2.2.1, x.2.2.2.1, x.2.2.2.2.1, x.2.2.2.2.2.1⟩) (fun _ h => h) (fun _ => rfl)
theorem o23 : Opens Tryd.prog 23 eLTKind okLTKind := opens_slice (z := zTKind) Tryd.underlying23 (by kernel_rfl) (fun _ => rfl) o86
theorem o25 : Opens Tryd.prog 25 eTRules okTRules :=
  (opens_struct (n := 7) Tryd.underlying25 (by kernel_rfl) (opensF_cons (w := 1) o22 rfl (by kernel_rfl) (opensF_cons (w := 1) o23 rfl (by kernel_rfl) (opensF_cons (w := 1) o3 rfl (by kernel_rfl) (opensF_cons (w := 1) o3 rfl (by kernel_rfl) (opensF_cons (w := 1) o3 rfl (by kernel_rfl) (opensF_cons (w := 1) o3 rfl (by kernel_rfl) (opensF_cons (w := 1) o3 rfl (by kernel_rfl) opensF_nil)))))))).map (fun x => ⟨x.1, x.2.1, x.2.2.1, x.2.2.2.1, x.2.2.2.2.1, x.2.2.2.2.2.1, x.2.2.2.2.2.2.1⟩) (fun _ h => h) (fun _ => rfl)
theorem o28 : Opens Tryd.prog 28 eTMap okTMap :=
  (opens_struct (n := 5) Tryd.underlying28 (by kernel_rfl) (opensF_cons (w := 1) o3 rfl (by kernel_rfl) (opensF_cons (w := 1) o3 rfl (by kernel_rfl) (opensF_cons (w := 1) o26 rfl (by kernel_rfl) (opensF_cons (w := 1) o26 rfl (by kernel_rfl) (opensF_cons (w := 1) o26 rfl (by kernel_rfl) opensF_nil)))))).map (fun x => ⟨x.1, x.2.1, x.2.2.1, x.2.2.2.1, x.2.2.2.2.1⟩) (fun _ h => h) (fun _ => rfl)
theorem o30 : Opens Tryd.prog 30 eTBoard okTBoard :=
  (opens_struct (n := 12) Tryd.underlying30 (by kernel_rfl) (opensF_cons (w := 7) o25 rfl (by kernel_rfl) (opensF_cons (w := 5) o28 rfl (by kernel_rfl) opensF_nil))).map (fun x => ⟨x.1, x.2.1⟩) (fun _ h => h) (fun _ => rfl)
theorem of_laid {W : World} (h : laidMetH Tryd.prog Rows.fnExactNewMemoryRow.laid W) : DR (Old W) W (.pd (dirs.flatMap eTHex) 0) (.pointer (some ⟨0, 0, none⟩)) := by
  rw [MakeChecks.laidMetH_plain _ _ _ (by kernel_rfl)] at h
  exact laid_pairs (qs := [(1, 0), (1, -1), (0, -1), (-1, 0), (-1, 1), (0, 1)]) (m := 6) (e := 119) (ti := 3) h rfl (by kernel_rfl) (by kernel_rfl) Tryd.underlying123 (by kernel_rfl) (by kernel_rfl) Tryd.underlying119 rfl ⟨rfl, rfl⟩ ⟨rfl, rfl⟩ Tryd.underlying3 (by kernel_rfl)
theorem door_met (os : Os) (args : Array Value) : laidMetH Tryd.prog Rows.fnExactNewMemoryRow.laid ((World.doorLaid Tryd.prog 20 os).forCall (fun _ _ => 0) ⟨#[], args, []⟩).memory :=
  laidMetH_of_parts3 (fuel := 8) (laidMet_of_run' 8 (by kernel_rfl) (by kernel_rfl)) (by kernel_rfl) (by kernel_rfl)
theorem laidOut : laidOutB Tryd.prog = true := by kernel_rfl
set_option maxRecDepth 100000 in
theorem lifted (os : Os) (started : os.Started) (H : Type) (enc : TypeId × Value → H) :
    ReturnsInHanded {} Tryd.checked os 3 .any (fun w args => (Rows.fnExactNewMemorySpec.pre enc Tryd.prog Tryd.f3 Rows.fnExactNewMemoryRow.domain false w args ∧ laidMetH Tryd.prog Rows.fnExactNewMemoryRow.laid w) ∧ sizedMet enc Tryd.prog Tryd.f3 (OpenSpec.ofChange Rows.fnExactNewMemorySpec) false w args) (Rows.fnExactNewMemorySpec.post enc Tryd.prog Tryd.f3 false true false false) := by
  refine returnsInHanded_of_change_and (C := Tryd.checked) (X := fun w _ => laidMetH Tryd.prog Rows.fnExactNewMemoryRow.laid w) (fun _ _ _ hh h => h.of_heap hh) own started (by kernel_rfl) Tryd.func3
    (ChangeSpec.witness_shaped (enc := enc) (C := Tryd.checked) (os := os) (X := fun w _ => laidMetH Tryd.prog Rows.fnExactNewMemoryRow.laid w) false (World.doorLaid Tryd.prog 20 os) #[.agg #[.slice none 0 0, .slice none 0 0, .int .i64 0, .int .i64 0, .int .i64 0, .int .i64 0, .int .i64 0, .int .i64 0, .int .i64 0, .slice none 0 0, .slice none 0 0, .slice none 0 0]] 8 rfl (World.shaped_of_RefB (by kernel_rfl) (by kernel_rfl)) (by kernel_rfl) (by kernel_rfl) (by kernel_rfl) (door_met os _)) ?_
  intro W base args ds gs before hval0 hW _ _ hL _
  have hval : ∀ (j : Nat) t v, Tryd.f3.params[j]? = some t → args[j]? = some v → Value.okWide Tryd.prog W .any base t v := hval0
  have hW' := hW
  obtain ⟨p, q, hA0, hV, rfl, hfz, hnd⟩ := hW
  have hA : DataW.TrodAll enc Tryd.prog W 0 (fun _ => true) true Tryd.f3.params.toList args.toList ds p := hA0
  have hlt := hA.lt
  rw [Tryd.params3] at hA hval
  obtain ⟨v0, vs0, d0, ds0, p0, q0, hargs, rfl, rfl, h0, r0⟩ := trodAll_cons hA
  obtain ⟨rfl, rfl, rfl⟩ := trodAll_nil r0
  obtain rfl : args = #[v0] := by cases args; simp_all
  have hV2 := hV
  obtain ⟨_, _, _, _, _, _, rfl, _⟩ := trodVars_one hV2
  obtain ⟨a0, k0, w0⟩ := o30.agg Tryd.underlying30 (hval 0 30 v0 rfl rfl) h0
  have hl0 : ∀ x ∈ p0, x.block < W.heap.size := fun x hx => hlt x (by simp [hx])
  have hcall := LawOk.law (gl := gl) (l_FnExactNewMemory_T_ok a0 (Go.Proofs.YtjlabdoeiphegaaDoor.X0.law a0 k0)) (W := W) (vals := [v0]) (fun g cs hg => by
    unfold gl at hg
    split at hg
    · cases hg; exact of_laid hL
    · cases hg) rfl (fun i a v ha hv => by
    match i with
    | 0 => cases ha; cases hv; exact w0
    | i + 1 => cases ha)
  refine hcall.mono fun e W' ⟨he, bel⟩ => ?_
  subst he
  exact ⟨_, rfl, _, _, _, [], _, _, hW', trodAll_mk1 (shut_bool Tryd.underlying4 _), (trodAll_cons_mk (Below.trod (by kernel_rfl) (by kernel_rfl) (of_decide_eq_true (by kernel_rfl)) h0 bel hl0) trodAll_mk0), Below.trodVars laidOut bel (by kernel_rfl) hV, bel.frame _, fun h => by cases h⟩
end Go.Proofs.YtjlabdoeiphegaaDoor.fnExactNewMemory
