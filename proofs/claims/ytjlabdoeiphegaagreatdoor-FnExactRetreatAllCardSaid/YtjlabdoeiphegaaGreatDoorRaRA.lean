/- The law FnExactRetreatAll returns true whatever the input, in the row's own form; no condition. -/
import Derived.Test.YtjlabdoeiphegaaGreatDoorCards
import Derived.Test.YtjlabdoeiphegaaGreatDoorTie
import Derived.SevenTiedAt
import Derived.LaidMore
import Derived.Stop.Joined
import Derived.ChangeVars
import Derived.Test.YtjlabdoeiphegaaGreatDoorAmCore3
import Derived.Test.YtjlabdoeiphegaaGreatDoorRaP
import Derived.WalkKit
import Derived.ProofKit
import Derived.OpenShut
import Derived.ShutString
import Derived.ChangeOld
import Derived.Below
import Derived.SizedLaws
set_option linter.unusedVariables false
set_option linter.unusedSimpArgs false
namespace Go.Proofs.YtjlabdoeiphegaaGreatDoor.fnExactRetreatAll
open Go.ChangeShapes Go.WideShapes Go.ChangeAt Go.RowKit Go.Proofs.YtjlabdoeiphegaaGreatDoor.Ab Go.Proofs.YtjlabdoeiphegaaGreatDoor.X0
open Go.ChangeMaps (open_string shut_string)
theorem own : ownKnob Tryz.prog.godebug = none := by kernel_rfl
theorem o9 : Opens Tryz.prog 9 eS okS := opens_str Tryz.underlying9
theorem o3 : Opens Tryz.prog 3 eI okI := opens_int Tryz.underlying3
theorem o26 : Opens Tryz.prog 26 eLI okLI := opens_slice (z := zI) Tryz.underlying26 (by kernel_rfl) (fun _ => rfl) o3
theorem o4 : Opens Tryz.prog 4 eB okB := opens_bool Tryz.underlying4
theorem o157 : Opens Tryz.prog 157 eTTerrain okTTerrain :=
  (opens_struct (n := 5) Tryz.underlying157 (by kernel_rfl) (opensF_cons (w := 1) o9 rfl (by kernel_rfl) (opensF_cons (w := 1) o26 rfl (by kernel_rfl) (opensF_cons (w := 1) o3 rfl (by kernel_rfl) (opensF_cons (w := 1) o3 rfl (by kernel_rfl) (opensF_cons (w := 1) o4 rfl (by kernel_rfl) opensF_nil)))))).map (fun x => ⟨x.1, x.2.1, x.2.2.1, x.2.2.2.1, x.2.2.2.2.1⟩) (fun _ h => h) (fun _ => rfl)
theorem o22 : Opens Tryz.prog 22 eLTTerrain okLTTerrain := opens_slice (z := zTTerrain) Tryz.underlying22 (by kernel_rfl) (fun _ => rfl) o157
theorem o159 : Opens Tryz.prog 159 eTKind okTKind :=
  (opens_struct (n := 6) Tryz.underlying159 (by kernel_rfl) (opensF_cons (w := 1) o9 rfl (by kernel_rfl) (opensF_cons (w := 1) o3 rfl (by kernel_rfl) (opensF_cons (w := 1) o3 rfl (by kernel_rfl) (opensF_cons (w := 1) o3 rfl (by kernel_rfl) (opensF_cons (w := 1) o4 rfl (by kernel_rfl) (opensF_cons (w := 1) o3 rfl (by kernel_rfl) opensF_nil))))))).map (fun x => ⟨x.1, x.2.1, x.2.2.1, x.2.2.2.1, x.2.2.2.2.1, x.2.2.2.2.2.1⟩) (fun _ h => h) (fun _ => rfl)
theorem o23 : Opens Tryz.prog 23 eLTKind okLTKind := opens_slice (z := zTKind) Tryz.underlying23 (by kernel_rfl) (fun _ => rfl) o159
theorem o25 : Opens Tryz.prog 25 eTRules okTRules :=
  (opens_struct (n := 7) Tryz.underlying25 (by kernel_rfl) (opensF_cons (w := 1) o22 rfl (by kernel_rfl) (opensF_cons (w := 1) o23 rfl (by kernel_rfl) (opensF_cons (w := 1) o3 rfl (by kernel_rfl) (opensF_cons (w := 1) o3 rfl (by kernel_rfl) (opensF_cons (w := 1) o3 rfl (by kernel_rfl) (opensF_cons (w := 1) o3 rfl (by kernel_rfl) (opensF_cons (w := 1) o3 rfl (by kernel_rfl) opensF_nil)))))))).map (fun x => ⟨x.1, x.2.1, x.2.2.1, x.2.2.2.1, x.2.2.2.2.1, x.2.2.2.2.2.1, x.2.2.2.2.2.2.1⟩) (fun _ h => h) (fun _ => rfl)
theorem o28 : Opens Tryz.prog 28 eTMap okTMap :=
  (opens_struct (n := 5) Tryz.underlying28 (by kernel_rfl) (opensF_cons (w := 1) o3 rfl (by kernel_rfl) (opensF_cons (w := 1) o3 rfl (by kernel_rfl) (opensF_cons (w := 1) o26 rfl (by kernel_rfl) (opensF_cons (w := 1) o26 rfl (by kernel_rfl) (opensF_cons (w := 1) o26 rfl (by kernel_rfl) opensF_nil)))))).map (fun x => ⟨x.1, x.2.1, x.2.2.1, x.2.2.2.1, x.2.2.2.2.1⟩) (fun _ h => h) (fun _ => rfl)
theorem o30 : Opens Tryz.prog 30 eTBoard okTBoard :=
  (opens_struct (n := 12) Tryz.underlying30 (by kernel_rfl) (opensF_cons (w := 7) o25 rfl (by kernel_rfl) (opensF_cons (w := 5) o28 rfl (by kernel_rfl) opensF_nil))).map (fun x => ⟨x.1, x.2.1⟩) (fun _ h => h) (fun _ => rfl)
theorem o148 : Opens Tryz.prog 148 eTUnit okTUnit :=
  (opens_struct (n := 4) Tryz.underlying148 (by kernel_rfl) (opensF_cons (w := 1) o3 rfl (by kernel_rfl) (opensF_cons (w := 1) o3 rfl (by kernel_rfl) (opensF_cons (w := 1) o3 rfl (by kernel_rfl) (opensF_cons (w := 1) o3 rfl (by kernel_rfl) opensF_nil))))).map (fun x => ⟨x.1, x.2.1, x.2.2.1, x.2.2.2.1⟩) (fun _ h => h) (fun _ => rfl)
theorem o50 : Opens Tryz.prog 50 eLTUnit okLTUnit := opens_slice (z := zTUnit) Tryz.underlying50 (by kernel_rfl) (fun _ => rfl) o148
theorem o52 : Opens Tryz.prog 52 eTState okTState :=
  (opens_struct (n := 3) Tryz.underlying52 (by kernel_rfl) (opensF_cons (w := 1) o3 rfl (by kernel_rfl) (opensF_cons (w := 1) o3 rfl (by kernel_rfl) (opensF_cons (w := 1) o50 rfl (by kernel_rfl) opensF_nil)))).map (fun x => ⟨x.1, x.2.1, x.2.2.1⟩) (fun _ h => h) (fun _ => rfl)
theorem of_laid {W : World} (h : laidMetH Tryz.prog Rows.fnExactRetreatAllRow.laid W) : DR (Old W) W (.pd (dirs.flatMap eTHex) 0) (.pointer (some ⟨6, 0, none⟩)) := by
  rw [MakeChecks.laidMetH_plain _ _ _ (by kernel_rfl)] at h
  exact laid_pairs (qs := [(1, 0), (1, -1), (0, -1), (-1, 0), (-1, 1), (0, 1)]) (m := 6) (e := 226) (ti := 3) h rfl (by kernel_rfl) (by kernel_rfl) Tryz.underlying259 (by kernel_rfl) (by kernel_rfl) Tryz.underlying226 rfl ⟨rfl, rfl⟩ ⟨rfl, rfl⟩ Tryz.underlying3 (by kernel_rfl)
theorem door_met (os : Os) (args : Array Value) : laidMetH Tryz.prog Rows.fnExactRetreatAllRow.laid ((World.doorLaid Tryz.prog 83 os).forCall (fun _ _ => 0) ⟨#[], args, []⟩).memory :=
  laidMetH_of_parts3 (fuel := 8) (laidMet_of_run' 8 (by kernel_rfl) (by kernel_rfl)) (by kernel_rfl) (by kernel_rfl)
theorem laidOut : laidOutB Tryz.prog = true := by kernel_rfl
set_option maxRecDepth 100000 in
theorem lifted (os : Os) (started : os.Started) (H : Type) (enc : TypeId × Value → H) :
    ReturnsInHanded {} Tryz.checked os 4 .any (fun w args => (Rows.fnExactRetreatAllSpec.pre enc Tryz.prog Tryz.f4 Rows.fnExactRetreatAllRow.domain false w args ∧ laidMetH Tryz.prog Rows.fnExactRetreatAllRow.laid w) ∧ sizedMet enc Tryz.prog Tryz.f4 (OpenSpec.ofChange Rows.fnExactRetreatAllSpec) false w args) (Rows.fnExactRetreatAllSpec.post enc Tryz.prog Tryz.f4 false true false false) := by
  refine returnsInHanded_of_change_and (C := Tryz.checked) (X := fun w _ => laidMetH Tryz.prog Rows.fnExactRetreatAllRow.laid w) (fun _ _ _ hh h => h.of_heap hh) own started (by kernel_rfl) Tryz.func4
    (ChangeSpec.witness_shaped (enc := enc) (C := Tryz.checked) (os := os) (X := fun w _ => laidMetH Tryz.prog Rows.fnExactRetreatAllRow.laid w) false (World.doorLaid Tryz.prog 83 os) #[.agg #[.slice none 0 0, .slice none 0 0, .int .i64 0, .int .i64 0, .int .i64 0, .int .i64 0, .int .i64 0, .int .i64 0, .int .i64 0, .slice none 0 0, .slice none 0 0, .slice none 0 0], .agg #[.int .i64 0, .int .i64 0, .slice none 0 0], .slice none 0 0, .int .i64 0] 8 rfl (World.shaped_of_RefB (by kernel_rfl) (by kernel_rfl)) (by kernel_rfl) (by kernel_rfl) (by kernel_rfl) (door_met os _)) ?_
  intro W base args ds gs before hval0 hW _ _ hL _
  have hval : ∀ (j : Nat) t v, Tryz.f4.params[j]? = some t → args[j]? = some v → Value.okWide Tryz.prog W .any base t v := hval0
  have hW' := hW
  obtain ⟨p, q, hA0, hV, rfl, hfz, hnd⟩ := hW
  have hA : DataW.TrodAll enc Tryz.prog W 0 (fun _ => true) true Tryz.f4.params.toList args.toList ds p := hA0
  have hlt := hA.lt
  rw [Tryz.params4] at hA hval
  obtain ⟨v0, vs0, d0, ds0, p0, q0, hargs, rfl, rfl, h0, r0⟩ := trodAll_cons hA
  obtain ⟨v1, vs1, d1, ds1, p1, q1, rfl, rfl, rfl, h1, r1⟩ := trodAll_cons r0
  obtain ⟨v2, vs2, d2, ds2, p2, q2, rfl, rfl, rfl, h2, r2⟩ := trodAll_cons r1
  obtain ⟨v3, vs3, d3, ds3, p3, q3, rfl, rfl, rfl, h3, r3⟩ := trodAll_cons r2
  obtain ⟨rfl, rfl, rfl⟩ := trodAll_nil r3
  obtain rfl : args = #[v0, v1, v2, v3] := by cases args; simp_all
  have hV2 := hV
  obtain ⟨_, _, _, _, _, _, rfl, _⟩ := trodVars_one hV2
  obtain ⟨a0, k0, w0⟩ := o30.agg Tryz.underlying30 (hval 0 30 v0 rfl rfl) h0
  have hl0 : ∀ x ∈ p0, x.block < W.heap.size := fun x hx => hlt x (by simp [hx])
  obtain ⟨a1, k1, w1⟩ := o52.agg Tryz.underlying52 (hval 1 52 v1 rfl rfl) h1
  have hl1 : ∀ x ∈ p1, x.block < W.heap.size := fun x hx => hlt x (by simp [hx])
  obtain ⟨a2, k2, w2⟩ := o26.cell (by obtain ⟨_, _, _, rfl⟩ := okWide_slice Tryz.underlying26 (hval 2 26 v2 rfl rfl); intro cs e; cases e) h2
  have hl2 : ∀ x ∈ p2, x.block < W.heap.size := fun x hx => hlt x (by simp [hx])
  obtain ⟨a3, rfl, rfl, rfl, k3⟩ := open_int Tryz.underlying3 (hval 3 3 v3 rfl rfl) h3
  have w3 : VR (DR (Old W) W) (.c (.int .i64 a3)) (.int .i64 a3) := DR.int _ _
  have hcall := LawOk.law (gl := gl) (l_FnExactRetreatAll_T_ok a0 a1 a2 a3 (Go.Proofs.YtjlabdoeiphegaaGreatDoor.X0.law a0 a1 a2 a3 k0 k1 k2 k3)) (W := W) (vals := [v0, v1, v2, .int .i64 a3]) (fun g cs hg => by
    unfold gl at hg
    split at hg
    · cases hg; exact of_laid hL
    · cases hg) rfl (fun i a v ha hv => by
    match i with
    | 0 => cases ha; cases hv; exact w0
    | 1 => cases ha; cases hv; exact w1
    | 2 => cases ha; cases hv; exact w2
    | 3 => cases ha; cases hv; exact w3
    | i + 4 => cases ha)
  refine hcall.mono fun e W' ⟨he, bel⟩ => ?_
  subst he
  exact ⟨_, rfl, _, _, _, [], _, _, hW', trodAll_mk1 (shut_bool Tryz.underlying4 _), (trodAll_cons_mk (Below.trod (by kernel_rfl) (by kernel_rfl) (of_decide_eq_true (by kernel_rfl)) h0 bel hl0) (trodAll_cons_mk (Below.trod (by kernel_rfl) (by kernel_rfl) (of_decide_eq_true (by kernel_rfl)) h1 bel hl1) (trodAll_cons_mk (Below.trod (by kernel_rfl) (by kernel_rfl) (of_decide_eq_true (by kernel_rfl)) h2 bel hl2) (trodAll_cons_mk (shut_int Tryz.underlying3 k3) trodAll_mk0)))), Below.trodVars laidOut bel (by kernel_rfl) hV, bel.frame _, fun h => by cases h⟩
end Go.Proofs.YtjlabdoeiphegaaGreatDoor.fnExactRetreatAll
