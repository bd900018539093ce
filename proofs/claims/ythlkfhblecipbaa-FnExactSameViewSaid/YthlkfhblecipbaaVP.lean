/- The plain law behind FnExactSameView: the program's answer is the reference's, for arguments that a machine can hold. -/
import Derived.Test.YthlkfhblecipbaaVW
import Derived.Test.YthlkfhblecipbaaAbCore2
set_option linter.unusedVariables false
set_option linter.unusedSimpArgs false
set_option maxRecDepth 100000
namespace Go.Proofs.Ythlkfhblecipbaa.X0
open Go Go.Proofs.Ythlkfhblecipbaa.Ab
abbrev okLI (x : (List Int)) : Prop := okL okI x
abbrev smLI (x : (List Int)) : Prop := smL smI x
theorem l_szIntS_sz (x : (List Int)) (h : okLI x) : SzOk X.l_szIntS smLI x := szS_ok h.1 fun y _ => trivI y
theorem l_toIntS_eq (x : (List Int)) (h : smLI x) : X.l_toIntS x = some x := (toL_eq (z := zI) (f := some) h.1 fun _ _ => rfl : _)
theorem l_eqIntS_eq (x : (List Int)) (h : smLI x) : X.l_eqIntS x x = some true := (eqL_self (z := zI) (f := fun a b => some (a == b)) h.1 fun x _ => by simp : _)
abbrev okTUnit (x : TUnit) : Prop := okI x.Side ∧ okI x.Kind ∧ okI x.At ∧ okI x.Steps ∧ True
abbrev smTUnit (x : TUnit) : Prop := smI x.Side ∧ smI x.Kind ∧ smI x.At ∧ smI x.Steps ∧ True
theorem trivTUnit (x : TUnit) : smTUnit x := ⟨trivI x.Side, trivI x.Kind, trivI x.At, trivI x.Steps, trivial⟩
theorem l_toUnit_eq (x : TUnit) (h : smTUnit x) : X.l_toUnit x = some x := by
  unfold X.l_toUnit
  rfl
theorem l_eqUnit_eq (x : TUnit) (h : smTUnit x) : X.l_eqUnit x x = some true := by
  unfold X.l_eqUnit
  simp []
abbrev okLTUnit (x : (List TUnit)) : Prop := okL okTUnit x
abbrev smLTUnit (x : (List TUnit)) : Prop := smL smTUnit x
theorem l_szUnitS_sz (x : (List TUnit)) (h : okLTUnit x) : SzOk X.l_szUnitS smLTUnit x := szS_ok h.1 fun y _ => trivTUnit y
theorem l_toUnitS_eq (x : (List TUnit)) (h : smLTUnit x) : X.l_toUnitS x = some x := toL_eq (z := zTUnit) (f := X.l_toUnit) h.1 fun y hy => l_toUnit_eq y (h.2 y hy)
theorem l_eqUnitS_eq (x : (List TUnit)) (h : smLTUnit x) : X.l_eqUnitS x x = some true := eqL_self (z := zTUnit) (f := X.l_eqUnit) h.1 fun y hy => l_eqUnit_eq y (h.2 y hy)
abbrev okTView (x : TView) : Prop := okI x.Side ∧ okI x.Turn ∧ okI x.Weather ∧ okLI x.Seen ∧ okLTUnit x.Own ∧ okLTUnit x.Enemies ∧ True
abbrev smTView (x : TView) : Prop := smI x.Side ∧ smI x.Turn ∧ smI x.Weather ∧ smLI x.Seen ∧ smLTUnit x.Own ∧ smLTUnit x.Enemies ∧ True
theorem l_szView_sz (x : TView) (h : okTView x) : SzOk X.l_szView smTView x := by
  intro n hn
  unfold X.l_szView
  refine szr_step (l_szIntS_sz x.Seen (h.2.2.2.1) n hn) hn fun r1 g1 q1 => ?_
  refine szr_step (l_szUnitS_sz x.Own (h.2.2.2.2.1) r1 g1) g1 fun r2 g2 q2 => ?_
  refine szr_step (l_szUnitS_sz x.Enemies (h.2.2.2.2.2.1) r2 g2) g2 fun r3 g3 q3 => ?_
  exact szr_last g3 ⟨trivI x.Side, trivI x.Turn, trivI x.Weather, q1, q2, q3, trivial⟩
theorem l_toView_eq (x : TView) (h : smTView x) : X.l_toView x = some x := by
  unfold X.l_toView
  simp only [l_toIntS_eq x.Seen (h.2.2.2.1), l_toUnitS_eq x.Own (h.2.2.2.2.1), l_toUnitS_eq x.Enemies (h.2.2.2.2.2.1), Option.bind_some]
theorem l_eqView_eq (x : TView) (h : smTView x) : X.l_eqView x x = some true := by
  unfold X.l_eqView
  simp [l_eqIntS_eq x.Seen (h.2.2.2.1), l_eqUnitS_eq x.Own (h.2.2.2.2.1), l_eqUnitS_eq x.Enemies (h.2.2.2.2.2.1)]
end Go.Proofs.Ythlkfhblecipbaa.X0

set_option maxRecDepth 100000
namespace Go.Proofs.Ythlkfhblecipbaa.X0
open Go Go.Proofs.Ythlkfhblecipbaa.Ab
theorem core (a0 a1 : TView) (k0 : okTView a0) (k1 : okTView a1) (q0 : smTView a0) (q1 : smTView a1) : ∃ w, X.s_SameView a0 a1 = some w ∧ X.i_SameView a0 a1 = some w := by
  have hi : ∀ xs ys : List Int, xs.length ≤ maxLen → X.s_l1Same xs ys = some _ := fun xs ys h => (eqL_eq (z := zI) (f := fun a b => some (a == b)) (p := fun a b => a == b) h (fun _ _ _ _ => rfl) : _)
  have hu : ∀ xs ys : List TUnit, xs.length ≤ maxLen → X.s_fgUnits xs ys = some _ := fun xs ys h => (eqL_eq (z := zTUnit) (f := fun v21 v23 => some ((v21.Side == v23.Side) && ((v21.Kind == v23.Kind) && ((v21.At == v23.At) && ((v21.Steps == v23.Steps) && true)))))
    (p := fun v21 v23 => ((v21.Side == v23.Side) && ((v21.Kind == v23.Kind) && ((v21.At == v23.At) && ((v21.Steps == v23.Steps) && true))))) h (fun _ _ _ _ => rfl) : _)
  have hi' : X.g_Equal_int = X.s_l1Same := rfl
  have hu' : X.g_Equal_Unit = X.s_fgUnits := rfl
  have e : X.i_SameView a0 a1 = X.s_SameView a0 a1 := by
    unfold X.i_SameView X.s_SameView X.s_fgSame
    rw [hi', hu']
    cases a0.Side == a1.Side <;> cases a0.Turn == a1.Turn <;> cases a0.Weather == a1.Weather <;> simp
  rw [e]
  simp only [and_self]
  unfold X.s_SameView X.s_fgSame
  obtain ⟨b1, h1⟩ : ∃ b, X.s_l1Same a0.Seen a1.Seen = some b := ⟨_, hi _ _ k0.2.2.2.1.1⟩
  obtain ⟨b2, h2⟩ : ∃ b, X.s_fgUnits a0.Own a1.Own = some b := ⟨_, hu _ _ k0.2.2.2.2.1.1⟩
  obtain ⟨b3, h3⟩ : ∃ b, X.s_fgUnits a0.Enemies a1.Enemies = some b := ⟨_, hu _ _ k0.2.2.2.2.2.1.1⟩
  rw [h1, h2, h3]
  cases a0.Side == a1.Side <;> cases a0.Turn == a1.Turn <;> cases a0.Weather == a1.Weather <;> cases b1 <;> cases b2 <;> simp
-- core: theorem core (a0 : TView) (a1 : TView) (k0 : okTView a0) (k1 : okTView a1) (q0 : smTView a0) (q1 : smTView a1) : ∃ w, X.s_SameView a0 a1 = some w ∧ X.i_SameView a0 a1 = some w
theorem law (a0 : TView) (a1 : TView) (k0 : okTView a0) (k1 : okTView a1) : X.l_FnExactSameView a0 a1 = some true := by
  unfold X.l_FnExactSameView
  refine law_sz (l_szView_sz a0 k0 1048576 (by unfold SM; omega)) (by unfold SM; omega) fun r1 g1 q1 => ?_
  refine law_sz (l_szView_sz a1 k1 r1 g1) g1 fun r2 g2 q2 => ?_
  obtain ⟨w, hs, hi⟩ := core a0 a1 k0 k1 q1 q2
  simp [l_toView_eq a0 q1, l_eqView_eq a0 q1, l_toView_eq a1 q2, l_eqView_eq a1 q2, hs, hi]
end Go.Proofs.Ythlkfhblecipbaa.X0
