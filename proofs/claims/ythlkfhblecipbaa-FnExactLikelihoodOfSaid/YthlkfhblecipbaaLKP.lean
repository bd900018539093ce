/- The plain law behind FnExactLikelihoodOf: the program's answer is the reference's, for arguments that a machine can hold. -/
import Derived.Test.YthlkfhblecipbaaLKW
import Derived.Test.YthlkfhblecipbaaAbCore2
set_option linter.unusedVariables false
set_option linter.unusedSimpArgs false
set_option maxRecDepth 100000
namespace Go.Proofs.Ythlkfhblecipbaa.X0
open Go Go.Proofs.Ythlkfhblecipbaa.Ab
abbrev okLI (x : (List Int)) : Prop := okL okI x
abbrev smLI (x : (List Int)) : Prop := smL smI x
theorem l_szIntS_sz (x : (List Int)) (h : okLI x) : SzOk X.l_szIntS smLI x := szS_ok h.1 fun y _ => trivI y
theorem l_toIntS_eq (x : (List Int)) (h : smLI x) : X.l_toIntS x = some x := (toL_eq (z := zI) (f := some) h.1 fun _ _ => rfl : _)
theorem l_eqIntS_eq (x : (List Int)) (h : smLI x) : X.l_eqIntS x x = some true := (eqL_self (z := zI) (f := fun a b => some (a == b)) h.1 fun x _ => by simp : _)
abbrev okLLI (x : (List (List Int))) : Prop := okL okLI x
abbrev smLLI (x : (List (List Int))) : Prop := smL smLI x
theorem l_szIntSS_sz (x : (List (List Int))) (h : okLLI x) : SzOk X.l_szIntSS smLLI x := szL_ok (z := zLI) (f := X.l_szIntS) h.1 fun y hy => l_szIntS_sz y (h.2 y hy)
theorem l_toIntSS_eq (x : (List (List Int))) (h : smLLI x) : X.l_toIntSS x = some x := toL_eq (z := zLI) (f := X.l_toIntS) h.1 fun y hy => l_toIntS_eq y (h.2 y hy)
theorem l_eqIntSS_eq (x : (List (List Int))) (h : smLLI x) : X.l_eqIntSS x x = some true := eqL_self (z := zLI) (f := X.l_eqIntS) h.1 fun y hy => l_eqIntS_eq y (h.2 y hy)
abbrev okTClimate (x : TClimate) : Prop := okLLI x.Weights ∧ True
abbrev smTClimate (x : TClimate) : Prop := smLLI x.Weights ∧ True
theorem l_szClimate_sz (x : TClimate) (h : okTClimate x) : SzOk X.l_szClimate smTClimate x := by
  intro n hn
  unfold X.l_szClimate
  refine szr_step (l_szIntSS_sz x.Weights (h.1) n hn) hn fun r1 g1 q1 => ?_
  exact szr_last g1 ⟨q1, trivial⟩
theorem l_toClimate_eq (x : TClimate) (h : smTClimate x) : X.l_toClimate x = some x := by
  unfold X.l_toClimate
  rw [l_toIntSS_eq x.Weights (h.1)]; rfl
theorem l_eqClimate_eq (x : TClimate) (h : smTClimate x) : X.l_eqClimate x x = some true := by
  unfold X.l_eqClimate
  simp [l_eqIntSS_eq x.Weights (h.1)]
end Go.Proofs.Ythlkfhblecipbaa.X0

set_option maxRecDepth 100000
namespace Go.Proofs.Ythlkfhblecipbaa.X0
open Go Go.Proofs.Ythlkfhblecipbaa.Ab
theorem s_l1In_eq (n lo hi : Int) : X.s_l1In n lo hi = some (decide (lo ≤ n) && decide (n ≤ hi)) := by
  unfold X.s_l1In
  by_cases h : lo ≤ n
  · simp [h]
  · simp [h]
theorem i_inRange_eq (n lo hi : Int) : X.i_inRange n lo hi = some (decide (lo ≤ n) && decide (n ≤ hi)) := by
  unfold X.i_inRange
  by_cases h : lo ≤ n
  · simp [h]
  · simp [h]

theorem s_l1All_eq (xs : List Int) (lo hi : Int) (hl : xs.length ≤ SM) : X.s_l1All xs lo hi = some (xs.all fun x => decide (lo ≤ x) && decide (x ≤ hi)) := by
  unfold SM at hl
  unfold X.s_l1All
  rw [run_all xs (fun x => decide (lo ≤ x) && decide (x ≤ hi)) (.inr false) (.inl ()) rfl ?_ ?_]
  · cases xs.all fun x => decide (lo ≤ x) && decide (x ≤ hi) <;> rfl
  · intro k hk
    have hk' : (k : Int) < xs.length := by omega
    simp only [hk', decide_true, cond_true, at_nat hk, Option.bind_some, s_l1In_eq, W_succ (show k < 4611686018427387904 by omega)]
    cases (decide (lo ≤ xs[k]) && decide (xs[k] ≤ hi)) <;> simp
  · simp

theorem three {α : Type} {xs : List α} (h : xs.length = 3) : ∃ a b c, xs = [a, b, c] := by
  match xs, h with
  | [a, b, c], _ => exact ⟨a, b, c, rfl⟩

/-- What both ask of a row. -/
def rowOk (r : List Int) : Bool := (r.length == 3) && (W (W (W (0 + r.getD 0 0) + r.getD 1 0) + r.getD 2 0) == 36) && r.all fun x => decide (0 ≤ x) && decide (x ≤ 36)

theorem i_sumOf_eq (xs : List Int) (hl : xs.length ≤ SM) : X.i_sumOf xs = some (xs.foldl (fun a x => W (a + x)) 0) := by
  unfold SM at hl
  unfold X.i_sumOf
  refine (run_each xs (fun k (a : Int) => (a, (k : Int))) (fun _ _ => True) (fun a x => .inl (W (a + x))) (fun a => a) 0 (by rfl) trivial ?_ ?_).trans (by rw [foldE_fold])
  · intro k a hk _
    have hk' : (k : Int) < xs.length := by omega
    exact ⟨by simp only [hk', decide_true, cond_true, at_nat hk, Option.bind_some, W_succ (show k < 4611686018427387904 by omega)], trivial⟩
  · intro a _; simp

theorem s_wGood_eq (c : TClimate) (h : c.Weights.length ≤ SM ∧ ∀ x ∈ c.Weights, x.length ≤ SM) (hi : ∀ x ∈ c.Weights, ∀ n ∈ x, (Lit.int .i64 n).wf = true) :
    X.s_wGood c = some ((c.Weights.length == 3) && c.Weights.all rowOk) := by
  unfold X.s_wGood
  by_cases hl : c.Weights.length = 3
  · have : ((c.Weights.length : Int) != 3) = false := by simp; omega
    rw [this]
    simp only [cond_false]
    rw [run_all c.Weights rowOk (.inr false) (.inl ()) rfl ?_ (by simp)]
    · rw [hl]; cases c.Weights.all rowOk <;> rfl
    · intro k hk
      have hk' : (k : Int) < c.Weights.length := by omega
      simp only [hk', decide_true, cond_true, at_nat hk, Option.bind_some, W_succ (show k < 4611686018427387904 by omega)]
      have hm := List.getElem_mem hk
      generalize hx : c.Weights[k] = x at hm
      have hxl := h.2 x hm
      by_cases h3 : x.length = 3
      · obtain ⟨p, q, r, rfl⟩ := three h3
        have hw : W (0 + p) = p := by
          have := hi _ hm p (by simp)
          rw [Int.zero_add]; exact W_ok this
        simp only [List.length_cons, List.length_nil]
        rw [s_l1All_eq _ _ _ hxl]
        have hw' : W p = p := by rwa [Int.zero_add] at hw
        simp only [at', rowOk]
        simp [hw']
        cases (decide (0 ≤ p) && decide (p ≤ 36) && (decide (0 ≤ q) && decide (q ≤ 36) && (decide (0 ≤ r) && decide (r ≤ 36)))) <;> try simp
        by_cases e : W (W (p + q) + r) = 36
        · rw [e]; rfl
        · have e1 : (W (W (p + q) + r) != 36) = true := bne_iff_ne.2 e
          have e2 : (W (W (p + q) + r) == 36) = false := beq_eq_false_iff_ne.2 e
          rw [e1, e2]; rfl
      · have : ((x.length : Int) != 3) = true := by simp; omega
        have h3' : (x.length == 3) = false := by simpa using h3
        simp only [this, rowOk, h3', Bool.false_and, cond_true, cond_false]
  · have : ((c.Weights.length : Int) != 3) = true := by simp; omega
    simp [this, hl]

theorem i_IsClimate_eq (c : TClimate) (h : c.Weights.length ≤ SM ∧ ∀ x ∈ c.Weights, x.length ≤ SM) :
    X.i_IsClimate c = some ((c.Weights.length == 3) && c.Weights.all rowOk) := by
  unfold X.i_IsClimate
  by_cases hl : c.Weights.length = 3
  · have : ((c.Weights.length : Int) != 3) = false := by simp; omega
    rw [this]
    simp only [cond_false]
    rw [run_all c.Weights rowOk (.inr false) (.inl ()) rfl ?_ (by simp)]
    · rw [hl]; cases c.Weights.all rowOk <;> rfl
    · intro k hk
      have hk' : (k : Int) < c.Weights.length := by omega
      simp only [hk', decide_true, cond_true, at_nat hk, Option.bind_some, W_succ (show k < 4611686018427387904 by omega)]
      have hm := List.getElem_mem hk
      generalize hx : c.Weights[k] = x at hm
      have hxl := h.2 x hm
      by_cases h3 : x.length = 3
      · obtain ⟨p, q, r, rfl⟩ := three h3
        rw [i_sumOf_eq _ hxl]
        simp only [List.foldl_cons, List.foldl_nil, Option.bind_some, rowOk]
        by_cases e : W (W (W (0 + p) + q) + r) = 36
        · have e1 : (W (W (W (0 + p) + q) + r) != 36) = false := by rw [e]; rfl
          simp only [e1, cond_false]
          have h3' : (([p, q, r].length : Int) != 3) = false := rfl
          simp only [h3', cond_false]
          rw [run_all [p, q, r] (fun x => decide (0 ≤ x) && decide (x ≤ 36)) (.inr false) (.inl ()) rfl ?_ (by simp)]
          · have e2 : (W (W (W (0 + [p, q, r].getD 0 0) + [p, q, r].getD 1 0) + [p, q, r].getD 2 0) == 36) = true := beq_iff_eq.2 e
            rw [e2]
            cases [p, q, r].all fun x => decide (0 ≤ x) && decide (x ≤ 36) <;> rfl
          · intro j hj
            have hj' : (j : Int) < ([p, q, r].length : Int) := by omega
            have hj3 : j < 3 := hj
            simp only [hj', decide_true, cond_true, at_nat hj, Option.bind_some, i_inRange_eq, W_succ (show j < 4611686018427387904 by omega)]
            cases (decide (0 ≤ [p, q, r][j]) && decide ([p, q, r][j] ≤ 36)) <;> simp
        · have e1 : (W (W (W (0 + p) + q) + r) != 36) = true := bne_iff_ne.2 e
          have e2 : (W (W (W (0 + [p, q, r].getD 0 0) + [p, q, r].getD 1 0) + [p, q, r].getD 2 0) == 36) = false := beq_eq_false_iff_ne.2 e
          have h3' : (([p, q, r].length : Int) != 3) = false := rfl
          rw [e2]
          simp only [e1, h3', cond_true, cond_false, Bool.and_false, Bool.false_and]
      · have : ((x.length : Int) != 3) = true := by simp; omega
        have h3' : (x.length == 3) = false := by simpa using h3
        simp only [this, rowOk, h3', Bool.false_and, cond_true, cond_false]
  · have : ((c.Weights.length : Int) != 3) = true := by simp; omega
    simp [this, hl]

/-- What both ask of a climate, told as one. -/
def goodC (c : TClimate) : Bool := (c.Weights.length == 3) && c.Weights.all rowOk
theorem goodC_row {c : TClimate} (h : goodC c = true) {i : Int} (hi : 0 ≤ i ∧ i < 3) : ∃ r : List Int, at' zLI c.Weights i = some r ∧ r.length = 3 ∧ ∀ x ∈ r, 0 ≤ x ∧ x ≤ 36 := by
  unfold goodC at h
  simp only [Bool.and_eq_true, beq_iff_eq, List.all_eq_true] at h
  obtain ⟨k, rfl⟩ := Int.eq_ofNat_of_zero_le hi.1
  have hk : k < c.Weights.length := by omega
  refine ⟨c.Weights[k], at_nat hk, ?_⟩
  have := h.2 _ (List.getElem_mem hk)
  unfold rowOk at this
  simp only [Bool.and_eq_true, beq_iff_eq, List.all_eq_true, decide_eq_true_eq] at this
  exact ⟨this.1.1, this.2⟩
theorem core (a0 : TClimate) (a1 : List Int) (k0 : okTClimate a0) (k1 : okLI a1) (q0 : smTClimate a0) (q1 : smLI a1) : ∃ w, X.s_LikelihoodOf a0 a1 = some w ∧ X.i_LikelihoodOf a0 a1 = some w := by
  have h : a0.Weights.length ≤ SM ∧ ∀ x ∈ a0.Weights, x.length ≤ SM := ⟨q0.1.1, fun x hx => (q0.1.2 x hx).1⟩
  have hm : maxLen = 9223372036854775807 := by decide
  unfold X.s_LikelihoodOf X.i_LikelihoodOf
  rw [s_wGood_eq a0 h (fun x hx => (k0.1.2 x hx).2), i_IsClimate_eq a0 h]
  show ∃ w, ((some (goodC a0)).bind _) = _ ∧ ((some (goodC a0)).bind _) = _
  simp only [Option.bind_some, i_inRange_eq, s_l1In_eq]
  cases hg : goodC a0 with
  | false => exact ⟨_, rfl, rfl⟩
  | true =>
    simp only [Bool.not_true, cond_false]
    cases hx : decide (1 ≤ (a1.length : Int)) && decide ((a1.length : Int) ≤ 7) with
    | false => exact ⟨_, rfl, rfl⟩
    | true =>
      simp only [Bool.and_eq_true, decide_eq_true_eq] at hx
      have hc : X.g_ContainsFunc_int a1 (fun q0 => X.i_LikelihoodOf_1 q0) = some (a1.any fun x => !(decide (0 ≤ x) && decide (x ≤ 2))) :=
        (hasF_eq (z := zI) (f := fun q0 => X.i_LikelihoodOf_1 q0) (p := fun x => !(decide (0 ≤ x) && decide (x ≤ 2))) k1.1 (fun x _ => by unfold X.i_LikelihoodOf_1 X.i_isWeather; rw [i_inRange_eq]; rfl) : _)
      rw [hc, s_l1All_eq _ _ _ q1.1]
      have hn : (a1.any fun x => !(decide (0 ≤ x) && decide (x ≤ 2))) = !(a1.all fun x => decide (0 ≤ x) && decide (x ≤ 2)) := by
        rw [List.not_all_eq_any_not]
      rw [hn]
      simp only [Bool.not_true, cond_false, Option.bind_some]
      cases ha : (a1.all fun x => decide (0 ≤ x) && decide (x ≤ 2)) with
      | false => exact ⟨_, rfl, rfl⟩
      | true =>
        simp only [Bool.not_true, cond_false, Bool.not_false]
        have hr : ∀ k, (hk : k < a1.length) → 0 ≤ a1[k] ∧ a1[k] < 3 := fun k hk => by
          have := List.all_eq_true.1 ha _ (List.getElem_mem hk)
          simp only [Bool.and_eq_true, decide_eq_true_eq] at this
          omega
        have hw : ∃ v, X.s_wLikelihood a0 a1 = some v := by
          unfold X.s_wLikelihood
          refine run_ind (fun o => ∃ v, o = some v) (fun s => ∃ k : Nat, s.2 = (k : Int) ∧ 1 ≤ k ∧ k ≤ a1.length) (fun s => a1.length - s.2.toNat) (fun _ => True) ⟨1, rfl, by omega, by omega⟩ ?_ (fun r _ => ⟨r, rfl⟩)
          rintro ⟨a, i⟩ ⟨k, hk, h1, h2⟩
          simp only at hk
          subst hk
          by_cases e : k < a1.length
          · left
            have e1 : (k : Int) < (a1.length : Int) := by omega
            have e2 : W ((k : Int) - 1) = ((k - 1 : Nat) : Int) := by rw [W_of (by omega)]; omega
            have e3 : k - 1 < a1.length := by omega
            obtain ⟨row, g1, g2, g3⟩ := goodC_row hg (hr (k - 1) e3)
            obtain ⟨j, hj⟩ := Int.eq_ofNat_of_zero_le (hr k e).1
            have hj3 : j < row.length := by have := (hr k e).2; omega
            simp only [e1, decide_true, cond_true, e2, at_nat e3, at_nat e, Option.bind_some, g1, hj, at_nat hj3, W_succ (show k < 4611686018427387904 by omega)]
            exact ⟨_, rfl, ⟨k + 1, rfl, by omega, by omega⟩, by simp only [Int.toNat_natCast]; omega⟩
          · right
            have e1 : ¬ (k : Int) < (a1.length : Int) := by omega
            simp only [e1, decide_false, cond_false]
            exact ⟨_, rfl, trivial⟩
        obtain ⟨v, hv⟩ := hw
        have hi : X.i_likelihood a0 a1 = some v := hv
        rw [hv, hi]
        exact ⟨_, rfl, rfl⟩
-- core: theorem core (a0 : TClimate) (a1 : (List Int)) (k0 : okTClimate a0) (k1 : okLI a1) (q0 : smTClimate a0) (q1 : smLI a1) : ∃ w, X.s_LikelihoodOf a0 a1 = some w ∧ X.i_LikelihoodOf a0 a1 = some w
theorem law (a0 : TClimate) (a1 : (List Int)) (k0 : okTClimate a0) (k1 : okLI a1) : X.l_FnExactLikelihoodOf a0 a1 = some true := by
  unfold X.l_FnExactLikelihoodOf
  refine law_len fun q1 => ?_
  refine law_sz (l_szClimate_sz a0 k0 1048576 (by unfold SM; omega)) (by unfold SM; omega) fun r2 g2 q2 => ?_
  obtain ⟨w, hs, hi⟩ := core a0 a1 k0 k1 q2 ⟨q1, fun _ _ => trivial⟩
  simp [l_toClimate_eq a0 q2, l_eqClimate_eq a0 q2, l_toIntS_eq a1 ⟨q1, fun _ _ => trivial⟩, l_eqIntS_eq a1 ⟨q1, fun _ _ => trivial⟩, hs, hi]
end Go.Proofs.Ythlkfhblecipbaa.X0
