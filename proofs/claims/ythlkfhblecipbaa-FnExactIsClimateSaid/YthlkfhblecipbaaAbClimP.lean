/- Proved on the own road: an abstract walk over the code, and IsClimate and its reference agree for every input. No condition. -/
import Derived.Test.YthlkfhblecipbaaAbClimW
import Derived.Test.YthlkfhblecipbaaAbCore2
set_option linter.unusedVariables false
set_option linter.unusedSimpArgs false
namespace Go.Proofs.Ythlkfhblecipbaa.X0
open Go Go.Proofs.Ythlkfhblecipbaa.Ab

theorem s_l1In_eq (n lo hi : Int) : X.s_l1In n lo hi = some (decide (lo ≤ n) && decide (n ≤ hi)) := by
  unfold X.s_l1In
  by_cases h : lo ≤ n
  · simp [h]
  · simp [h]
theorem i_inRange_eq (n lo hi : Int) : X.i_inRange n lo hi = some (decide (lo ≤ n) && decide (n ≤ hi)) := by
  unfold X.i_inRange
  by_cases h : lo ≤ n
  · simp [h]
  · simp [h]

theorem s_l1All_eq (xs : List Int) (lo hi : Int) (hl : xs.length ≤ SM) : X.s_l1All xs lo hi = some (xs.all fun x => decide (lo ≤ x) && decide (x ≤ hi)) := by
  unfold SM at hl
  unfold X.s_l1All
  rw [run_all xs (fun x => decide (lo ≤ x) && decide (x ≤ hi)) (.inr false) (.inl ()) rfl ?_ ?_]
  · cases xs.all fun x => decide (lo ≤ x) && decide (x ≤ hi) <;> rfl
  · intro k hk
    have hk' : (k : Int) < xs.length := by omega
    simp only [hk', decide_true, cond_true, at_nat hk, Option.bind_some, s_l1In_eq, W_succ (show k < 4611686018427387904 by omega)]
    cases (decide (lo ≤ xs[k]) && decide (xs[k] ≤ hi)) <;> simp
  · simp

theorem l_szIntS_sz (xs : List Int) (hx : xs.length ≤ maxLen) : SzOk X.l_szIntS (fun xs => xs.length ≤ SM) xs := by
  intro n hn
  have hm : maxLen = 9223372036854775807 := by decide
  unfold SM at hn
  unfold X.l_szIntS
  rw [W_of (by omega)]
  by_cases h : n - xs.length < 0
  · exact ⟨-1, by simp [h], .inl rfl⟩
  · exact ⟨n - xs.length, by simp only [h, decide_false, cond_false], .inr ⟨by omega, by omega, by unfold SM; omega⟩⟩
theorem l_toIntS_eq (xs : List Int) (h : xs.length ≤ SM) : X.l_toIntS xs = some xs := (toL_eq (z := zI) (f := some) h fun _ _ => rfl : _)
theorem l_eqIntS_eq (xs : List Int) (h : xs.length ≤ SM) : X.l_eqIntS xs xs = some true := (eqL_self (z := zI) (f := fun a b => some (a == b)) h fun x _ => by simp : _)
theorem l_szIntSS_sz (xs : List (List Int)) (hx : xs.length ≤ maxLen ∧ ∀ x ∈ xs, x.length ≤ maxLen) : SzOk X.l_szIntSS (fun xs => xs.length ≤ SM ∧ ∀ x ∈ xs, x.length ≤ SM) xs :=
  szL_ok (z := zLI) (f := X.l_szIntS) hx.1 fun x h => l_szIntS_sz x (hx.2 x h)
theorem l_toIntSS_eq (xs : List (List Int)) (h : xs.length ≤ SM ∧ ∀ x ∈ xs, x.length ≤ SM) : X.l_toIntSS xs = some xs := toL_eq (z := zLI) (f := X.l_toIntS) h.1 fun x hx => l_toIntS_eq x (h.2 x hx)
theorem l_eqIntSS_eq (xs : List (List Int)) (h : xs.length ≤ SM ∧ ∀ x ∈ xs, x.length ≤ SM) : X.l_eqIntSS xs xs = some true := eqL_self (z := zLI) (f := X.l_eqIntS) h.1 fun x hx => l_eqIntS_eq x (h.2 x hx)

theorem three {α : Type} {xs : List α} (h : xs.length = 3) : ∃ a b c, xs = [a, b, c] := by
  match xs, h with
  | [a, b, c], _ => exact ⟨a, b, c, rfl⟩

/-- What both ask of a row. -/
def rowOk (r : List Int) : Bool := (r.length == 3) && (W (W (W (0 + r.getD 0 0) + r.getD 1 0) + r.getD 2 0) == 36) && r.all fun x => decide (0 ≤ x) && decide (x ≤ 36)

theorem i_sumOf_eq (xs : List Int) (hl : xs.length ≤ SM) : X.i_sumOf xs = some (xs.foldl (fun a x => W (a + x)) 0) := by
  unfold SM at hl
  unfold X.i_sumOf
  refine (run_each xs (fun k (a : Int) => (a, (k : Int))) (fun _ _ => True) (fun a x => .inl (W (a + x))) (fun a => a) 0 (by rfl) trivial ?_ ?_).trans (by rw [foldE_fold])
  · intro k a hk _
    have hk' : (k : Int) < xs.length := by omega
    exact ⟨by simp only [hk', decide_true, cond_true, at_nat hk, Option.bind_some, W_succ (show k < 4611686018427387904 by omega)], trivial⟩
  · intro a _; simp

theorem s_wGood_eq (c : TClimate) (h : c.Weights.length ≤ SM ∧ ∀ x ∈ c.Weights, x.length ≤ SM) (hi : ∀ x ∈ c.Weights, ∀ n ∈ x, (Lit.int .i64 n).wf = true) :
    X.s_wGood c = some ((c.Weights.length == 3) && c.Weights.all rowOk) := by
  unfold X.s_wGood
  by_cases hl : c.Weights.length = 3
  · have : ((c.Weights.length : Int) != 3) = false := by simp; omega
    rw [this]
    simp only [cond_false]
    rw [run_all c.Weights rowOk (.inr false) (.inl ()) rfl ?_ (by simp)]
    · rw [hl]; cases c.Weights.all rowOk <;> rfl
    · intro k hk
      have hk' : (k : Int) < c.Weights.length := by omega
      simp only [hk', decide_true, cond_true, at_nat hk, Option.bind_some, W_succ (show k < 4611686018427387904 by omega)]
      have hm := List.getElem_mem hk
      generalize hx : c.Weights[k] = x at hm
      have hxl := h.2 x hm
      by_cases h3 : x.length = 3
      · obtain ⟨p, q, r, rfl⟩ := three h3
        have hw : W (0 + p) = p := by
          have := hi _ hm p (by simp)
          rw [Int.zero_add]; exact W_ok this
        simp only [List.length_cons, List.length_nil]
        rw [s_l1All_eq _ _ _ hxl]
        have hw' : W p = p := by rwa [Int.zero_add] at hw
        simp only [at', rowOk]
        simp [hw']
        cases (decide (0 ≤ p) && decide (p ≤ 36) && (decide (0 ≤ q) && decide (q ≤ 36) && (decide (0 ≤ r) && decide (r ≤ 36)))) <;> try simp
        by_cases e : W (W (p + q) + r) = 36
        · rw [e]; rfl
        · have e1 : (W (W (p + q) + r) != 36) = true := bne_iff_ne.2 e
          have e2 : (W (W (p + q) + r) == 36) = false := beq_eq_false_iff_ne.2 e
          rw [e1, e2]; rfl
      · have : ((x.length : Int) != 3) = true := by simp; omega
        have h3' : (x.length == 3) = false := by simpa using h3
        simp only [this, rowOk, h3', Bool.false_and, cond_true, cond_false]
  · have : ((c.Weights.length : Int) != 3) = true := by simp; omega
    simp [this, hl]

theorem i_IsClimate_eq (c : TClimate) (h : c.Weights.length ≤ SM ∧ ∀ x ∈ c.Weights, x.length ≤ SM) :
    X.i_IsClimate c = some ((c.Weights.length == 3) && c.Weights.all rowOk) := by
  unfold X.i_IsClimate
  by_cases hl : c.Weights.length = 3
  · have : ((c.Weights.length : Int) != 3) = false := by simp; omega
    rw [this]
    simp only [cond_false]
    rw [run_all c.Weights rowOk (.inr false) (.inl ()) rfl ?_ (by simp)]
    · rw [hl]; cases c.Weights.all rowOk <;> rfl
    · intro k hk
      have hk' : (k : Int) < c.Weights.length := by omega
      simp only [hk', decide_true, cond_true, at_nat hk, Option.bind_some, W_succ (show k < 4611686018427387904 by omega)]
      have hm := List.getElem_mem hk
      generalize hx : c.Weights[k] = x at hm
      have hxl := h.2 x hm
      by_cases h3 : x.length = 3
      · obtain ⟨p, q, r, rfl⟩ := three h3
        rw [i_sumOf_eq _ hxl]
        simp only [List.foldl_cons, List.foldl_nil, Option.bind_some, rowOk]
        by_cases e : W (W (W (0 + p) + q) + r) = 36
        · have e1 : (W (W (W (0 + p) + q) + r) != 36) = false := by rw [e]; rfl
          simp only [e1, cond_false]
          have h3' : (([p, q, r].length : Int) != 3) = false := rfl
          simp only [h3', cond_false]
          rw [run_all [p, q, r] (fun x => decide (0 ≤ x) && decide (x ≤ 36)) (.inr false) (.inl ()) rfl ?_ (by simp)]
          · have e2 : (W (W (W (0 + [p, q, r].getD 0 0) + [p, q, r].getD 1 0) + [p, q, r].getD 2 0) == 36) = true := beq_iff_eq.2 e
            rw [e2]
            cases [p, q, r].all fun x => decide (0 ≤ x) && decide (x ≤ 36) <;> rfl
          · intro j hj
            have hj' : (j : Int) < ([p, q, r].length : Int) := by omega
            have hj3 : j < 3 := hj
            simp only [hj', decide_true, cond_true, at_nat hj, Option.bind_some, i_inRange_eq, W_succ (show j < 4611686018427387904 by omega)]
            cases (decide (0 ≤ [p, q, r][j]) && decide ([p, q, r][j] ≤ 36)) <;> simp
        · have e1 : (W (W (W (0 + p) + q) + r) != 36) = true := bne_iff_ne.2 e
          have e2 : (W (W (W (0 + [p, q, r].getD 0 0) + [p, q, r].getD 1 0) + [p, q, r].getD 2 0) == 36) = false := beq_eq_false_iff_ne.2 e
          have h3' : (([p, q, r].length : Int) != 3) = false := rfl
          rw [e2]
          simp only [e1, h3', cond_true, cond_false, Bool.and_false, Bool.false_and]
      · have : ((x.length : Int) != 3) = true := by simp; omega
        have h3' : (x.length == 3) = false := by simpa using h3
        simp only [this, rowOk, h3', Bool.false_and, cond_true, cond_false]
  · have : ((c.Weights.length : Int) != 3) = true := by simp; omega
    simp [this, hl]

def okC (c : TClimate) : Prop := c.Weights.length ≤ maxLen ∧ ∀ x ∈ c.Weights, x.length ≤ maxLen ∧ ∀ n ∈ x, (Lit.int .i64 n).wf = true

theorem law (c : TClimate) (hc : okC c) : X.l_FnExactIsClimate c = some true := by
  unfold X.l_FnExactIsClimate
  obtain ⟨r, h1, h2⟩ := l_szIntSS_sz c.Weights ⟨hc.1, fun x hx => (hc.2 x hx).1⟩ 1048576 ⟨by omega, by unfold SM; omega⟩
  have hz : X.l_szClimate c 1048576 = some r := by
    unfold X.l_szClimate
    rw [h1]
    rcases h2 with rfl | ⟨h2, _, _⟩
    · rfl
    · have : ¬ r < 0 := by omega
      simp [this]
  rw [hz]
  simp only [Option.bind_some]
  rcases h2 with rfl | ⟨h2, h3, h4⟩
  · rfl
  · have hr : ¬ r < 0 := by omega
    have ht : X.l_toClimate c = some c := by unfold X.l_toClimate; rw [l_toIntSS_eq _ h4]; rfl
    have he : X.l_eqClimate c c = some true := by unfold X.l_eqClimate; rw [l_eqIntSS_eq _ h4]; rfl
    have hs : X.s_IsClimate c = some ((c.Weights.length == 3) && c.Weights.all rowOk) := by
      unfold X.s_IsClimate; rw [s_wGood_eq c h4 (fun x hx => (hc.2 x hx).2)]; rfl
    simp [hr, ht, he, hs, i_IsClimate_eq c h4]
end Go.Proofs.Ythlkfhblecipbaa.X0
