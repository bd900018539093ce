/- The plain law behind FnExactCanFollow: the program's answer is the reference's, for arguments that a machine can hold. -/
import Derived.Test.YthlkfhblecipbaaCFW
import Derived.Test.YthlkfhblecipbaaAbCore2
set_option linter.unusedVariables false
set_option linter.unusedSimpArgs false
set_option maxRecDepth 100000
namespace Go.Proofs.Ythlkfhblecipbaa.X0
open Go Go.Proofs.Ythlkfhblecipbaa.Ab
abbrev okLI (x : (List Int)) : Prop := okL okI x
abbrev smLI (x : (List Int)) : Prop := smL smI x
theorem l_szIntS_sz (x : (List Int)) (h : okLI x) : SzOk X.l_szIntS smLI x := szS_ok h.1 fun y _ => trivI y
theorem l_toIntS_eq (x : (List Int)) (h : smLI x) : X.l_toIntS x = some x := (toL_eq (z := zI) (f := some) h.1 fun _ _ => rfl : _)
theorem l_eqIntS_eq (x : (List Int)) (h : smLI x) : X.l_eqIntS x x = some true := (eqL_self (z := zI) (f := fun a b => some (a == b)) h.1 fun x _ => by simp : _)
abbrev okLLI (x : (List (List Int))) : Prop := okL okLI x
abbrev smLLI (x : (List (List Int))) : Prop := smL smLI x
theorem l_szIntSS_sz (x : (List (List Int))) (h : okLLI x) : SzOk X.l_szIntSS smLLI x := szL_ok (z := zLI) (f := X.l_szIntS) h.1 fun y hy => l_szIntS_sz y (h.2 y hy)
theorem l_toIntSS_eq (x : (List (List Int))) (h : smLLI x) : X.l_toIntSS x = some x := toL_eq (z := zLI) (f := X.l_toIntS) h.1 fun y hy => l_toIntS_eq y (h.2 y hy)
theorem l_eqIntSS_eq (x : (List (List Int))) (h : smLLI x) : X.l_eqIntSS x x = some true := eqL_self (z := zLI) (f := X.l_eqIntS) h.1 fun y hy => l_eqIntS_eq y (h.2 y hy)
abbrev okTClimate (x : TClimate) : Prop := okLLI x.Weights ∧ True
abbrev smTClimate (x : TClimate) : Prop := smLLI x.Weights ∧ True
theorem l_szClimate_sz (x : TClimate) (h : okTClimate x) : SzOk X.l_szClimate smTClimate x := by
  intro n hn
  unfold X.l_szClimate
  refine szr_step (l_szIntSS_sz x.Weights (h.1) n hn) hn fun r1 g1 q1 => ?_
  exact szr_last g1 ⟨q1, trivial⟩
theorem l_toClimate_eq (x : TClimate) (h : smTClimate x) : X.l_toClimate x = some x := by
  unfold X.l_toClimate
  rw [l_toIntSS_eq x.Weights (h.1)]; rfl
theorem l_eqClimate_eq (x : TClimate) (h : smTClimate x) : X.l_eqClimate x x = some true := by
  unfold X.l_eqClimate
  simp [l_eqIntSS_eq x.Weights (h.1)]
end Go.Proofs.Ythlkfhblecipbaa.X0

set_option maxRecDepth 100000
namespace Go.Proofs.Ythlkfhblecipbaa.X0
open Go Go.Proofs.Ythlkfhblecipbaa.Ab
theorem s_l1In_eq (n lo hi : Int) : X.s_l1In n lo hi = some (decide (lo ≤ n) && decide (n ≤ hi)) := by
  unfold X.s_l1In
  by_cases h : lo ≤ n
  · simp [h]
  · simp [h]
theorem i_inRange_eq (n lo hi : Int) : X.i_inRange n lo hi = some (decide (lo ≤ n) && decide (n ≤ hi)) := by
  unfold X.i_inRange
  by_cases h : lo ≤ n
  · simp [h]
  · simp [h]

theorem s_l1All_eq (xs : List Int) (lo hi : Int) (hl : xs.length ≤ SM) : X.s_l1All xs lo hi = some (xs.all fun x => decide (lo ≤ x) && decide (x ≤ hi)) := by
  unfold SM at hl
  unfold X.s_l1All
  rw [run_all xs (fun x => decide (lo ≤ x) && decide (x ≤ hi)) (.inr false) (.inl ()) rfl ?_ ?_]
  · cases xs.all fun x => decide (lo ≤ x) && decide (x ≤ hi) <;> rfl
  · intro k hk
    have hk' : (k : Int) < xs.length := by omega
    simp only [hk', decide_true, cond_true, at_nat hk, Option.bind_some, s_l1In_eq, W_succ (show k < 4611686018427387904 by omega)]
    cases (decide (lo ≤ xs[k]) && decide (xs[k] ≤ hi)) <;> simp
  · simp

theorem three {α : Type} {xs : List α} (h : xs.length = 3) : ∃ a b c, xs = [a, b, c] := by
  match xs, h with
  | [a, b, c], _ => exact ⟨a, b, c, rfl⟩

/-- What both ask of a row. -/
def rowOk (r : List Int) : Bool := (r.length == 3) && (W (W (W (0 + r.getD 0 0) + r.getD 1 0) + r.getD 2 0) == 36) && r.all fun x => decide (0 ≤ x) && decide (x ≤ 36)

theorem i_sumOf_eq (xs : List Int) (hl : xs.length ≤ SM) : X.i_sumOf xs = some (xs.foldl (fun a x => W (a + x)) 0) := by
  unfold SM at hl
  unfold X.i_sumOf
  refine (run_each xs (fun k (a : Int) => (a, (k : Int))) (fun _ _ => True) (fun a x => .inl (W (a + x))) (fun a => a) 0 (by rfl) trivial ?_ ?_).trans (by rw [foldE_fold])
  · intro k a hk _
    have hk' : (k : Int) < xs.length := by omega
    exact ⟨by simp only [hk', decide_true, cond_true, at_nat hk, Option.bind_some, W_succ (show k < 4611686018427387904 by omega)], trivial⟩
  · intro a _; simp

theorem s_wGood_eq (c : TClimate) (h : c.Weights.length ≤ SM ∧ ∀ x ∈ c.Weights, x.length ≤ SM) (hi : ∀ x ∈ c.Weights, ∀ n ∈ x, (Lit.int .i64 n).wf = true) :
    X.s_wGood c = some ((c.Weights.length == 3) && c.Weights.all rowOk) := by
  unfold X.s_wGood
  by_cases hl : c.Weights.length = 3
  · have : ((c.Weights.length : Int) != 3) = false := by simp; omega
    rw [this]
    simp only [cond_false]
    rw [run_all c.Weights rowOk (.inr false) (.inl ()) rfl ?_ (by simp)]
    · rw [hl]; cases c.Weights.all rowOk <;> rfl
    · intro k hk
      have hk' : (k : Int) < c.Weights.length := by omega
      simp only [hk', decide_true, cond_true, at_nat hk, Option.bind_some, W_succ (show k < 4611686018427387904 by omega)]
      have hm := List.getElem_mem hk
      generalize hx : c.Weights[k] = x at hm
      have hxl := h.2 x hm
      by_cases h3 : x.length = 3
      · obtain ⟨p, q, r, rfl⟩ := three h3
        have hw : W (0 + p) = p := by
          have := hi _ hm p (by simp)
          rw [Int.zero_add]; exact W_ok this
        simp only [List.length_cons, List.length_nil]
        rw [s_l1All_eq _ _ _ hxl]
        have hw' : W p = p := by rwa [Int.zero_add] at hw
        simp only [at', rowOk]
        simp [hw']
        cases (decide (0 ≤ p) && decide (p ≤ 36) && (decide (0 ≤ q) && decide (q ≤ 36) && (decide (0 ≤ r) && decide (r ≤ 36)))) <;> try simp
        by_cases e : W (W (p + q) + r) = 36
        · rw [e]; rfl
        · have e1 : (W (W (p + q) + r) != 36) = true := bne_iff_ne.2 e
          have e2 : (W (W (p + q) + r) == 36) = false := beq_eq_false_iff_ne.2 e
          rw [e1, e2]; rfl
      · have : ((x.length : Int) != 3) = true := by simp; omega
        have h3' : (x.length == 3) = false := by simpa using h3
        simp only [this, rowOk, h3', Bool.false_and, cond_true, cond_false]
  · have : ((c.Weights.length : Int) != 3) = true := by simp; omega
    simp [this, hl]

theorem i_IsClimate_eq (c : TClimate) (h : c.Weights.length ≤ SM ∧ ∀ x ∈ c.Weights, x.length ≤ SM) :
    X.i_IsClimate c = some ((c.Weights.length == 3) && c.Weights.all rowOk) := by
  unfold X.i_IsClimate
  by_cases hl : c.Weights.length = 3
  · have : ((c.Weights.length : Int) != 3) = false := by simp; omega
    rw [this]
    simp only [cond_false]
    rw [run_all c.Weights rowOk (.inr false) (.inl ()) rfl ?_ (by simp)]
    · rw [hl]; cases c.Weights.all rowOk <;> rfl
    · intro k hk
      have hk' : (k : Int) < c.Weights.length := by omega
      simp only [hk', decide_true, cond_true, at_nat hk, Option.bind_some, W_succ (show k < 4611686018427387904 by omega)]
      have hm := List.getElem_mem hk
      generalize hx : c.Weights[k] = x at hm
      have hxl := h.2 x hm
      by_cases h3 : x.length = 3
      · obtain ⟨p, q, r, rfl⟩ := three h3
        rw [i_sumOf_eq _ hxl]
        simp only [List.foldl_cons, List.foldl_nil, Option.bind_some, rowOk]
        by_cases e : W (W (W (0 + p) + q) + r) = 36
        · have e1 : (W (W (W (0 + p) + q) + r) != 36) = false := by rw [e]; rfl
          simp only [e1, cond_false]
          have h3' : (([p, q, r].length : Int) != 3) = false := rfl
          simp only [h3', cond_false]
          rw [run_all [p, q, r] (fun x => decide (0 ≤ x) && decide (x ≤ 36)) (.inr false) (.inl ()) rfl ?_ (by simp)]
          · have e2 : (W (W (W (0 + [p, q, r].getD 0 0) + [p, q, r].getD 1 0) + [p, q, r].getD 2 0) == 36) = true := beq_iff_eq.2 e
            rw [e2]
            cases [p, q, r].all fun x => decide (0 ≤ x) && decide (x ≤ 36) <;> rfl
          · intro j hj
            have hj' : (j : Int) < ([p, q, r].length : Int) := by omega
            have hj3 : j < 3 := hj
            simp only [hj', decide_true, cond_true, at_nat hj, Option.bind_some, i_inRange_eq, W_succ (show j < 4611686018427387904 by omega)]
            cases (decide (0 ≤ [p, q, r][j]) && decide ([p, q, r][j] ≤ 36)) <;> simp
        · have e1 : (W (W (W (0 + p) + q) + r) != 36) = true := bne_iff_ne.2 e
          have e2 : (W (W (W (0 + [p, q, r].getD 0 0) + [p, q, r].getD 1 0) + [p, q, r].getD 2 0) == 36) = false := beq_eq_false_iff_ne.2 e
          have h3' : (([p, q, r].length : Int) != 3) = false := rfl
          rw [e2]
          simp only [e1, h3', cond_true, cond_false, Bool.and_false, Bool.false_and]
      · have : ((x.length : Int) != 3) = true := by simp; omega
        have h3' : (x.length == 3) = false := by simpa using h3
        simp only [this, rowOk, h3', Bool.false_and, cond_true, cond_false]
  · have : ((c.Weights.length : Int) != 3) = true := by simp; omega
    simp [this, hl]

/-- What both ask of a climate, told as one. -/
def goodC (c : TClimate) : Bool := (c.Weights.length == 3) && c.Weights.all rowOk
theorem goodC_row {c : TClimate} (h : goodC c = true) {i : Int} (hi : 0 ≤ i ∧ i < 3) : ∃ r : List Int, at' zLI c.Weights i = some r ∧ r.length = 3 ∧ ∀ x ∈ r, 0 ≤ x ∧ x ≤ 36 := by
  unfold goodC at h
  simp only [Bool.and_eq_true, beq_iff_eq, List.all_eq_true] at h
  obtain ⟨k, rfl⟩ := Int.eq_ofNat_of_zero_le hi.1
  have hk : k < c.Weights.length := by omega
  refine ⟨c.Weights[k], at_nat hk, ?_⟩
  have := h.2 _ (List.getElem_mem hk)
  unfold rowOk at this
  simp only [Bool.and_eq_true, beq_iff_eq, List.all_eq_true, decide_eq_true_eq] at this
  exact ⟨this.1.1, this.2⟩
theorem asked_eq (c : TClimate) (w : Int) (k : okTClimate c) (q : smTClimate c) : X.s_wAsked c w = some (goodC c && (decide (0 ≤ w) && decide (w ≤ 2))) ∧ X.i_isWeatherOf c w = some (goodC c && (decide (0 ≤ w) && decide (w ≤ 2))) := by
  have h : c.Weights.length ≤ SM ∧ ∀ x ∈ c.Weights, x.length ≤ SM := ⟨q.1.1, fun x hx => (q.1.2 x hx).1⟩
  constructor
  · unfold X.s_wAsked
    rw [s_wGood_eq c h (fun x hx => (k.1.2 x hx).2)]
    show ((some (goodC c)).bind _) = _
    cases goodC c <;> simp [s_l1In_eq]
  · unfold X.i_isWeatherOf
    rw [i_IsClimate_eq c h]
    show ((some (goodC c)).bind _) = _
    cases goodC c <;> simp [X.i_isWeather, i_inRange_eq]

noncomputable def stepC (c : TClimate) (out : List Int) : Option (List Int) :=
  loop (fun (x215 : (Int × (List Int) × (List Int))) => ((bif (decide (x215.1 < (out.length : Int))) then (if 0 ≤ x215.1 ∧ x215.1 < (x215.2.2.length : Int) then ((at' zLI c.Weights x215.1).bind fun v219 => ((loop (fun (x232 : (Int × (List Int) × (List Int))) => ((bif (decide (x232.1 < (v219.length : Int))) then ((at' zI v219 x232.1).bind fun v235 => (if 0 ≤ x232.1 ∧ x232.1 < (x232.2.1.length : Int) then some (Sum.inl ((W (x232.1 + 1)), (x232.2.1.set x232.1.toNat (W ((x232.2.1.getD x232.1.toNat zI) + (W ((x215.2.2.getD x215.1.toNat zI) * v235))))), x232.2.2)) else none)) else some (Sum.inr (x232.2.1, x232.2.2))) : Option ((Int × (List Int) × (List Int)) ⊕ ((List Int) × (List Int))))) (0, x215.2.1, x215.2.2)).bind fun y238 => some (Sum.inl ((W (x215.1 + 1)), y238.1, y238.2)))) else none) else some (Sum.inr x215.2.1)) : Option ((Int × (List Int) × (List Int)) ⊕ (List Int)))) (0, (List.replicate (3 : Int).toNat zI), out)

/-- A row of three, each of them at most B. -/
def upTo (B : Int) (l : List Int) : Prop := l.length = 3 ∧ ∀ j, j < 3 → 0 ≤ l.getD j 0 ∧ l.getD j 0 ≤ B

theorem row_ok {row out nx : List Int} {i : Nat} {u D C : Int} (hr : row.length = 3) (hw : ∀ x ∈ row, 0 ≤ x ∧ x ≤ 36) (ho : ∀ r, (out.getD i 0) = u → 0 ≤ r ∧ r ≤ 36 → 0 ≤ u * r ∧ u * r ≤ D)
    (hu : out.getD i 0 = u) (hC : 0 ≤ C ∧ C + D < 4611686018427387904) (hD : 0 ≤ D) (hn : upTo C nx) :
    ∃ l, loop (fun (x232 : (Int × (List Int) × (List Int))) => ((bif (decide (x232.1 < (row.length : Int))) then ((at' zI row x232.1).bind fun v235 => (if 0 ≤ x232.1 ∧ x232.1 < (x232.2.1.length : Int) then some (Sum.inl ((W (x232.1 + 1)), (x232.2.1.set x232.1.toNat (W ((x232.2.1.getD x232.1.toNat zI) + (W ((out.getD (i : Int).toNat zI) * v235))))), x232.2.2)) else none)) else some (Sum.inr (x232.2.1, x232.2.2))) : Option ((Int × (List Int) × (List Int)) ⊕ ((List Int) × (List Int))))) (0, nx, out) = some (l, out) ∧ upTo (C + D) l := by
  have key := loop_ind (body := (fun (x232 : (Int × (List Int) × (List Int))) => ((bif (decide (x232.1 < (row.length : Int))) then ((at' zI row x232.1).bind fun v235 => (if 0 ≤ x232.1 ∧ x232.1 < (x232.2.1.length : Int) then some (Sum.inl ((W (x232.1 + 1)), (x232.2.1.set x232.1.toNat (W ((x232.2.1.getD x232.1.toNat zI) + (W ((out.getD (i : Int).toNat zI) * v235))))), x232.2.2)) else none)) else some (Sum.inr (x232.2.1, x232.2.2))) : Option ((Int × (List Int) × (List Int)) ⊕ ((List Int) × (List Int))))))
    (fun s => s.2.2 = out ∧ s.2.1.length = 3 ∧ ∃ m : Nat, s.1 = m ∧ m ≤ 3 ∧ ∀ j, j < 3 → 0 ≤ s.2.1.getD j 0 ∧ s.2.1.getD j 0 ≤ (if j < m then C + D else C)) (fun s => 3 - s.1.toNat)
    (fun r => r.2 = out ∧ upTo (C + D) r.1) (s := (0, nx, out)) ?_ ⟨rfl, hn.1, 0, rfl, by omega, fun j hj => by simpa using hn.2 j hj⟩
  · obtain ⟨⟨l, o⟩, h1, h2, h3⟩ := key
    simp only at h2; subst h2
    exact ⟨l, h1, h3⟩
  · rintro ⟨m', l, o⟩ ⟨rfl, hl, m, rfl, hm, hb⟩
    simp only at hl hb
    by_cases h : m < 3
    · have h1 : (m : Int) < (row.length : Int) := by omega
      have h2 : m < row.length := by omega
      left
      simp only [h1, decide_true, cond_true, at_nat h2, Option.bind_some]
      rw [if_pos ⟨by omega, by omega⟩, W_succ (by omega)]
      refine ⟨_, rfl, ⟨rfl, by simp [hl], m + 1, rfl, by omega, fun j hj => ?_⟩, by simp only [Int.toNat_natCast]; omega⟩
      obtain ⟨w1, w2⟩ := ho row[m] hu (hw _ (List.getElem_mem h2))
      have hb0 := hb m h
      simp only [Nat.lt_irrefl, if_false] at hb0
      have e0 : (o.getD (i : Int).toNat zI) = u := by simpa [zI] using hu
      have e1 : (l.getD (m : Int).toNat zI) = l.getD m 0 := by simp [zI]
      simp only [Int.toNat_natCast] at e0 e1 ⊢
      rw [e0, e1, W_of (n := u * row[m]) (by omega), W_of (by omega)]
      by_cases e : j = m
      · subst e
        have : (l.set j (l.getD j 0 + u * row[j])).getD j 0 = l.getD j 0 + u * row[j] := by
          simp [List.getD, hl, hj]
        rw [this, if_pos (by omega)]
        omega
      · have : (l.set m (l.getD m 0 + u * row[m])).getD j 0 = l.getD j 0 := by
          simp [List.getD, List.getElem?_set, Ne.symm e]
        rw [this]
        have := hb j hj
        split <;> split at this <;> omega
    · have h1 : ¬ (m : Int) < (row.length : Int) := by omega
      right
      simp only [h1, decide_false, cond_false]
      refine ⟨_, rfl, rfl, hl, fun j hj => ?_⟩
      have := hb j hj
      rw [if_pos (by omega)] at this
      exact this

theorem stepC_ok {c : TClimate} (hc : goodC c = true) {out : List Int} {B : Int} (hB : 0 ≤ B ∧ B ≤ 20000000000) (ho : upTo B out) : ∃ nx, stepC c out = some nx ∧ upTo (108 * B) nx := by
  have ho3 : out.length = 3 := ho.1
  unfold stepC
  refine loop_ind (fun (s : Int × List Int × List Int) => s.2.2 = out ∧ ∃ m : Nat, s.1 = m ∧ m ≤ 3 ∧ upTo (m * (36 * B)) s.2.1) (fun s => 3 - s.1.toNat) (fun r => upTo (108 * B) r) ?_ ⟨rfl, 0, rfl, by omega, ?_⟩
  · rintro ⟨m', l, o⟩ ⟨ho', m, hm', hm, hl⟩
    simp only at hl ho' hm'
    subst ho' hm'
    by_cases h : m < 3
    · have h1 : (m : Int) < (o.length : Int) := by omega
      obtain ⟨row, e1, e2, e3⟩ := goodC_row hc (i := (m : Int)) ⟨by omega, by omega⟩
      left
      have hu := ho.2 m h
      have hmul : ∀ r, o.getD m 0 = o.getD m 0 → 0 ≤ r ∧ r ≤ 36 → 0 ≤ o.getD m 0 * r ∧ o.getD m 0 * r ≤ 36 * B := fun r _ hr => ⟨Int.mul_nonneg hu.1 hr.1, by rw [Int.mul_comm 36 B]; exact Int.mul_le_mul hu.2 hr.2 hr.1 hB.1⟩
      have hC : 0 ≤ (m : Int) * (36 * B) ∧ (m : Int) * (36 * B) + 36 * B < 4611686018427387904 := by
        rcases (show m = 0 ∨ m = 1 ∨ m = 2 by omega) with rfl | rfl | rfl <;> simp <;> omega
      obtain ⟨l', e4, e5⟩ := row_ok (i := m) e2 e3 hmul rfl hC (by omega) hl
      simp only [h1, decide_true, cond_true]
      rw [if_pos ⟨by omega, trivial⟩, e1, W_succ (by omega)]
      simp only [Option.bind_some, e4]
      refine ⟨_, rfl, ⟨rfl, m + 1, rfl, by omega, ?_⟩, by simp only [Int.toNat_natCast]; omega⟩
      have : ((m + 1 : Nat) : Int) * (36 * B) = (m : Int) * (36 * B) + 36 * B := by rw [Int.natCast_add, Int.add_mul]; simp
      rw [this]; exact e5
    · have h1 : ¬ (m : Int) < (o.length : Int) := by omega
      right
      simp only [h1, decide_false, cond_false]
      refine ⟨_, rfl, ?_⟩
      have : m = 3 := by omega
      subst this
      have : ((3 : Nat) : Int) * (36 * B) = 108 * B := by omega
      rw [this] at hl; exact hl
  · refine ⟨by simp, fun j hj => ?_⟩
    rcases (show j = 0 ∨ j = 1 ∨ j = 2 by omega) with rfl | rfl | rfl <;> simp [zI]

/-- k steps. -/
theorem chances_ok {c : TClimate} (hc : goodC c = true) {w : Int} (hw : 0 ≤ w ∧ w ≤ 2) (n : Nat) (hn : n ≤ 6) :
    ∃ l, X.s_wChances c w n = some l ∧ X.i_chancesAfter c w n = some l ∧ l.length = 3 ∧ ∀ j, j < 3 → 0 ≤ l.getD j 0 := by
  have hst : ∃ f : Nat → List Int, f 0 = (List.replicate (3 : Int).toNat zI).set w.toNat 1 ∧ ∀ k, k ≤ 6 → upTo (108 ^ k) (f k) ∧ (k < 6 → stepC c (f k) = some (f (k + 1))) := by
    have hex : ∀ k, k ≤ 6 → ∃ f : Nat → List Int, f 0 = (List.replicate (3 : Int).toNat zI).set w.toNat 1 ∧ (∀ j, j ≤ k → upTo (108 ^ j) (f j)) ∧ ∀ j, j < k → stepC c (f j) = some (f (j + 1)) := by
      intro k
      induction k with
      | zero =>
        intro _
        refine ⟨fun _ => (List.replicate (3 : Int).toNat zI).set w.toNat 1, rfl, fun j hj => ?_, fun j hj => by omega⟩
        have : j = 0 := by omega
        subst this
        rcases (show w = 0 ∨ w = 1 ∨ w = 2 by omega) with rfl | rfl | rfl <;> refine ⟨rfl, fun i hi => ?_⟩ <;>
          rcases (show i = 0 ∨ i = 1 ∨ i = 2 by omega) with rfl | rfl | rfl <;> decide
      | succ k ih =>
        intro hk
        obtain ⟨f, f0, f1, f2⟩ := ih (by omega)
        have hB : (0 : Int) ≤ 108 ^ k ∧ (108 : Int) ^ k ≤ 20000000000 := by
          rcases (show k = 0 ∨ k = 1 ∨ k = 2 ∨ k = 3 ∨ k = 4 ∨ k = 5 by omega) with rfl | rfl | rfl | rfl | rfl | rfl <;> decide
        obtain ⟨nx, h1, h2⟩ := stepC_ok hc hB (f1 k (Nat.le_refl _))
        refine ⟨fun j => if j ≤ k then f j else nx, by simpa using f0, fun j hj => ?_, fun j hj => ?_⟩
        · by_cases e : j ≤ k
          · simp only [if_pos e]; exact f1 j e
          · have : j = k + 1 := by omega
            subst this
            simp only [if_neg e]
            rw [Int.pow_succ, Int.mul_comm]; exact h2
        · by_cases e : j < k
          · simp only [if_pos (show j ≤ k by omega), if_pos (show j + 1 ≤ k by omega)]; exact f2 j e
          · have : j = k := by omega
            subst this
            simp only [if_pos (Nat.le_refl j), if_neg (show ¬ j + 1 ≤ j by omega)]; exact h1
    obtain ⟨f, f0, f1, f2⟩ := hex 6 (Nat.le_refl _)
    exact ⟨f, f0, fun k hk => ⟨f1 k hk, f2 k⟩⟩
  obtain ⟨f, f0, f1⟩ := hst
  have hlim : 0 ≤ (3 : Int) ∧ (3 : Int).toNat ≤ LIM := by unfold LIM; exact ⟨by decide, by decide⟩
  have hlen : 0 ≤ w ∧ w < ((List.replicate (3 : Int).toNat zI).length : Int) := by simp; omega
  refine ⟨f n, ?_, ?_, (f1 n hn).1.1, fun j hj => ((f1 n hn).1.2 j hj).1⟩
  · unfold X.s_wChances
    rw [if_pos hlim, if_pos hlen, ← f0]
    refine run_ind (fun o => o = some (f n)) (fun s => ∃ k : Nat, k ≤ n ∧ s.1 = ((n - k : Nat) : Int) ∧ s.2 = f k) (fun s => s.1.toNat) (fun r => r = f n) ⟨0, by omega, by simp, rfl⟩ ?_ (fun r h => by rw [h])
    rintro ⟨i, l⟩ ⟨k, hk, hi, hl⟩
    simp only at hi hl
    subst hi hl
    by_cases e : k < n
    · left
      have h1 : ((n - k : Nat) : Int) > 0 := by omega
      simp only [h1, decide_true, cond_true]
      rw [if_pos hlim]
      refine ⟨(((n - (k + 1) : Nat) : Int), f (k + 1)), ?_, ⟨k + 1, by omega, rfl, rfl⟩, by simp only [Int.toNat_natCast]; omega⟩
      have h2 := (f1 k (by omega)).2 (by omega)
      unfold stepC at h2
      rw [h2]
      simp only [Option.bind_some]
      rw [W_of (by omega)]
      congr 3; omega
    · right
      have h1 : ¬ ((n - k : Nat) : Int) > 0 := by omega
      simp only [h1, decide_false, cond_false]
      have : k = n := by omega
      subst this
      exact ⟨_, rfl, rfl⟩
  · unfold X.i_chancesAfter
    rw [if_pos hlim, if_pos hlen, ← f0]
    refine run_ind (fun o => o = some (f n)) (fun s => ∃ k : Nat, k ≤ n ∧ s.1 = (k : Int) ∧ s.2 = f k) (fun s => n - s.1.toNat) (fun r => r = f n) ⟨0, by omega, by simp, rfl⟩ ?_ (fun r h => by rw [h])
    rintro ⟨i, l⟩ ⟨k, hk, hi, hl⟩
    simp only at hi hl
    subst hi hl
    by_cases e : k < n
    · left
      have h1 : (k : Int) < (n : Int) := by omega
      simp only [h1, decide_true, cond_true]
      rw [if_pos hlim]
      refine ⟨(((k + 1 : Nat) : Int), f (k + 1)), ?_, ⟨k + 1, by omega, rfl, rfl⟩, by simp only [Int.toNat_natCast]; omega⟩
      have h2 := (f1 k (by omega)).2 (by omega)
      unfold stepC at h2
      rw [h2]
      simp only [Option.bind_some]
      rw [W_succ (by omega)]
    · right
      have h1 : ¬ (k : Int) < (n : Int) := by omega
      simp only [h1, decide_false, cond_false]
      have : k = n := by omega
      subst this
      exact ⟨_, rfl, rfl⟩
theorem core (a0 : TClimate) (a1 : Int) (a2 : Int) (k0 : okTClimate a0) (k1 : okI a1) (k2 : okI a2) (q0 : smTClimate a0) : ∃ w, X.s_CanFollow a0 a1 a2 = some w ∧ X.i_CanFollow a0 a1 a2 = some w := by
  obtain ⟨h1, h2⟩ := asked_eq a0 a1 k0 q0
  unfold X.s_CanFollow X.i_CanFollow
  rw [h1, h2]
  simp only [Option.bind_some, X.i_isWeather, i_inRange_eq, s_l1In_eq]
  cases hg : goodC a0 && (decide (0 ≤ a1) && decide (a1 ≤ 2)) with
  | false => exact ⟨_, rfl, rfl⟩
  | true =>
    simp only [Bool.and_eq_true, decide_eq_true_eq] at hg
    cases hx : decide (0 ≤ a2) && decide (a2 ≤ 2) with
    | false => exact ⟨_, rfl, rfl⟩
    | true =>
      simp only [Bool.and_eq_true, decide_eq_true_eq] at hx
      simp only [Bool.not_true, cond_false]
      have step : ∀ n : Nat, n ≤ 6 → ∃ v, X.s_wChances a0 a1 n = some v ∧ X.i_chancesAfter a0 a1 n = some v ∧ ∃ x, at' zI v a2 = some x := fun n hn => by
        obtain ⟨v, e1, e2, e3, _⟩ := chances_ok hg.1 hg.2 n hn
        obtain ⟨j, rfl⟩ := Int.eq_ofNat_of_zero_le hx.1
        exact ⟨v, e1, e2, _, at_nat (by omega)⟩
      have body : ∀ n : Nat, n ≤ 6 → ∃ b : Bool, ∀ f : Int → Option (Int ⊕ (Unit ⊕ (Bool × Bool))), ((X.s_wChances a0 a1 n).bind fun v31 => (at' zI v31 a2).bind fun v33 => bif decide (v33 > 0) then some (Sum.inr (Sum.inr (true, true))) else f v33) = (X.i_chancesAfter a0 a1 n).bind fun v31 => (at' zI v31 a2).bind fun v33 => bif decide (v33 > 0) then some (Sum.inr (Sum.inr (true, true))) else f v33 := fun n hn => by
        obtain ⟨v, e1, e2, x, e3⟩ := step n hn
        exact ⟨true, fun f => by rw [e1, e2]⟩
      have run : ∀ g : TClimate → Int → Int → Option (List Int), (∀ n : Nat, n ≤ 6 → g a0 a1 n = X.s_wChances a0 a1 n) →
          ∃ y : Unit ⊕ (Bool × Bool), (loop (fun (x28 : Int) => ((bif (decide (x28 ≤ 3)) then ((g a0 a1 x28).bind fun v31 => ((at' zI v31 a2).bind fun v33 => (bif (decide (v33 > 0)) then some (Sum.inr (Sum.inr (true, true))) else some (Sum.inl (W (x28 + 1)))))) else some (Sum.inr (Sum.inl ()))) : Option (Int ⊕ (Unit ⊕ (Bool × Bool))))) 1) = some y ∧
          (loop (fun (x28 : Int) => ((bif (decide (x28 ≤ 3)) then ((X.s_wChances a0 a1 x28).bind fun v31 => ((at' zI v31 a2).bind fun v33 => (bif (decide (v33 > 0)) then some (Sum.inr (Sum.inr (true, true))) else some (Sum.inl (W (x28 + 1)))))) else some (Sum.inr (Sum.inl ()))) : Option (Int ⊕ (Unit ⊕ (Bool × Bool))))) 1) = some y := fun g hgs => by
        have one : ∀ n : Nat, n ≤ 6 → ∃ b : Bool, ∀ h : TClimate → Int → Int → Option (List Int), h a0 a1 n = X.s_wChances a0 a1 n → ((bif (decide ((n : Int) ≤ 3)) then ((h a0 a1 n).bind fun v31 => ((at' zI v31 a2).bind fun v33 => (bif (decide (v33 > 0)) then some (Sum.inr (Sum.inr (true, true))) else some (Sum.inl (W ((n : Int) + 1)))))) else some (Sum.inr (Sum.inl ()))) : Option (Int ⊕ (Unit ⊕ (Bool × Bool)))) =
            bif decide ((n : Int) ≤ 3) then (bif b then some (Sum.inr (Sum.inr (true, true))) else some (Sum.inl ((n + 1 : Nat) : Int))) else some (Sum.inr (Sum.inl ())) := fun n hn => by
          obtain ⟨v, e1, _, x, e3⟩ := step n hn
          exact ⟨decide (x > 0), fun h hh => by rw [hh, e1]; simp only [Option.bind_some, e3, W_succ (show n < 4611686018427387904 by omega)]⟩
        obtain ⟨b1, o1⟩ := one 1 (by omega)
        obtain ⟨b2, o2⟩ := one 2 (by omega)
        obtain ⟨b3, o3⟩ := one 3 (by omega)
        obtain ⟨b4, o4⟩ := one 4 (by omega)
        have all : ∀ h : TClimate → Int → Int → Option (List Int), (∀ n : Nat, n ≤ 6 → h a0 a1 n = X.s_wChances a0 a1 n) → (loop (fun (x28 : Int) => ((bif (decide (x28 ≤ 3)) then ((h a0 a1 x28).bind fun v31 => ((at' zI v31 a2).bind fun v33 => (bif (decide (v33 > 0)) then some (Sum.inr (Sum.inr (true, true))) else some (Sum.inl (W (x28 + 1)))))) else some (Sum.inr (Sum.inl ()))) : Option (Int ⊕ (Unit ⊕ (Bool × Bool))))) 1) =
            some (bif b1 then Sum.inr (true, true) else bif b2 then Sum.inr (true, true) else bif b3 then Sum.inr (true, true) else Sum.inl ()) := fun h hh => by
          have t1 := o1 h (hh 1 (by omega))
          have t2 := o2 h (hh 2 (by omega))
          have t3 := o3 h (hh 3 (by omega))
          have t4 := o4 h (hh 4 (by omega))
          simp only [Int.natCast_one, Int.cast_ofNat_Int] at t1 t2 t3 t4
          rw [loop_eq]
          rw [t1]
          cases b1
          · simp only [cond_false]
            show (loop _ (2 : Int)) = _
            rw [loop_eq]
            rw [t2]
            cases b2
            · simp only [cond_false]
              show (loop _ (3 : Int)) = _
              rw [loop_eq]
              rw [t3]
              cases b3
              · simp only [cond_false]
                show (loop _ (4 : Int)) = _
                rw [loop_eq]
                rw [t4]
                rfl
              · rfl
            · rfl
          · rfl
        exact ⟨_, all g hgs, all X.s_wChances (fun n hn => rfl)⟩
      obtain ⟨y, y1, y2⟩ := run X.i_chancesAfter (fun n hn => by
        obtain ⟨v, e1, e2, _⟩ := step n hn
        rw [e1, e2])
      rw [y1, y2]
      cases y <;> exact ⟨_, rfl, rfl⟩
-- core: theorem core (a0 : TClimate) (a1 : Int) (a2 : Int) (k0 : okTClimate a0) (k1 : okI a1) (k2 : okI a2) (q0 : smTClimate a0) : ∃ w, X.s_CanFollow a0 a1 a2 = some w ∧ X.i_CanFollow a0 a1 a2 = some w
theorem law (a0 : TClimate) (a1 : Int) (a2 : Int) (k0 : okTClimate a0) (k1 : okI a1) (k2 : okI a2) : X.l_FnExactCanFollow a0 a1 a2 = some true := by
  unfold X.l_FnExactCanFollow
  refine law_sz (l_szClimate_sz a0 k0 1048576 (by unfold SM; omega)) (by unfold SM; omega) fun r1 g1 q1 => ?_
  obtain ⟨w, hs, hi⟩ := core a0 a1 a2 k0 k1 k2 q1
  simp [l_toClimate_eq a0 q1, l_eqClimate_eq a0 q1, hs, hi]
end Go.Proofs.Ythlkfhblecipbaa.X0
