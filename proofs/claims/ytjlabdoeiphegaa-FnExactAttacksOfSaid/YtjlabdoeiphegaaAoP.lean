/- The plain law behind FnExactAttacksOf, for arguments that a machine can hold. -/
import Derived.Test.YtjlabdoeiphegaaAoW
import Derived.Test.YtjlabdoeiphegaaAmCore3
set_option linter.unusedVariables false
set_option linter.unusedSimpArgs false
set_option maxRecDepth 100000
namespace Go.Proofs.Ytjlabdoeiphegaa.X0
open Go Go.Proofs.Ytjlabdoeiphegaa.Ab
theorem obs {α β : Type} (a : α) (f : α → Option β) : (some a).bind f = f a := rfl
abbrev okLI (x : (List Int)) : Prop := okL okI x
abbrev smLI (x : (List Int)) : Prop := smL smI x
theorem l_szIntS_sz (x : (List Int)) (h : okLI x) : SzOk X.l_szIntS smLI x := szS_ok h.1 fun y _ => trivI y
theorem l_toIntS_eq (x : (List Int)) (h : smLI x) : X.l_toIntS x = some x := (toL_eq (z := zI) (f := some) h.1 fun _ _ => rfl : _)
theorem l_eqIntS_eq (x : (List Int)) (h : smLI x) : X.l_eqIntS x x = some true := (eqL_self (z := zI) (f := fun a b => some (a == b)) h.1 fun x _ => by simp : _)
abbrev okTOrder (x : TOrder) : Prop := okI x.Unit ∧ okLI x.Path ∧ okI x.Attack ∧ True
abbrev smTOrder (x : TOrder) : Prop := smI x.Unit ∧ smLI x.Path ∧ smI x.Attack ∧ True
theorem l_szOrder_sz (x : TOrder) (h : okTOrder x) : SzOk X.l_szOrder smTOrder x := by
 intro n hn
 unfold X.l_szOrder
 refine szr_step (l_szIntS_sz x.Path (h.2.1) n hn) hn fun r1 g1 q1 => ?_
 exact szr_last g1 ⟨trivI x.Unit, q1, trivI x.Attack, trivial⟩
theorem l_toOrder_eq (x : TOrder) (h : smTOrder x) : X.l_toOrder x = some x := by
 unfold X.l_toOrder
 rw [l_toIntS_eq x.Path (h.2.1)]; rfl
theorem l_eqOrder_eq (x : TOrder) (h : smTOrder x) : X.l_eqOrder x x = some true := by
 unfold X.l_eqOrder
 simp [l_eqIntS_eq x.Path (h.2.1)]
abbrev okLTOrder (x : (List TOrder)) : Prop := okL okTOrder x
abbrev smLTOrder (x : (List TOrder)) : Prop := smL smTOrder x
theorem l_toOrderS_eq (x : (List TOrder)) (h : smLTOrder x) : X.l_toOrderS x = some x := toL_eq (z := zTOrder) (f := X.l_toOrder) h.1 fun y hy => l_toOrder_eq y (h.2 y hy)
theorem l_eqOrderS_eq (x : (List TOrder)) (h : smLTOrder x) : X.l_eqOrderS x x = some true := eqL_self (z := zTOrder) (f := X.l_eqOrder) h.1 fun y hy => l_eqOrder_eq y (h.2 y hy)
abbrev okTSheet (x : TSheet) : Prop := okI x.Side ∧ okLTOrder x.Orders ∧ True
abbrev smTSheet (x : TSheet) : Prop := smI x.Side ∧ smLTOrder x.Orders ∧ True
theorem l_toSheet_eq (x : TSheet) (h : smTSheet x) : X.l_toSheet x = some x := by
 unfold X.l_toSheet
 rw [l_toOrderS_eq x.Orders (h.2.1)]; rfl
theorem l_eqSheet_eq (x : TSheet) (h : smTSheet x) : X.l_eqSheet x x = some true := by
 unfold X.l_eqSheet
 simp [l_eqOrderS_eq x.Orders (h.2.1)]
abbrev smTAttack (x : TAttack) : Prop := smI x.Unit ∧ smI x.At ∧ True
theorem trivTAttack (x : TAttack) : smTAttack x := ⟨trivI x.Unit, trivI x.At, trivial⟩
theorem l_eqAttack_eq (x : TAttack) (h : smTAttack x) : X.l_eqAttack x x = some true := by
 unfold X.l_eqAttack
 simp []
abbrev smLTAttack (x : (List TAttack)) : Prop := smL smTAttack x
theorem l_eqAttackS_eq (x : (List TAttack)) (h : smLTAttack x) : X.l_eqAttackS x x = some true := eqL_self (z := zTAttack) (f := X.l_eqAttack) h.1 fun y hy => l_eqAttack_eq y (h.2 y hy)
end Go.Proofs.Ytjlabdoeiphegaa.X0

set_option maxRecDepth 100000
namespace Go.Proofs.Ytjlabdoeiphegaa.X0
open Go Go.Proofs.Ytjlabdoeiphegaa.Ab
theorem Wp {z : Int} (h : 0 ≤ z) (k : z ≤ 4611686018427387904) : W (z + 1) = z + 1 := W_of (by omega)
theorem mark_loop {β : Type} {f : Int → Option β} (n b : Nat) {body : Int × Int → Option ((Int × Int) ⊕ Int)} (hn : n ≤ SM) (hb : b ≤ 2097152)
  (hstep : ∀ (i : Nat) (q : Int), i < n → 0 ≤ q → q ≤ 2305843009213693000 → ∃ q' : Int, body (q, (i : Int)) = some (.inl (q', ((i + 1 : Nat) : Int))) ∧ q ≤ q' ∧ q' ≤ q + b)
  (hend : ∀ q, body (q, (n : Int)) = some (.inr q)) (k : Int) (h0 : 0 ≤ k) (hk : k ≤ 1152921504606846976) : ∃ k' : Int, (loop body (k, 0)).bind f = f k' ∧ k ≤ k' ∧ k' ≤ k + 2199023255552 := by
 unfold SM at hn
 have hbb : n * b ≤ 1048576 * 2097152 := Nat.mul_le_mul hn hb
 have key := loop_ind (body := body) (fun x : Int × Int => ∃ i : Nat, x.2 = (i : Int) ∧ i ≤ n ∧ k ≤ x.1 ∧ x.1 ≤ k + ((i * b : Nat) : Int)) (fun x => n - x.2.toNat) (fun r => k ≤ r ∧ r ≤ k + ((n * b : Nat) : Int)) (s := (k, 0)) ?_ ⟨0, rfl, by omega, Int.le_refl _, by simp⟩
 ·obtain ⟨r, h1, h2, h3⟩ := key
  exact ⟨r, by rw [h1]; rfl, h2, by omega⟩
 ·rintro ⟨q, x⟩ ⟨i, rfl, hi, h1, h2⟩
  have hib : i * b ≤ n * b := Nat.mul_le_mul_right b hi
  simp only at h1 h2
  by_cases h : i < n
  ·obtain ⟨q', e, g1, g2⟩ := hstep i q h (by omega) (by omega)
   have e2 : (i + 1) * b = i * b + b := Nat.succ_mul i b
   exact .inl ⟨_, e, ⟨i + 1, rfl, by omega, by simp only; omega, by simp only; omega⟩, by simp only; omega⟩
  ·have : i = n := by omega
   subst this
   exact .inr ⟨_, hend q, h1, h2⟩
def Mk (f : Int → Option Int) : Prop := ∀ k : Int, 0 ≤ k → k ≤ 1152921504606846976 → ∃ k' : Int, f k = some k' ∧ k ≤ k' ∧ k' ≤ k + 2199023255552
theorem mkInt_L {xs : List Int} (h : xs.length ≤ SM) (k : Int) (h0 : 0 ≤ k) (hk : k ≤ 2305843009213693952) : X.l_markIntS_L xs k = some (k + xs.length) := by
 unfold SM at h
 unfold X.l_markIntS_L
 have key := loop_ind (body := (fun (x10 : (Int × Int)) => ((bif (decide (x10.2 < (xs.length : Int))) then ((at' zI xs x10.2).bind fun v13 => some (Sum.inl ((W (x10.1 + 1)), (W (x10.2 + 1))))) else some (Sum.inr x10.1)) : Option ((Int × Int) ⊕ Int))))
  (fun x : Int × Int => ∃ i : Nat, x.2 = (i : Int) ∧ i ≤ xs.length ∧ x.1 = k + i) (fun x => xs.length - x.2.toNat) (fun r => r = k + xs.length) (s := (k, 0)) ?_ ⟨0, rfl, by omega, by simp⟩
 ·obtain ⟨r, h1, h2⟩ := key
  rw [h1, h2]; rfl
 ·rintro ⟨q, x⟩ ⟨i, rfl, hi, e⟩
  simp only at e
  subst e
  by_cases h : i < xs.length
  ·refine .inl ⟨(k + ((i + 1 : Nat) : Int), ((i + 1 : Nat) : Int)), ?_, ⟨i + 1, rfl, by omega, rfl⟩, by simp only; omega⟩
   simp only [lt_cast h, cond_true, at_getD h, obs]
   rw [Wp (by omega) (by omega), Wp (by omega) (by omega)]
   congr 3 <;> omega
  ·have : i = xs.length := by omega
   subst this
   exact .inr ⟨_, by simp only [nlt_self, cond_false], rfl⟩
def mkF {α : Type} (g : Int → α) (c : Nat) (k : Int) (n : Nat) : List α := (List.range n).map fun i : Nat => g (k + ((c * i : Nat) : Int))
theorem mkF_len {α : Type} (g : Int → α) (c : Nat) (k : Int) (n : Nat) : (mkF g c k n).length = n := by simp [mkF]
theorem mkF_get {α : Type} (g : Int → α) (c : Nat) (k : Int) {n i : Nat} (h : i < n) (z : α) : (mkF g c k n).getD i z = g (k + ((c * i : Nat) : Int)) := by simp [mkF, List.getD, h]
theorem getD_set {α : Type} {l : List α} {i : Nat} {a z : α} (h : i < l.length) : (l.set i a).getD i z = a := by simp [List.getD, h]
theorem mark_rows {α : Type} (g : Int → α) {c : Nat} {xs : List α} {body : Int × Int × List α → Option ((Int × Int × List α) ⊕ (Int × List α))} (h : xs.length ≤ SM) (hc : c ≤ 8)
  (hstep : ∀ (q : Int) (i : Nat) (l : List α), i < l.length → l.length ≤ SM → 0 ≤ q → q ≤ 2305843009213693952 → body (q, (i : Int), l) = some (.inl (q + (c : Int), ((i + 1 : Nat) : Int), l.set i (g q))))
  (hend : ∀ (q : Int) (l : List α), body (q, (l.length : Int), l) = some (.inr (q, l))) (k : Int) (h0 : 0 ≤ k) (hk : k ≤ 1152921504606846976) :
  loop body (k, 0, xs) = some (k + ((c * xs.length : Nat) : Int), mkF g c k xs.length) := by
 have hS := h
 unfold SM at h
 have hm : c * xs.length ≤ 8 * 1048576 := Nat.mul_le_mul hc h
 have key := loop_ind (body := body) (fun x => ∃ i : Nat, x.2.1 = (i : Int) ∧ i ≤ xs.length ∧ x.1 = k + ((c * i : Nat) : Int) ∧ x.2.2 = mkF g c k i ++ xs.drop i) (fun x => xs.length - x.2.1.toNat)
  (fun r => r = (k + ((c * xs.length : Nat) : Int), mkF g c k xs.length)) (s := (k, 0, xs)) ?_ ⟨0, rfl, by omega, by simp, by simp [mkF]⟩
 ·obtain ⟨r, h1, h2⟩ := key
  rw [h1, h2]
 ·rintro ⟨q, x, l⟩ ⟨i, rfl, hi, e1, e2⟩
  simp only at e1 e2
  subst e1 e2
  have hlen : (mkF g c k i ++ xs.drop i).length = xs.length := by rw [List.length_append, mkF_len, List.length_drop]; omega
  by_cases h1 : i < xs.length
  ·have hci : c * i ≤ c * xs.length := Nat.mul_le_mul_left c hi
   have hcs : c * (i + 1) = c * i + c := Nat.mul_succ c i
   refine .inl ⟨(k + ((c * (i + 1) : Nat) : Int), ((i + 1 : Nat) : Int), mkF g c k (i + 1) ++ xs.drop (i + 1)), ?_, ⟨i + 1, rfl, by omega, rfl, rfl⟩, by simp only [Int.toNat_natCast]; omega⟩
   rw [hstep _ i _ (by rw [hlen]; exact h1) (by rw [hlen]; exact hS) (by omega) (by omega)]
   have e3 : (mkF g c k i ++ xs.drop i).set i (g (k + ((c * i : Nat) : Int))) = mkF g c k (i + 1) ++ xs.drop (i + 1) := by
    rw [List.set_append_right _ _ (by rw [mkF_len]; omega), mkF_len, Nat.sub_self, List.drop_eq_getElem_cons h1, List.set_cons_zero]
    simp [mkF, List.range_succ]
   rw [e3]
   congr 3
   omega
  ·have : i = xs.length := by omega
   subst this
   refine .inr ⟨_, ?_, rfl⟩
   have := hend (k + ((c * xs.length : Nat) : Int)) (mkF g c k xs.length ++ xs.drop xs.length)
   rw [hlen] at this
   rw [this]
   simp
theorem held_rows {c n : Nat} {k : Int} {body : Int × Int → Option ((Int × Int) ⊕ (Int ⊕ Int))} (h : n ≤ SM) (hc : c ≤ 8) (h0 : 0 ≤ k) (hk : k ≤ 1152921504606846976)
  (hstep : ∀ (i : Nat) (q : Int), i < n → q = k + ((c * i : Nat) : Int) → 0 ≤ q → q ≤ 2305843009213693952 → body (q, (i : Int)) = some (.inl (q + (c : Int), ((i + 1 : Nat) : Int))))
  (hend : ∀ q, body (q, (n : Int)) = some (.inr (.inl q))) : loop body (k, 0) = some (.inl (k + ((c * n : Nat) : Int))) := by
 unfold SM at h
 have hm : c * n ≤ 8 * 1048576 := Nat.mul_le_mul hc h
 have key := loop_ind (body := body) (fun x => ∃ i : Nat, x.2 = (i : Int) ∧ i ≤ n ∧ x.1 = k + ((c * i : Nat) : Int)) (fun x => n - x.2.toNat) (fun r => r = .inl (k + ((c * n : Nat) : Int))) (s := (k, 0)) ?_ ⟨0, rfl, by omega, by simp⟩
 ·obtain ⟨r, h1, h2⟩ := key
  rw [h1, h2]
 ·rintro ⟨q, x⟩ ⟨i, rfl, hi, e⟩
  simp only at e
  by_cases h1 : i < n
  ·have hci : c * i ≤ c * n := Nat.mul_le_mul_left c hi
   have hcs : c * (i + 1) = c * i + c := Nat.mul_succ c i
   refine .inl ⟨_, hstep i q h1 e (by omega) (by omega), ⟨i + 1, rfl, by omega, by simp only; omega⟩, by simp only [Int.toNat_natCast]; omega⟩
  ·have : i = n := by omega
   subst this
   exact .inr ⟨_, hend q, by rw [e]⟩
theorem mhAttackS {xs : List TAttack} (h : xs.length ≤ SM) (k : Int) (h0 : 0 ≤ k) (hk : k ≤ 1152921504606846976) : ∃ (r : Int) (ys : List TAttack), X.l_markAttackS_Mod xs k = some (r, ys) ∧ ys.length = xs.length ∧ X.l_heldAttackS ys k = some r ∧ k ≤ r ∧ r ≤ k + 8388608 := by
 have hn := h
 unfold SM at hn
 refine ⟨k + ((2 * xs.length : Nat) : Int), mkF (fun q => TAttack.mk q (q + 1)) 2 k xs.length, ?_, mkF_len _ _ _ _, ?_, by omega, by omega⟩
 ·unfold X.l_markAttackS_Mod
  rw [mark_rows (fun q => TAttack.mk q (q + 1)) (c := 2) h (by omega) ?_ ?_ k h0 hk]
  ·rfl
  ·intro q i l hi hl q0 q1
   unfold SM at hl
   have w1 : W (q + 1) = q + 1 := W_of (by omega)
   have w2 : W (q + 1 + 1) = q + 2 := by rw [W_of (by omega)]; omega
   have w5 : W ((i : Int) + 1) = ((i + 1 : Nat) : Int) := by rw [W_of (by omega)]; omega
   simp only [lt_cast hi, cond_true, Int.toNat_natCast, obs, List.set_set, getD_set hi, w1, w2, w5]
   exact if_pos ⟨by omega, by omega⟩
  ·intro q l; simp only [nlt_self, cond_false]
 ·unfold X.l_heldAttackS
  rw [held_rows (c := 2) (n := xs.length) h (by omega) h0 hk ?_ ?_]
  ·rfl
  ·intro i q hi e q0 q1
   have w1 : W (q + 1) = q + 1 := W_of (by omega)
   have w2 : W (q + 1 + 1) = q + 2 := by rw [W_of (by omega)]; omega
   have w5 : W ((i : Int) + 1) = ((i + 1 : Nat) : Int) := by rw [W_of (by omega)]; omega
   simp only [mkF_len, lt_cast hi, cond_true]
   rw [at_getD (by rw [mkF_len]; exact hi), mkF_get _ _ _ hi, ← e]
   simp only [obs, w1, w2, w5, bne_self_eq_false, cond_false]
   rfl
  ·intro q; simp only [mkF_len, nlt_self, cond_false]
theorem mL : maxLen = 9223372036854775807 := by decide
theorem szL_ok2 {α : Type} {z : α} {f : α → Int → Option Int} {sm : α → Prop} {xs : List α} (hl : xs.length ≤ maxLen) (h : ∀ x ∈ xs, SzOk f sm x) :
  ∀ n, 0 ≤ n ∧ n ≤ (SM : Int) → ∃ r, szL z f xs n = some r ∧ (r = -1 ∨ (0 ≤ r ∧ r ≤ n - xs.length ∧ xs.length ≤ SM ∧ ∀ x ∈ xs, sm x)) := by
 intro n hn
 have hm : maxLen = 9223372036854775807 := by decide
 unfold szL
 unfold SM at hn
 rw [W_of (by omega)]
 by_cases hlt : n - xs.length < 0
 ·exact ⟨-1, by simp [hlt], .inl rfl⟩
 ·simp only [hlt, decide_false, cond_false]
  refine run_ind (fun o => ∃ r, o = some r ∧ (r = -1 ∨ (0 ≤ r ∧ r ≤ n - xs.length ∧ xs.length ≤ SM ∧ ∀ x ∈ xs, sm x)))
   (fun s => ∃ k : Nat, s.2 = k ∧ k ≤ xs.length ∧ 0 ≤ s.1 ∧ s.1 ≤ n - xs.length ∧ ∀ j (hj : j < xs.length), j < k → sm xs[j]) (fun s => xs.length - s.2.toNat)
   (fun r => match r with | .inl r => 0 ≤ r ∧ r ≤ n - xs.length ∧ ∀ x ∈ xs, sm x | .inr r => r = -1) ⟨0, rfl, Nat.zero_le _, by omega, Int.le_refl _, fun j hj h => absurd h (Nat.not_lt_zero _)⟩ ?_ (fun r h2 => by
    cases r with
    | inl r => exact ⟨r, rfl, .inr ⟨h2.1, h2.2.1, by unfold SM; omega, h2.2.2⟩⟩
    | inr r => exact ⟨r, rfl, .inl h2⟩)
  ·rintro ⟨a, i⟩ ⟨k, hk, hkl, ha, hb, hsm⟩
   simp only at hk ha hb
   subst hk
   by_cases hlt : k < xs.length
   ·have hk' : (k : Int) < xs.length := by omega
    obtain ⟨r, h3, h4⟩ := h xs[k] (List.getElem_mem _) a ⟨ha, by unfold SM; omega⟩
    simp only [hk', decide_true, cond_true, at_nat hlt, obs, h3, W_succ (show k < 4611686018427387904 by omega)]
    rcases h4 with rfl | ⟨h4, h5, h6⟩
    ·right; exact ⟨.inr (-1), by simp, rfl⟩
    ·left
     have : ¬ r < 0 := by omega
     simp only [this, decide_false, cond_false]
     refine ⟨(r, ((k + 1 : Nat) : Int)), rfl, ⟨k + 1, rfl, by omega, h4, by simp only; omega, fun j hj hjk => ?_⟩, ?_⟩
     ·by_cases e : j = k
      ·subst e; exact h6
      ·exact hsm j hj (by omega)
     ·simp only [Int.toNat_natCast]; omega
   ·have hk' : ¬ (k : Int) < xs.length := by omega
    right
    simp only [hk', decide_false, cond_false]
    refine ⟨.inl a, rfl, ha, by omega, fun x hx => ?_⟩
    obtain ⟨j, hj, rfl⟩ := List.getElem_of_mem hx
    exact hsm j hj (by omega)
theorem law_sz2 {o : Option Int} {m : Int} {Q : Int → Prop} {k : Int → Option Bool} (h : ∃ r, o = some r ∧ (r = -1 ∨ (0 ≤ r ∧ Q r))) (hk : ∀ r, 0 ≤ r → Q r → k r = some true) :
  (o.bind fun r => bif decide (r < 0) then some true else k r) = some true := by
 obtain ⟨r, rfl, h1⟩ := h
 rcases h1 with rfl | ⟨h1, h2⟩
 ·simp
 ·have : ¬ r < 0 := by omega
  simp only [obs, this, decide_false, cond_false]
  exact hk r h1 h2
theorem szSheet2 (x : TSheet) (h : okTSheet x) (n : Int) (hn : 0 ≤ n ∧ n ≤ (SM : Int)) : ∃ r, X.l_szSheet x n = some r ∧ (r = -1 ∨ (0 ≤ r ∧ (r ≤ n - x.Orders.length ∧ smTSheet x))) := by
 obtain ⟨r, e, h2⟩ := szL_ok2 (z := zTOrder) (f := X.l_szOrder) (xs := x.Orders) h.2.1.1 (fun y hy => l_szOrder_sz y (h.2.1.2 y hy)) n hn
 unfold X.l_szSheet
 rw [show X.l_szOrderS x.Orders n = some r from e]
 rcases h2 with rfl | ⟨h3, h4, h5, h6⟩
 ·exact ⟨-1, rfl, .inl rfl⟩
 ·refine ⟨r, ?_, .inr ⟨h3, h4, trivial, ⟨h5, h6⟩, trivial⟩⟩
  simp only [obs, decide_eq_false (show ¬ r < 0 by omega), cond_false]
theorem mkOrderRow_L {xs : List TOrder} (h : smLTOrder xs) : Mk (X.l_markOrderS_L xs) := fun k h0 hk => by
 have hs := h.1
 unfold SM at hs
 unfold X.l_markOrderS_L
 refine mark_loop (f := fun y => some y) xs.length 2097152 h.1 (by omega) (fun i q hi hq0 hq => ?_) (fun q => by simp only [nlt_self, cond_false]) k h0 hk
 have hp : (xs.getD i zTOrder).Path.length ≤ SM := (h.2 _ (by simp [List.getD, hi])).2.1.1
 have hp2 := hp
 unfold SM at hp2
 simp only [lt_cast hi, cond_true, at_getD hi, obs]
 rw [Wp (by omega) (by omega), mkInt_L hp _ (by omega) (by omega)]
 simp only [obs]
 rw [Wp (by omega) (by omega), Wp (by omega) (by omega)]
 exact ⟨_, rfl, by omega, by omega⟩
theorem mkSheet_L {x : TSheet} (h : smTSheet x) (k : Int) (h0 : 0 ≤ k) (hk : k ≤ 549755813888000) : ∃ k' : Int, X.l_markSheet_L x k = some k' ∧ k ≤ k' ∧ k' ≤ k + 8796093022208 := by
 obtain ⟨a, e1, b1, c1⟩ := mkOrderRow_L (xs := x.Orders) h.2.1 k h0 (by omega)
 unfold X.l_markSheet_L
 rw [e1]
 exact ⟨_, rfl, by omega, by omega⟩
theorem getD_get {l : List TOrder} {k : Nat} (h : k < l.length) : l.getD k zTOrder = l[k] := by simp [List.getD, h]
def att (l : List TOrder) : List TAttack := (l.filter fun o => o.Attack != -1).map fun o => TAttack.mk o.Unit o.Attack
theorem att_take {l : List TOrder} {k : Nat} (h : k < l.length) : att (l.take (k + 1)) = bif l[k].Attack != -1 then att (l.take k) ++ [TAttack.mk l[k].Unit l[k].Attack] else att (l.take k) := by
 unfold att
 rw [List.take_succ_eq_append_getElem h, List.filter_append, List.map_append]
 cases h2 : l[k].Attack != -1 <;> simp [h2]
theorem att_len (l : List TOrder) : (att l).length ≤ l.length := by unfold att; rw [List.length_map]; exact List.length_filter_le _ _
theorem core (a0 : TSheet) (a1 : TSheet) (h : a0.Orders.length + a1.Orders.length ≤ SM) : ∃ w, X.s_AttacksOf a0 a1 = some w ∧ X.i_AttacksOf a0 a1 = some w ∧ w.length ≤ SM := by
 have hm := mL
 have h' := h
 unfold SM at h'
 have hl : (a0.Orders ++ a1.Orders).length ≤ 1048576 := by rw [List.length_append]; omega
 have e1 : a0.Orders.length ≤ LIM := by unfold LIM; omega
 have e2 : (a0.Orders ++ a1.Orders).length ≤ LIM := by unfold LIM; omega
 have al : ∀ k, (att ((a0.Orders ++ a1.Orders).take k)).length ≤ 1048576 := fun k => Nat.le_trans (att_len _) (by rw [List.length_take]; omega)
 refine ⟨att (a0.Orders ++ a1.Orders), ?_, ?_, Nat.le_trans (att_len _) (by unfold SM; omega)⟩
 ·unfold X.s_AttacksOf X.s_tAttacks
  simp only [List.nil_append, if_pos e1, if_pos e2]
  rw [run_st (a0.Orders ++ a1.Orders).length (fun k => ((k : Int), att ((a0.Orders ++ a1.Orders).take k))) (att (a0.Orders ++ a1.Orders)) (by rfl) ?_ ?_]
  ·rfl
  ·intro k hk
   have hal := al k
   have e3 : ∀ x : TAttack, (att ((a0.Orders ++ a1.Orders).take k) ++ [x]).length ≤ LIM := fun x => by simp; unfold LIM; omega
   have eg : (a0.Orders ++ a1.Orders).getD k zTOrder = (a0.Orders ++ a1.Orders)[k] := getD_get hk
   simp only [lt_cast hk, cond_true, if_pos (show 0 ≤ (k : Int) ∧ (k : Int) < ((a0.Orders ++ a1.Orders).length : Int) by omega), Int.toNat_natCast, eg, if_pos (e3 _), W_up hk (show (a0.Orders ++ a1.Orders).length ≤ maxLen by omega), att_take hk]
   cases (a0.Orders ++ a1.Orders)[k].Attack != -1 <;> rfl
  ·simp only [nlt_self, cond_false, List.take_length]
 ·unfold X.i_AttacksOf X.g_Concat_Order
  rw [run_st 2 (fun k => (((match k with | 0 => 0 | 1 => a0.Orders.length | _ => a0.Orders.length + a1.Orders.length : Nat) : Int), (k : Int))) ((a0.Orders.length + a1.Orders.length : Nat) : Int) (by rfl) ?_ ?_]
  ·have eg : X.g_Grow_Order_Mnd ((a0.Orders.length + a1.Orders.length : Nat) : Int) = some [] := by
    unfold X.g_Grow_Order_Mnd
    rw [if_pos ⟨by omega, by rw [Int.toNat_natCast]; unfold LIM; omega⟩]
   rw [eg, obs]
   rw [run_st 2 (fun k => ((k : Int), match k with | 0 => [] | 1 => a0.Orders | _ => a0.Orders ++ a1.Orders)) (a0.Orders ++ a1.Orders) (by rfl) ?_ ?_]
   ·simp only [obs]
    generalize a0.Orders ++ a1.Orders = L at hl al
    rw [run_st L.length (fun k => ((k : Int), att (L.take k))) (att L) (by rfl) ?_ ?_]
    ·intro k hk
     have hal := al k
     have e3 : ∀ x : TAttack, (att (L.take k) ++ [x]).length ≤ LIM := fun x => by simp; unfold LIM; omega
     simp only [lt_cast hk, cond_true, at_nat hk, obs, if_pos (e3 _), W_up hk (show L.length ≤ maxLen by omega), att_take hk]
     cases L[k].Attack != -1 <;> rfl
    ·simp only [nlt_self, cond_false, List.take_length]
   ·intro k hk
    have hk2 : k < [a0.Orders, a1.Orders].length := hk
    simp only [lt_cast hk2, cond_true, at_nat hk2, obs, W_succ (show k < 4611686018427387904 by omega)]
    match k, hk with
    | 0, _ => simp only [List.nil_append, List.getElem_cons_zero]; rw [if_pos e1]
    | 1, _ => simp only [List.getElem_cons_succ, List.getElem_cons_zero]; rw [if_pos e2]
   ·rfl
  ·intro k hk
   have hk2 : k < [a0.Orders, a1.Orders].length := hk
   simp only [lt_cast hk2, cond_true, at_nat hk2, obs, W_succ (show k < 4611686018427387904 by omega)]
   match k, hk with
   | 0, _ =>
    simp only [List.getElem_cons_zero]
    rw [W_of (by omega), decide_eq_false (by omega)]
    simp
   | 1, _ =>
    simp only [List.getElem_cons_succ, List.getElem_cons_zero]
    rw [W_of (by omega), decide_eq_false (by omega)]
    simp
  ·rfl
theorem law (a0 : TSheet) (a1 : TSheet) (k0 : okTSheet a0) (k1 : okTSheet a1) : X.l_FnExactAttacksOf a0 a1 = some true := by
 unfold X.l_FnExactAttacksOf
 refine law_sz2 (m := 0) (szSheet2 a0 k0 1048576 (by unfold SM; omega)) fun r1 g1 q1' => ?_
 refine law_sz2 (m := 0) (szSheet2 a1 k1 r1 ⟨g1, by unfold SM; omega⟩) fun r2 g2 q2' => ?_
 obtain ⟨p1, q1⟩ := q1'
 obtain ⟨p2, q2⟩ := q2'
 obtain ⟨w, hs, hi, hw⟩ := core a0 a1 (by unfold SM; omega)
 obtain ⟨mk1, ek1, bk1, ck1⟩ := mkSheet_L (x := a0) q1 1 (by omega) (by omega)
 obtain ⟨mk2, ek2, bk2, ck2⟩ := mkSheet_L (x := a1) q2 mk1 (by omega) (by omega)
 have zk : decide (mk2 < 0) = false := decide_eq_false (by omega)
 obtain ⟨r1m, y1m, em1, el1, eh1, bm1, cm1⟩ := mhAttackS (hw) 1 (by omega) (by omega)
 have zm1 : decide (r1m < 0) = false := decide_eq_false (by omega)
 simp [l_toSheet_eq a0 q1, l_eqSheet_eq a0 q1, l_toSheet_eq a1 q2, l_eqSheet_eq a1 q2, hs, hi, ek1, ek2, zk, em1, el1, eh1, zm1, l_eqAttackS_eq (w) (⟨hw, fun x _ => trivTAttack x⟩)]
end Go.Proofs.Ytjlabdoeiphegaa.X0
