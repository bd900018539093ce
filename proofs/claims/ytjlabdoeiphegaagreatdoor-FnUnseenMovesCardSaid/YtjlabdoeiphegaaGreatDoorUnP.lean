/- The plain law behind FnUnseenMoves, for arguments that a machine can hold. -/
import Derived.Test.YtjlabdoeiphegaaGreatDoorUnWb
import Derived.Test.YtjlabdoeiphegaaGreatDoorAmCore3
set_option linter.unusedVariables false
set_option linter.unusedSimpArgs false
set_option maxRecDepth 100000
namespace Go.Proofs.YtjlabdoeiphegaaGreatDoor.X0
open Go Go.Proofs.YtjlabdoeiphegaaGreatDoor.Ab
theorem obs {α β : Type} (a : α) (f : α → Option β) : (some a).bind f = f a := rfl
def SM : Nat := 9223372036854775807
abbrev smS (s : List UInt8) : Prop := s.length ≤ SM
abbrev smL {α : Type} (sm : α → Prop) (xs : List α) : Prop := xs.length ≤ SM ∧ ∀ x ∈ xs, sm x
abbrev okLI (x : (List Int)) : Prop := okL okI x
abbrev smLI (x : (List Int)) : Prop := smL smI x
abbrev okTTerrain (x : TTerrain) : Prop := okS x.Name ∧ okLI x.Cost ∧ okI x.Shift ∧ okI x.Height ∧ okB x.Blocks ∧ True
abbrev smTTerrain (x : TTerrain) : Prop := smS x.Name ∧ smLI x.Cost ∧ smI x.Shift ∧ smI x.Height ∧ smB x.Blocks ∧ True
abbrev okLTTerrain (x : (List TTerrain)) : Prop := okL okTTerrain x
abbrev smLTTerrain (x : (List TTerrain)) : Prop := smL smTTerrain x
abbrev okTKind (x : TKind) : Prop := okS x.Name ∧ okI x.Strength ∧ okI x.Moves ∧ okI x.Steps ∧ okB x.Zone ∧ okI x.View ∧ True
abbrev smTKind (x : TKind) : Prop := smS x.Name ∧ smI x.Strength ∧ smI x.Moves ∧ smI x.Steps ∧ smB x.Zone ∧ smI x.View ∧ True
abbrev okLTKind (x : (List TKind)) : Prop := okL okTKind x
abbrev smLTKind (x : (List TKind)) : Prop := smL smTKind x
abbrev okTRules (x : TRules) : Prop := okLTTerrain x.Terrains ∧ okLTKind x.Kinds ∧ okI x.Stack ∧ okI x.River ∧ okI x.Road ∧ okI x.Supply ∧ okI x.Turns ∧ True
abbrev smTRules (x : TRules) : Prop := smLTTerrain x.Terrains ∧ smLTKind x.Kinds ∧ smI x.Stack ∧ smI x.River ∧ smI x.Road ∧ smI x.Supply ∧ smI x.Turns ∧ True
abbrev okTMap (x : TMap) : Prop := okI x.Width ∧ okI x.Height ∧ okLI x.Terrain ∧ okLI x.Rivers ∧ okLI x.Roads ∧ True
abbrev smTMap (x : TMap) : Prop := smI x.Width ∧ smI x.Height ∧ smLI x.Terrain ∧ smLI x.Rivers ∧ smLI x.Roads ∧ True
abbrev okTBoard (x : TBoard) : Prop := okTRules x.Rules ∧ okTMap x.Map ∧ True
abbrev smTBoard (x : TBoard) : Prop := smTRules x.Rules ∧ smTMap x.Map ∧ True
abbrev okTUnit (x : TUnit) : Prop := okI x.Side ∧ okI x.Kind ∧ okI x.At ∧ okI x.Steps ∧ True
abbrev smTUnit (x : TUnit) : Prop := smI x.Side ∧ smI x.Kind ∧ smI x.At ∧ smI x.Steps ∧ True
abbrev okLTUnit (x : (List TUnit)) : Prop := okL okTUnit x
abbrev smLTUnit (x : (List TUnit)) : Prop := smL smTUnit x
abbrev okTState (x : TState) : Prop := okI x.Turn ∧ okI x.Weather ∧ okLTUnit x.Units ∧ True
abbrev smTState (x : TState) : Prop := smI x.Turn ∧ smI x.Weather ∧ smLTUnit x.Units ∧ True
end Go.Proofs.YtjlabdoeiphegaaGreatDoor.X0

set_option maxRecDepth 100000
namespace Go.Proofs.YtjlabdoeiphegaaGreatDoor.X0
open Go Go.Proofs.YtjlabdoeiphegaaGreatDoor.Ab
theorem s_l1In_eq (n lo hi : Int) : X.s_l1In n lo hi = some (decide (lo ≤ n) && decide (n ≤ hi)) := by
 unfold X.s_l1In
 by_cases h : lo ≤ n
 ·simp [h]
 ·simp [h]
theorem i_inRange_eq (n lo hi : Int) : X.i_inRange n lo hi = some (decide (lo ≤ n) && decide (n ≤ hi)) := by
 unfold X.i_inRange
 by_cases h : lo ≤ n
 ·simp [h]
 ·simp [h]
theorem s_l1All_eq (xs : List Int) (lo hi : Int) (hl : xs.length ≤ SM) : X.s_l1All xs lo hi = some (xs.all fun x => decide (lo ≤ x) && decide (x ≤ hi)) := by
 unfold SM at hl
 unfold X.s_l1All
 rw [run_all xs (fun x => decide (lo ≤ x) && decide (x ≤ hi)) (.inr false) (.inl ()) rfl ?_ ?_]
 ·cases xs.all fun x => decide (lo ≤ x) && decide (x ≤ hi) <;> rfl
 ·intro k hk
  have hk' : (k : Int) < xs.length := by omega
  simp only [hk', decide_true, cond_true, at_nat hk, obs, s_l1In_eq, W_up hk (show xs.length ≤ maxLen from Nat.le_trans hl (by decide))]
  cases (decide (lo ≤ xs[k]) && decide (xs[k] ≤ hi)) <;> simp
 ·simp
theorem contains_int (xs : List Int) (x : Int) (hl : xs.length ≤ maxLen) : X.g_Contains_int xs x = some (xs.any fun v => x == v) := (hasF_eq (z := zI) (f := fun v => some (x == v)) (p := fun v => x == v) hl (fun _ _ => rfl) : _)
def pIn (n lo hi : Int) : Bool := decide (lo ≤ n) && decide (n ≤ hi)
theorem s_in (n lo hi : Int) : X.s_l1In n lo hi = some (pIn n lo hi) := s_l1In_eq n lo hi
theorem i_in (n lo hi : Int) : X.i_inRange n lo hi = some (pIn n lo hi) := i_inRange_eq n lo hi
theorem pIn_iff {n lo hi : Int} : pIn n lo hi = true ↔ lo ≤ n ∧ n ≤ hi := by simp [pIn]
theorem mL : maxLen = 9223372036854775807 := by decide
theorem s_all (xs : List Int) (lo hi : Int) (hl : xs.length ≤ SM) : X.s_l1All xs lo hi = some (xs.all fun x => pIn x lo hi) := s_l1All_eq xs lo hi hl
noncomputable def pName (s : List UInt8) : Bool := (X.s_rName s).getD false
theorem name_eq (s : List UInt8) (h : s.length ≤ maxLen) : X.s_rName s = some (pName s) ∧ X.i_isName s = some (pName s) := by
 have e : X.i_isName s = X.s_rName s := by
  unfold X.i_isName X.s_rName
  simp only [i_in, s_in]
 have hs : ∃ b, X.s_rName s = some b := by
  unfold X.s_rName
  rw [run_allN s.length (fun k => !(decide ((((s.getD k 0).toNat : Nat) : Int) < 97)) && !(decide ((((s.getD k 0).toNat : Nat) : Int) > 122))) (.inr false) (.inl ()) ?_ ?_]
  ·cases allFrom s.length 0 _
   ·exact ⟨_, rfl⟩
   ·simp only [cond_true, Sum.elim_inl, s_in, obs]; exact ⟨_, rfl⟩
  ·intro k hk
   have h1 : 0 ≤ (k : Int) ∧ (k : Int) < (s.length : Int) := by omega
   simp only [lt_cast hk, cond_true, if_pos h1, W_up hk h, Int.toNat_natCast]
   cases decide ((((s.getD k 0).toNat : Nat) : Int) < 97) <;> cases decide ((((s.getD k 0).toNat : Nat) : Int) > 122) <;> rfl
  ·simp only [nlt_self, cond_false]
 obtain ⟨b, hb⟩ := hs
 have hp : X.s_rName s = some (pName s) := by unfold pName; rw [hb]; rfl
 exact ⟨hp, e.trans hp⟩
noncomputable def pTI (xs : List TTerrain) (s : List UInt8) : Int := (X.s_rTerrain xs s).getD 0
noncomputable def pKI (xs : List TKind) (s : List UInt8) : Int := (X.s_rKind xs s).getD 0
theorem ti_eq (xs : List TTerrain) (s : List UInt8) (h : xs.length ≤ maxLen) : X.s_rTerrain xs s = some (pTI xs s) ∧ X.i_terrainIndex xs s = some (pTI xs s) := by
 have e : X.s_rTerrain xs s = idxF zTTerrain (fun v => some (v.Name == s)) xs := rfl
 obtain ⟨i, h1, _⟩ := idxF_ok (z := zTTerrain) (f := fun v => some (v.Name == s)) (p := fun v => v.Name == s) (xs := xs) h (fun _ _ => rfl)
 have hp : X.s_rTerrain xs s = some (pTI xs s) := by unfold pTI; rw [e, h1]; rfl
 refine ⟨hp, ?_⟩
 have e2 : X.i_terrainIndex xs s = (idxF zTTerrain (fun v => some (v.Name == s)) xs).bind some := rfl
 rw [e2, ← e, hp]; rfl
theorem ki_eq (xs : List TKind) (s : List UInt8) (h : xs.length ≤ maxLen) : X.s_rKind xs s = some (pKI xs s) ∧ X.i_kindIndex xs s = some (pKI xs s) := by
 have e : X.s_rKind xs s = idxF zTKind (fun v => some (v.Name == s)) xs := rfl
 obtain ⟨i, h1, _⟩ := idxF_ok (z := zTKind) (f := fun v => some (v.Name == s)) (p := fun v => v.Name == s) (xs := xs) h (fun _ _ => rfl)
 have hp : X.s_rKind xs s = some (pKI xs s) := by unfold pKI; rw [e, h1]; rfl
 refine ⟨hp, ?_⟩
 have e2 : X.i_kindIndex xs s = (idxF zTKind (fun v => some (v.Name == s)) xs).bind some := rfl
 rw [e2, ← e, hp]; rfl
noncomputable def qT (r : TRules) (k : Nat) : Bool :=
 let t := r.Terrains.getD k zTTerrain
 pName t.Name && ((pTI r.Terrains t.Name == (k : Int)) && (((t.Cost.length : Int) == (r.Kinds.length : Int)) && ((t.Cost.all fun x => pIn x 0 9) && (pIn t.Shift (-3) 3 && pIn t.Height 0 3))))
noncomputable def qK (r : TRules) (k : Nat) : Bool :=
 let t := r.Kinds.getD k zTKind
 pName t.Name && ((pKI r.Kinds t.Name == (k : Int)) && (pIn t.Strength 1 9 && (pIn t.Moves 0 9 && (pIn t.Steps 1 4 && pIn t.View 0 4))))
noncomputable def pRules (r : TRules) : Bool :=
 pIn (r.Terrains.length : Int) 1 6 && (pIn (r.Kinds.length : Int) 1 4 && (allFrom r.Terrains.length 0 (qT r) && (allFrom r.Kinds.length 0 (qK r) && (pIn r.Stack 1 4 && (pIn r.River 0 9 && (pIn r.Road 1 9 && (pIn r.Supply 0 20 && pIn r.Turns 1 30)))))))
theorem costs_eq (xs : List Int) (h : xs.length ≤ SM) : X.g_ContainsFunc_int xs (fun q0 => X.i_goodTerrain_1 q0) = some (!(xs.all fun x => pIn x 0 9)) := by
 have hm := mL
 have := hasF_eq (z := zI) (f := fun q0 => X.i_goodTerrain_1 q0) (p := fun x => !(pIn x 0 9)) (xs := xs) (by unfold SM at h; omega) (fun x _ => by unfold X.i_goodTerrain_1; rw [i_in]; rfl)
 rw [List.not_all_eq_any_not]
 exact this
theorem getD_mem {α : Type} {xs : List α} {k : Nat} {z : α} (h : k < xs.length) : xs.getD k z ∈ xs := by
 have : xs.getD k z = xs[k] := by simp [List.getD, h]
 rw [this]; exact List.getElem_mem h
theorem rules_eq (r : TRules) (q : smTRules r) : X.s_rGood r = some (pRules r) ∧ X.i_IsRules r = some (pRules r) := by
 have hm := mL
 have hT : r.Terrains.length ≤ maxLen := by have := q.1.1; unfold SM at this; omega
 have hK : r.Kinds.length ≤ maxLen := by have := q.2.1.1; unfold SM at this; omega
 have hTn : ∀ k, k < r.Terrains.length → (r.Terrains.getD k zTTerrain).Name.length ≤ maxLen ∧ (r.Terrains.getD k zTTerrain).Cost.length ≤ SM := fun k hk => by
  have := q.1.2 _ (getD_mem (z := zTTerrain) hk)
  exact ⟨by have := this.1; unfold smS SM at this; omega, this.2.1.1⟩
 have hKn : ∀ k, k < r.Kinds.length → (r.Kinds.getD k zTKind).Name.length ≤ maxLen := fun k hk => by
  have := (q.2.1.2 _ (getD_mem (z := zTKind) hk)).1
  unfold smS SM at this; omega
 constructor
 ·unfold X.s_rGood pRules
  simp only [s_in, obs, bif_not]
  cases pIn (r.Terrains.length : Int) 1 6
  ·rfl
  cases pIn (r.Kinds.length : Int) 1 4
  ·rfl
  simp only [cond_true, Bool.true_and]
  rw [run_allN r.Terrains.length (qT r) (.inr false) (.inl ()) ?_ ?_]
  ·cases allFrom r.Terrains.length 0 (qT r)
   ·rfl
   simp only [cond_true, Sum.elim_inl, Bool.true_and]
   rw [run_allN r.Kinds.length (qK r) (.inr false) (.inl ()) ?_ ?_]
   ·cases allFrom r.Kinds.length 0 (qK r)
    ·rfl
    simp only [cond_true, Sum.elim_inl, Bool.true_and]
    cases pIn r.Stack 1 4 <;> cases pIn r.River 0 9 <;> cases pIn r.Road 1 9 <;> cases pIn r.Supply 0 20 <;> rfl
   ·intro k hk
    simp only [lt_cast hk, cond_true, at_getD hk, obs, (name_eq _ (hKn k hk)).1, (ki_eq _ _ hK).1, W_up hk hK, qK]
    cases pName (r.Kinds.getD k zTKind).Name
    ·rfl
    cases h : pKI r.Kinds (r.Kinds.getD k zTKind).Name == (k : Int)
    ·simp only [bne, h]; rfl
    simp only [bne, h, Bool.not_true, cond_false, cond_true, Bool.true_and]
    cases pIn (r.Kinds.getD k zTKind).Strength 1 9 <;> cases pIn (r.Kinds.getD k zTKind).Moves 0 9 <;> cases pIn (r.Kinds.getD k zTKind).Steps 1 4 <;> cases pIn (r.Kinds.getD k zTKind).View 0 4 <;> rfl
   ·simp only [nlt_self, cond_false]
  ·intro k hk
   simp only [lt_cast hk, cond_true, at_getD hk, obs, (name_eq _ (hTn k hk).1).1, (ti_eq _ _ hT).1, s_all _ _ _ (hTn k hk).2, W_up hk hT, qT]
   cases pName (r.Terrains.getD k zTTerrain).Name
   ·rfl
   cases h : pTI r.Terrains (r.Terrains.getD k zTTerrain).Name == (k : Int)
   ·simp only [bne, h]; rfl
   cases h2 : ((r.Terrains.getD k zTTerrain).Cost.length : Int) == (r.Kinds.length : Int)
   ·simp only [bne, h, h2]; rfl
   simp only [bne, h, h2, Bool.not_true, cond_false, cond_true, Bool.true_and]
   cases ((r.Terrains.getD k zTTerrain).Cost.all fun x => pIn x 0 9) <;> cases pIn (r.Terrains.getD k zTTerrain).Shift (-3) 3 <;> cases pIn (r.Terrains.getD k zTTerrain).Height 0 3 <;> rfl
  ·simp only [nlt_self, cond_false]
 ·unfold X.i_IsRules pRules
  simp only [i_in, obs, bif_not]
  cases pIn (r.Terrains.length : Int) 1 6
  ·rfl
  cases pIn (r.Kinds.length : Int) 1 4
  ·rfl
  simp only [cond_true, Bool.true_and]
  rw [run_allN r.Terrains.length (qT r) (.inr false) (.inl ()) ?_ ?_]
  ·cases allFrom r.Terrains.length 0 (qT r)
   ·rfl
   simp only [cond_true, Sum.elim_inl, Bool.true_and]
   rw [run_allN r.Kinds.length (qK r) (.inr false) (.inl ()) ?_ ?_]
   ·cases allFrom r.Kinds.length 0 (qK r)
    ·rfl
    simp only [cond_true, Sum.elim_inl, Bool.true_and]
    cases pIn r.Stack 1 4 <;> cases pIn r.River 0 9 <;> cases pIn r.Road 1 9 <;> cases pIn r.Supply 0 20 <;> rfl
   ·intro k hk
    simp only [lt_cast hk, cond_true, at_getD hk, obs, X.i_goodKind, i_in, (name_eq _ (hKn k hk)).2, (ki_eq _ _ hK).2, W_up hk hK, qK]
    cases pName (r.Kinds.getD k zTKind).Name
    ·rfl
    cases h : pKI r.Kinds (r.Kinds.getD k zTKind).Name == (k : Int) <;> simp only [bne, h] <;>
    cases pIn (r.Kinds.getD k zTKind).Strength 1 9 <;> cases pIn (r.Kinds.getD k zTKind).Moves 0 9 <;> cases pIn (r.Kinds.getD k zTKind).Steps 1 4 <;> cases pIn (r.Kinds.getD k zTKind).View 0 4 <;> rfl
   ·simp only [nlt_self, cond_false]
  ·intro k hk
   simp only [lt_cast hk, cond_true, at_getD hk, obs, X.i_goodTerrain, i_in, (name_eq _ (hTn k hk).1).2, (ti_eq _ _ hT).2, costs_eq _ (hTn k hk).2, W_up hk hT, qT]
   cases pName (r.Terrains.getD k zTTerrain).Name
   ·rfl
   cases h2 : ((r.Terrains.getD k zTTerrain).Cost.length : Int) == (r.Kinds.length : Int)
   ·simp only [bne, h2]; cases (pTI r.Terrains (r.Terrains.getD k zTTerrain).Name == (k : Int)) <;> rfl
   cases h : pTI r.Terrains (r.Terrains.getD k zTTerrain).Name == (k : Int) <;> simp only [bne, h, h2, Bool.not_true, cond_false, cond_true, Bool.true_and] <;>
   cases ((r.Terrains.getD k zTTerrain).Cost.all fun x => pIn x 0 9) <;> cases pIn (r.Terrains.getD k zTTerrain).Shift (-3) 3 <;> cases pIn (r.Terrains.getD k zTTerrain).Height 0 3 <;> rfl
  ·simp only [nlt_self, cond_false]
def dQ : List Int := [1, 1, 0, -1, -1, 0]
def dR : List Int := [0, -1, -1, 0, 1, 1]
def okSides (m : TMap) : Prop := 1 ≤ m.Width ∧ m.Width ≤ 10 ∧ 1 ≤ m.Height ∧ m.Height ≤ 10
def pIdx (m : TMap) (a b : Int) : Int := bif pIn a 0 (m.Width - 1) && pIn b 0 (m.Height - 1) then b * m.Width + a else -1
def pNext (m : TMap) (i : Int) (d : Int) : Int := pIdx m (i % m.Width + dQ.getD d.toNat 0) (i / m.Width + dR.getD d.toNat 0)
theorem size_eq (m : TMap) (h : okSides m) : W (m.Width * m.Height) = m.Width * m.Height ∧ 1 ≤ m.Width * m.Height ∧ m.Width * m.Height ≤ 100 := by
 obtain ⟨h1, h2, h3, h4⟩ := h
 have a : 1 * 1 ≤ m.Width * m.Height := Int.mul_le_mul h1 h3 (by omega) (by omega)
 have b : m.Width * m.Height ≤ 10 * 10 := Int.mul_le_mul h2 h4 (by omega) (by omega)
 exact ⟨W_of (by omega), by omega, by omega⟩
theorem tmod_nn {a b : Int} (ha : 0 ≤ a) (hb : 1 ≤ b) : Int.tmod a b = a % b := Int.tmod_eq_emod_of_nonneg ha
theorem tdiv_nn {a b : Int} (ha : 0 ≤ a) : Int.tdiv a b = a / b := Int.tdiv_eq_ediv_of_nonneg ha
theorem idx_eq (m : TMap) (h : okSides m) (a b : Int) : X.s_mIndex m ⟨a, b⟩ = some (pIdx m a b) ∧ X.i_indexOf m ⟨a, b⟩ = some (pIdx m a b) := by
 have hw := h
 obtain ⟨h1, h2, h3, h4⟩ := h
 unfold X.s_mIndex X.i_indexOf X.i_isIndex pIdx
 simp only [s_in, i_in, obs]
 rw [W_of (n := m.Width - 1) (by omega), W_of (n := m.Height - 1) (by omega)]
 cases ha : pIn a 0 (m.Width - 1)
 ·exact ⟨rfl, rfl⟩
 cases hb : pIn b 0 (m.Height - 1)
 ·exact ⟨rfl, rfl⟩
 simp only [Bool.not_true, cond_false, Bool.and_self, cond_true]
 rw [pIn_iff] at ha hb
 have e1 : 0 * 1 ≤ b * m.Width := Int.mul_le_mul (by omega) (by omega) (by omega) (by omega)
 have e2 : b * m.Width ≤ 10 * 10 := Int.mul_le_mul (by omega) (by omega) (by omega) (by omega)
 rw [W_of (n := b * m.Width) (by omega), W_of (by omega)]
 exact ⟨rfl, rfl⟩
theorem pIdx_lt {m : TMap} (h : okSides m) {a b : Int} : pIdx m a b = -1 ∨ (0 ≤ pIdx m a b ∧ pIdx m a b < m.Width * m.Height) := by
 obtain ⟨h1, h2, h3, h4⟩ := h
 unfold pIdx
 cases ha : pIn a 0 (m.Width - 1) && pIn b 0 (m.Height - 1)
 ·exact .inl rfl
 ·simp only [Bool.and_eq_true, pIn_iff] at ha
  right
  simp only [cond_true]
  have e1 : 0 * 1 ≤ b * m.Width := Int.mul_le_mul (by omega) (by omega) (by omega) (by omega)
  have e2 : b * m.Width ≤ (m.Height - 1) * m.Width := Int.mul_le_mul_of_nonneg_right (by omega) (by omega)
  have e3 : (m.Height - 1) * m.Width = m.Width * m.Height - m.Width := by rw [Int.sub_mul, Int.mul_comm m.Height, Int.one_mul]
  omega
theorem dirs_getD (d : Nat) (h : d < 6) : dirs.getD d zTHex = ⟨dQ.getD d 0, dR.getD d 0⟩ ∧ -1 ≤ dQ.getD d 0 ∧ dQ.getD d 0 ≤ 1 ∧ -1 ≤ dR.getD d 0 ∧ dR.getD d 0 ≤ 1 := by
 match d, h with
 | 0, _ => exact ⟨rfl, by decide⟩
 | 1, _ => exact ⟨rfl, by decide⟩
 | 2, _ => exact ⟨rfl, by decide⟩
 | 3, _ => exact ⟨rfl, by decide⟩
 | 4, _ => exact ⟨rfl, by decide⟩
 | 5, _ => exact ⟨rfl, by decide⟩
theorem next_eq (m : TMap) (h : okSides m) (i d : Int) (hi : 0 ≤ i ∧ i < 4611686018427387904) (hd : 0 ≤ d ∧ d < 6) : X.s_mNext m i d = some (pNext m i d) ∧ X.i_nextTo m i d = some (pNext m i d) := by
 have hw := h
 obtain ⟨h1, h2, h3, h4⟩ := h
 obtain ⟨k, rfl⟩ := Int.eq_ofNat_of_zero_le hd.1
 have hk : k < 6 := by omega
 obtain ⟨g0, g1, g2, g3, g4⟩ := dirs_getD k hk
 have hne : m.Width ≠ 0 := by omega
 have hm1 : 0 ≤ i % m.Width := Int.emod_nonneg _ hne
 have hm2 : i % m.Width < m.Width := Int.emod_lt_of_pos _ (by omega)
 have hd1 : 0 ≤ i / m.Width := Int.ediv_nonneg hi.1 (by omega)
 have hd2 : i / m.Width ≤ i := Int.ediv_le_self _ hi.1
 have e : pNext m i (k : Int) = pIdx m (i % m.Width + dQ.getD k 0) (i / m.Width + dR.getD k 0) := rfl
 constructor
 ·unfold X.s_mNext X.s_mHex X.s_hStep
  rw [if_pos hne, if_pos hne]
  simp only [obs]
  have hl1 : 0 ≤ (k : Int) ∧ (k : Int) < (([1, 1, 0, -1, -1, 0] : List Int).length : Int) := ⟨by omega, by simp; omega⟩
  have hl2 : 0 ≤ (k : Int) ∧ (k : Int) < (([0, -1, -1, 0, 1, 1] : List Int).length : Int) := ⟨by omega, by simp; omega⟩
  rw [if_pos hl1, if_pos hl2]
  simp only [obs, Int.toNat_natCast]
  rw [tmod_nn hi.1 h1, tdiv_nn hi.1, W_of (n := i / m.Width) (by omega)]
  change ((X.s_mIndex m (THex.mk (W (i % m.Width + dQ.getD k 0)) (W (i / m.Width + dR.getD k 0)))).bind fun v5 => some v5) = _
  rw [W_of (n := i % m.Width + dQ.getD k 0) (by omega), W_of (n := i / m.Width + dR.getD k 0) (by omega), (idx_eq m hw _ _).1, e]; rfl
 ·unfold X.i_nextTo X.i_hexOf X.i_stepBy
  rw [if_pos hne, if_pos hne]
  simp only [obs]
  rw [tmod_nn hi.1 h1, tdiv_nn hi.1, W_of (n := i / m.Width) (by omega)]
  rw [at_getD (z := zTHex) (xs := dirs) (k := k) hk, g0]
  simp only [obs, Int.one_mul]
  rw [W_of (n := dQ.getD k 0) (by omega), W_of (n := dR.getD k 0) (by omega)]
  rw [W_of (n := i % m.Width + dQ.getD k 0) (by omega), W_of (n := i / m.Width + dR.getD k 0) (by omega), (idx_eq m hw _ _).2, e]; rfl
def pEdge (m : TMap) (e : Int) : Bool := pIn e 0 (3 * (m.Width * m.Height) - 1) && decide (0 ≤ pNext m (e / 3) (e % 3))
def pIncr (l : List Int) : Bool := allFrom (l.length - 1) 1 fun k => decide (l.getD (k - 1) 0 < l.getD k 0)
def pEdges (m : TMap) (l : List Int) : Bool := l.all (pEdge m) && pIncr l
theorem isEdge_eq (m : TMap) (h : okSides m) (e : Int) : X.i_isEdge m e = some (pEdge m e) := by
 obtain ⟨h5, h6, h7⟩ := size_eq m h
 have hw := h
 obtain ⟨h1, h2, h3, h4⟩ := h
 unfold X.i_isEdge pEdge
 have e3 : W ((W ((W (3 * m.Width)) * m.Height)) - 1) = 3 * (m.Width * m.Height) - 1 := by
  rw [W_of (n := 3 * m.Width) (by omega), Int.mul_assoc, W_of (n := 3 * (m.Width * m.Height)) (by omega), W_of (by omega)]
 rw [e3]
 simp only [i_in, obs]
 cases hp : pIn e 0 (3 * (m.Width * m.Height) - 1)
 ·rfl
 ·rw [pIn_iff] at hp
  simp only [cond_true, Bool.true_and]
  have q1 : Int.tdiv e 3 = e / 3 := tdiv_nn hp.1
  have q2 : Int.tmod e 3 = e % 3 := tmod_nn hp.1 (by omega)
  rw [q1, q2, W_of (n := e / 3) (by omega), (next_eq m hw (e / 3) (e % 3) (by omega) (by omega)).2]
  simp
theorem s_edge (m : TMap) (h : okSides m) (e : Int) : ((X.s_mSize m).bind fun v73 => (X.s_l1In e 0 (W ((W (3 * v73)) - 1)))) = some (pIn e 0 (3 * (m.Width * m.Height) - 1)) ∧
  (pIn e 0 (3 * (m.Width * m.Height) - 1) = true → X.s_mNext m (W (Int.tdiv e 3)) (Int.tmod e 3) = some (pNext m (e / 3) (e % 3))) := by
 obtain ⟨h5, h6, h7⟩ := size_eq m h
 unfold X.s_mSize
 simp only [obs, s_in]
 rw [h5, W_of (n := 3 * (m.Width * m.Height)) (by omega), W_of (by omega)]
 refine ⟨rfl, fun hp => ?_⟩
 rw [pIn_iff] at hp
 have q1 : Int.tdiv e 3 = e / 3 := tdiv_nn hp.1
 have q2 : Int.tmod e 3 = e % 3 := tmod_nn hp.1 (by omega)
 rw [q1, q2, W_of (n := e / 3) (by omega)]
 exact (next_eq m h (e / 3) (e % 3) (by omega) (by omega)).1
theorem incr_eq (l : List Int) (h : l.length ≤ SM) : X.i_increasing l = some (pIncr l) := by
 have hm := mL
 have h' := h
 unfold SM at h'
 unfold X.i_increasing pIncr
 by_cases h0 : l.length = 0
 ·rw [loop_eq, h0]; rfl
 ·have := loop_allFrom (body := (fun (x16 : Int) => ((bif (decide (x16 < (l.length : Int))) then ((at' zI l (W (x16 - 1))).bind fun v19 => ((at' zI l x16).bind fun v21 => (bif (decide (v19 ≥ v21)) then some (Sum.inr (Sum.inr false)) else some (Sum.inl (W (x16 + 1)))))) else some (Sum.inr (Sum.inl ()))) : Option (Int ⊕ (Unit ⊕ Bool)))))
   (fun k => decide (l.getD (k - 1) 0 < l.getD k 0)) (.inr false) (.inl ()) (l.length - 1) 1 (fun j h1 h2 => by
    have hj : j < l.length := by omega
    have e1 : W ((j : Int) - 1) = ((j - 1 : Nat) : Int) := by rw [W_of (by omega)]; omega
    simp only [lt_cast hj, cond_true, e1, at_getD (show j - 1 < l.length by omega), at_getD hj, obs, W_up hj (show l.length ≤ maxLen by omega)]
    show _ = some (bif decide (l.getD (j - 1) zI < l.getD j zI) then _ else _)
    by_cases e : l.getD (j - 1) zI < l.getD j zI
    ·have e' : ¬ l.getD (j - 1) zI ≥ l.getD j zI := by omega
     simp only [e, e', decide_true, decide_false, cond_true, cond_false]
    ·have e' : l.getD (j - 1) zI ≥ l.getD j zI := by omega
     simp only [e, e', decide_true, decide_false, cond_true, cond_false]) (by
    have : 1 + (l.length - 1) = l.length := by omega
    rw [this]; simp only [nlt_self, cond_false])
  rw [show ((1 : Nat) : Int) = 1 from rfl] at this
  rw [this]
  cases allFrom (l.length - 1) 1 fun k => decide (l.getD (k - 1) 0 < l.getD k 0) <;> rfl
theorem rising_eq (l : List Int) (lo hi : Int) (h : l.length ≤ SM) : X.s_l1Rising l lo hi = some (allFrom l.length 0 fun k => pIn (l.getD k 0) lo hi && (decide (k = 0) || decide (l.getD (k - 1) 0 < l.getD k 0))) := by
 have hm := mL
 have h' := h
 unfold SM at h'
 unfold X.s_l1Rising
 rw [run_allN l.length (fun k => pIn (l.getD k 0) lo hi && (decide (k = 0) || decide (l.getD (k - 1) 0 < l.getD k 0))) (.inr false) (.inl ()) ?_ ?_]
 ·cases allFrom l.length 0 _ <;> rfl
 ·intro k hk
  simp only [lt_cast hk, cond_true, at_getD hk, obs, s_in, W_up hk (show l.length ≤ maxLen by omega)]
  show _ = some (bif pIn (l.getD k zI) lo hi && (decide (k = 0) || decide (l.getD (k - 1) zI < l.getD k zI)) then _ else _)
  cases pIn (l.getD k zI) lo hi
  ·rfl
  simp only [Bool.not_true, cond_false, Bool.true_and]
  by_cases h0 : k = 0
  ·subst h0; simp
  ·have e0 : (k : Int) > 0 := by omega
   have e1 : W ((k : Int) - 1) = ((k - 1 : Nat) : Int) := by rw [W_of (by omega)]; omega
   simp only [e0, decide_true, cond_true, e1, at_getD (show k - 1 < l.length by omega), obs, h0, decide_false, Bool.false_or]
   by_cases e : l.getD (k - 1) zI < l.getD k zI
   ·have e' : ¬ l.getD (k - 1) zI ≥ l.getD k zI := by omega
    simp only [e, e', decide_true, decide_false, cond_true, cond_false]
   ·have e' : l.getD (k - 1) zI ≥ l.getD k zI := by omega
    simp only [e, e', decide_true, decide_false, cond_true, cond_false]
 ·simp only [nlt_self, cond_false]
theorem rising_incr (l : List Int) (lo hi : Int) (h : ∀ k, k < l.length → pIn (l.getD k 0) lo hi = true) : (allFrom l.length 0 fun k => pIn (l.getD k 0) lo hi && (decide (k = 0) || decide (l.getD (k - 1) 0 < l.getD k 0))) = pIncr l := by
 rw [Bool.eq_iff_iff]
 unfold pIncr
 rw [allFrom_iff, allFrom_iff]
 constructor
 ·intro g j h1 h2
  have := g j (by omega) (by omega)
  simp only [Bool.and_eq_true, Bool.or_eq_true, decide_eq_true_eq] at this ⊢
  rcases this.2 with e | e
  ·omega
  ·exact e
 ·intro g j _ h2
  simp only [Bool.and_eq_true, Bool.or_eq_true, decide_eq_true_eq]
  refine ⟨h j (by omega), ?_⟩
  by_cases e : j = 0
  ·exact .inl e
  ·have := g j (by omega) (by omega)
   exact .inr (by simpa using this)
theorem edges_eq (m : TMap) (h : okSides m) (l : List Int) (hl : l.length ≤ SM) : X.s_mEdges m l = some (pEdges m l) := by
 have hm := mL
 have hl' := hl
 unfold SM at hl'
 obtain ⟨h5, h6, h7⟩ := size_eq m h
 have e3 : W ((W (3 * (W (m.Width * m.Height)))) - 1) = 3 * (m.Width * m.Height) - 1 := by rw [h5, W_of (n := 3 * (m.Width * m.Height)) (by omega), W_of (by omega)]
 unfold X.s_mEdges pEdges
 rw [run_all l (pEdge m) (.inr false) (.inl ()) rfl ?_ ?_]
 ·cases ha : l.all (pEdge m)
  ·rfl
  ·simp only [cond_true, Sum.elim_inl, X.s_mSize, obs, Bool.true_and, e3, rising_eq l _ _ hl]
   rw [rising_incr]
   intro k hk
   have := List.all_eq_true.1 ha _ (getD_mem (z := 0) hk)
   unfold pEdge at this
   rw [Bool.and_eq_true] at this
   exact this.1
 ·intro k hk
  simp only [lt_cast hk, cond_true, at_nat hk, obs, X.s_mSize, e3, s_in, W_up hk (show l.length ≤ maxLen by omega)]
  unfold pEdge
  cases hp : pIn l[k] 0 (3 * (m.Width * m.Height) - 1)
  ·rfl
  ·simp only [Bool.not_true, cond_false, (s_edge m h l[k]).2 hp, obs, Bool.true_and]
   by_cases e : pNext m (l[k] / 3) (l[k] % 3) < 0
   ·have e' : ¬ 0 ≤ pNext m (l[k] / 3) (l[k] % 3) := by omega
    simp only [e, e', decide_true, decide_false, cond_true, cond_false]
   ·have e' : 0 ≤ pNext m (l[k] / 3) (l[k] % 3) := by omega
    simp only [e, e', decide_true, decide_false, cond_true, cond_false]
 ·simp only [nlt_self, cond_false]
def pMap (m : TMap) : Bool :=
 pIn m.Width 1 10 && (pIn m.Height 1 10 && (((m.Terrain.length : Int) == m.Width * m.Height) && ((m.Terrain.all fun x => pIn x 0 5) && (pEdges m m.Rivers && pEdges m m.Roads))))
theorem map_eq (m : TMap) (q : smTMap m) : X.s_mGood m = some (pMap m) ∧ X.i_IsMap m = some (pMap m) := by
 have hm := mL
 have hT : m.Terrain.length ≤ maxLen := by have := q.2.2.1.1; unfold SM at this; omega
 have ed : ∀ l : List Int, l.length ≤ SM → okSides m → ∀ {γ : Type} (f : Unit ⊕ Bool → Option γ), ((loop (fun (x167 : Int) => ((bif (decide (x167 < (l.length : Int))) then ((at' zI l x167).bind fun v170 => ((X.i_isEdge m v170).bind fun v172 => (bif (!v172) then some (Sum.inr (Sum.inr false)) else some (Sum.inl (W (x167 + 1)))))) else some (Sum.inr (Sum.inl ()))) : Option (Int ⊕ (Unit ⊕ Bool)))) 0).bind f) = f (bif l.all (pEdge m) then .inl () else .inr false) := by
  intro l hl hs γ f
  have hl' := hl
  unfold SM at hl'
  rw [run_all l (pEdge m) (.inr false) (.inl ()) rfl ?_ ?_]
  ·intro k hk
   simp only [lt_cast hk, cond_true, at_nat hk, obs, isEdge_eq m hs, W_up hk (show l.length ≤ maxLen by omega)]
   cases pEdge m l[k] <;> rfl
  ·simp only [nlt_self, cond_false]
 unfold X.s_mGood X.i_IsMap pMap
 simp only [s_in, i_in, obs]
 cases h1 : pIn m.Width 1 10
 ·exact ⟨rfl, rfl⟩
 cases h2 : pIn m.Height 1 10
 ·exact ⟨rfl, rfl⟩
 rw [pIn_iff] at h1 h2
 have hs : okSides m := ⟨h1.1, h1.2, h2.1, h2.2⟩
 obtain ⟨h5, h6, h7⟩ := size_eq m hs
 simp only [Bool.not_true, cond_false, cond_true, Bool.true_and, X.s_mSize, obs, h5]
 cases h3 : (m.Terrain.length : Int) == m.Width * m.Height
 ·refine ⟨rfl, ?_⟩
  simp only [bne, h3]; rfl
 simp only [bne, h3, Bool.not_true, cond_false, cond_true, Bool.true_and]
 rw [s_all _ _ _ q.2.2.1.1]
 rw [run_all m.Terrain (fun x => pIn x 0 5) (.inr false) (.inl ()) rfl ?_ ?_]
 ·cases ht : (m.Terrain.all fun x => pIn x 0 5)
  ·exact ⟨rfl, rfl⟩
  simp only [cond_true, Sum.elim_inl, obs, Bool.true_and, edges_eq m hs _ q.2.2.2.1.1, edges_eq m hs _ q.2.2.2.2.1.1]
  refine ⟨by cases pEdges m m.Rivers <;> rfl, ?_⟩
  rw [run_allN 2 (fun k => pIncr (([m.Rivers, m.Roads] : List (List Int)).getD k zLI) && (([m.Rivers, m.Roads] : List (List Int)).getD k zLI).all (pEdge m)) (.inr false) (.inl ()) ?_ ?_]
  ·simp only [allFrom, pEdges, Bool.and_true]
   show _ = some ((m.Rivers.all (pEdge m) && pIncr m.Rivers) && (m.Roads.all (pEdge m) && pIncr m.Roads))
   change Sum.elim _ _ (bif ((pIncr m.Rivers && m.Rivers.all (pEdge m)) && (pIncr m.Roads && m.Roads.all (pEdge m))) then _ else _) = _
   cases pIncr m.Rivers <;> cases m.Rivers.all (pEdge m) <;> cases pIncr m.Roads <;> cases m.Roads.all (pEdge m) <;> rfl
  ·intro k hk
   have g1 : (([m.Rivers, m.Roads] : List (List Int)).getD k zLI).length ≤ SM := by
    rcases (show k = 0 ∨ k = 1 by omega) with rfl | rfl
    ·exact q.2.2.2.1.1
    ·exact q.2.2.2.2.1.1
   have g2 : 0 ≤ (k : Int) ∧ (k : Int) < (([m.Rivers, m.Roads] : List (List Int)).length : Int) := ⟨by omega, by simp; omega⟩
   rw [show decide ((k : Int) < (([m.Rivers, m.Roads] : List (List Int)).length : Int)) = true from decide_eq_true g2.2]
   simp only [cond_true]
   rw [if_pos g2]
   simp only [Int.toNat_natCast]
   rw [incr_eq _ g1]
   simp only [obs]
   cases pIncr (([m.Rivers, m.Roads] : List (List Int)).getD k zLI)
   ·rfl
   simp only [Bool.not_true, cond_false, Bool.true_and]
   rw [ed _ g1 hs]
   have : W ((k : Int) + 1) = ((k + 1 : Nat) : Int) := by rw [W_of (by omega)]; omega
   rw [this]
   cases (([m.Rivers, m.Roads] : List (List Int)).getD k zLI).all (pEdge m) <;> rfl
  ·rfl
 ·intro k hk
  have e6 : W ((6 : Int) - 1) = 5 := rfl
  simp only [lt_cast hk, cond_true, at_nat hk, obs, X.i_isIndex, i_in, e6, W_up hk hT]
  cases pIn m.Terrain[k] 0 5 <;> rfl
 ·simp only [nlt_self, cond_false]
noncomputable def pBoard (b : TBoard) : Bool := pRules b.Rules && (pMap b.Map && b.Map.Terrain.all fun x => pIn x 0 ((b.Rules.Terrains.length : Int) - 1))
theorem board_eq (b : TBoard) (q : smTBoard b) : X.s_bGood b = some (pBoard b) ∧ X.i_IsBoard b = some (pBoard b) := by
 have hm := mL
 have hl := q.2.1.2.2.1.1
 have hl' := hl
 unfold SM at hl'
 have hn := q.1.1.1
 unfold SM at hn
 unfold X.s_bGood X.i_IsBoard pBoard
 rw [(rules_eq _ q.1).1, (rules_eq _ q.1).2, (map_eq _ q.2.1).1, (map_eq _ q.2.1).2]
 simp only [obs]
 cases pRules b.Rules
 ·exact ⟨rfl, rfl⟩
 cases hmap : pMap b.Map
 ·exact ⟨rfl, rfl⟩
 simp only [Bool.not_true, cond_false, cond_true, Bool.true_and]
 rw [W_of (n := (b.Rules.Terrains.length : Int) - 1) (by omega), s_all _ _ _ hl]
 refine ⟨rfl, ?_⟩
 have hc : X.g_ContainsFunc_int b.Map.Terrain (fun q0 => X.i_IsBoard_1 q0 b) = some (b.Map.Terrain.any fun x => decide (x ≥ (b.Rules.Terrains.length : Int))) :=
  (hasF_eq (z := zI) (f := fun q0 => X.i_IsBoard_1 q0 b) (p := fun x => decide (x ≥ (b.Rules.Terrains.length : Int))) (by omega) (fun x _ => rfl) : _)
 rw [hc]
 simp only [obs, Option.some.injEq]
 unfold pMap at hmap
 simp only [Bool.and_eq_true] at hmap
 have h0 := hmap.2.2.2.1
 rw [Bool.eq_iff_iff]
 simp only [Bool.not_eq_true', List.any_eq_false, List.all_eq_true, decide_eq_true_eq]
 constructor
 ·intro h x hx
  have h1 := h x hx
  have h2 := List.all_eq_true.1 h0 x hx
  rw [pIn_iff] at h2 ⊢
  omega
 ·intro h x hx
  have h1 := h x hx
  rw [pIn_iff] at h1
  omega
theorem sides_of {b : TBoard} (h : pBoard b = true) : okSides b.Map ∧ ((b.Map.Terrain.length : Int) = b.Map.Width * b.Map.Height) := by
 unfold pBoard at h
 simp only [Bool.and_eq_true] at h
 have h1 := h.2.1
 unfold pMap at h1
 simp only [Bool.and_eq_true, pIn_iff, beq_iff_eq] at h1
 exact ⟨⟨h1.1.1, h1.1.2, h1.2.1.1, h1.2.1.2⟩, h1.2.2.1⟩
theorem size_of {b : TBoard} (h : pBoard b = true) : X.s_mSize b.Map = some (b.Map.Terrain.length : Int) ∧ 1 ≤ (b.Map.Terrain.length : Int) ∧ (b.Map.Terrain.length : Int) ≤ 100 := by
 obtain ⟨hs, hl⟩ := sides_of h
 obtain ⟨h1, h2, h3⟩ := size_eq _ hs
 unfold X.s_mSize
 rw [h1, hl]
 exact ⟨rfl, h2, h3⟩
theorem i_idx (i n : Int) (hn : 0 ≤ n ∧ n ≤ (SM : Int)) : X.i_isIndex i n = some (pIn i 0 (n - 1)) := by
 unfold X.i_isIndex
 unfold SM at hn
 rw [W_of (by omega), i_in]; rfl
def terr (b : TBoard) (i : Nat) : TTerrain := b.Rules.Terrains.getD (b.Map.Terrain.getD i zI).toNat zTTerrain
def pCost (b : TBoard) (kind i : Nat) : Int := (terr b i).Cost.getD kind zI
theorem kinds_of {b : TBoard} (h : pBoard b = true) : 1 ≤ b.Rules.Kinds.length ∧ b.Rules.Kinds.length ≤ 4 ∧ 1 ≤ b.Rules.Terrains.length ∧ b.Rules.Terrains.length ≤ 6 ∧ (1 ≤ b.Rules.Stack ∧ b.Rules.Stack ≤ 4) ∧ (1 ≤ b.Rules.Turns ∧ b.Rules.Turns ≤ 30) := by
 unfold pBoard pRules at h
 simp only [Bool.and_eq_true, pIn_iff] at h
 omega
theorem kind_of {b : TBoard} (h : pBoard b = true) {k : Nat} (hk : k < b.Rules.Kinds.length) : 1 ≤ (b.Rules.Kinds.getD k zTKind).Strength ∧ (b.Rules.Kinds.getD k zTKind).Strength ≤ 9 ∧ 0 ≤ (b.Rules.Kinds.getD k zTKind).Moves ∧ (b.Rules.Kinds.getD k zTKind).Moves ≤ 9 ∧
  1 ≤ (b.Rules.Kinds.getD k zTKind).Steps ∧ (b.Rules.Kinds.getD k zTKind).Steps ≤ 4 ∧ 0 ≤ (b.Rules.Kinds.getD k zTKind).View ∧ (b.Rules.Kinds.getD k zTKind).View ≤ 4 := by
 unfold pBoard pRules at h
 simp only [Bool.and_eq_true, allFrom_iff] at h
 have := h.1.2.2.2.1 k (by omega) (by omega)
 unfold qK at this
 simp only [Bool.and_eq_true, pIn_iff] at this
 omega
theorem terr_of {b : TBoard} (h : pBoard b = true) {i : Nat} (hi : i < b.Map.Terrain.length) : 0 ≤ b.Map.Terrain.getD i zI ∧ b.Map.Terrain.getD i zI < (b.Rules.Terrains.length : Int) := by
 unfold pBoard at h
 simp only [Bool.and_eq_true, List.all_eq_true, pIn_iff] at h
 have := h.2.2 _ (getD_mem (z := zI) hi)
 omega
theorem costs_of {b : TBoard} (h : pBoard b = true) {t : Nat} (ht : t < b.Rules.Terrains.length) : (b.Rules.Terrains.getD t zTTerrain).Cost.length = b.Rules.Kinds.length ∧ (∀ x ∈ (b.Rules.Terrains.getD t zTTerrain).Cost, 0 ≤ x ∧ x ≤ 9) ∧
  0 ≤ (b.Rules.Terrains.getD t zTTerrain).Height ∧ (b.Rules.Terrains.getD t zTTerrain).Height ≤ 3 ∧ -3 ≤ (b.Rules.Terrains.getD t zTTerrain).Shift ∧ (b.Rules.Terrains.getD t zTTerrain).Shift ≤ 3 := by
 unfold pBoard pRules at h
 simp only [Bool.and_eq_true, allFrom_iff] at h
 have := h.1.2.2.1 t (by omega) (by omega)
 unfold qT at this
 simp only [Bool.and_eq_true, pIn_iff, List.all_eq_true, beq_iff_eq] at this
 refine ⟨by omega, fun x hx => this.2.2.2.1 x hx, by omega, by omega, by omega, by omega⟩
theorem terr_eq {b : TBoard} (h : pBoard b = true) {i : Nat} (hi : i < b.Map.Terrain.length) : X.s_bTerrain b (i : Int) = some (terr b i) ∧ X.i_terrainAt b (i : Int) = some (terr b i) := by
 obtain ⟨h1, h2⟩ := terr_of h hi
 obtain ⟨t, ht⟩ := Int.eq_ofNat_of_zero_le h1
 have ht2 : t < b.Rules.Terrains.length := by omega
 unfold X.s_bTerrain X.i_terrainAt terr
 simp only [at_getD hi, obs, ht, at_getD ht2, Int.toNat_natCast, and_self]
theorem cost_eq {b : TBoard} (h : pBoard b = true) {k i : Nat} (hk : k < b.Rules.Kinds.length) (hi : i < b.Map.Terrain.length) :
  X.s_bCost b (k : Int) (i : Int) = some (pCost b k i) ∧ X.i_enterCost b (k : Int) (i : Int) = some (pCost b k i) ∧ 0 ≤ pCost b k i ∧ pCost b k i ≤ 9 := by
 obtain ⟨h1, h2⟩ := terr_of h hi
 obtain ⟨t, ht⟩ := Int.eq_ofNat_of_zero_le h1
 have ht2 : t < b.Rules.Terrains.length := by omega
 obtain ⟨c1, c2, _⟩ := costs_of h ht2
 have hk2 : k < (terr b i).Cost.length := by
  unfold terr
  rw [ht, Int.toNat_natCast, c1]; exact hk
 have hc : 0 ≤ pCost b k i ∧ pCost b k i ≤ 9 := by
  unfold pCost
  refine c2 _ ?_
  have := getD_mem (z := zI) hk2
  unfold terr at this ⊢
  rw [ht, Int.toNat_natCast] at this ⊢
  exact this
 unfold X.s_bCost X.i_enterCost
 rw [(terr_eq h hi).1, (terr_eq h hi).2]
 simp only [obs, at_getD hk2]
 exact ⟨rfl, rfl, hc⟩
def pUnit (b : TBoard) (u : TUnit) : Bool :=
 pIn u.Side 0 1 && (pIn u.Kind 0 ((b.Rules.Kinds.length : Int) - 1) && (pIn u.Steps 0 (b.Rules.Kinds.getD u.Kind.toNat zTKind).Steps &&
  ((u.At == -1) || (decide (u.Steps > 0) && (pIn u.At 0 ((b.Map.Terrain.length : Int) - 1) && decide (pCost b u.Kind.toNat u.At.toNat > 0))))))
theorem pUnit_iff {b : TBoard} {u : TUnit} (h : pUnit b u = true) : (u.Side = 0 ∨ u.Side = 1) ∧ 0 ≤ u.Kind ∧ u.Kind < (b.Rules.Kinds.length : Int) ∧ 0 ≤ u.Steps ∧ u.Steps ≤ (b.Rules.Kinds.getD u.Kind.toNat zTKind).Steps ∧
  (u.At = -1 ∨ (0 < u.Steps ∧ 0 ≤ u.At ∧ u.At < (b.Map.Terrain.length : Int) ∧ 0 < pCost b u.Kind.toNat u.At.toNat)) := by
 unfold pUnit at h
 simp only [Bool.and_eq_true, Bool.or_eq_true, pIn_iff, beq_iff_eq, decide_eq_true_eq] at h
 omega
theorem unit_eq {b : TBoard} (h : pBoard b = true) (u : TUnit) : X.s_sUnit b u = some (pUnit b u) ∧ X.i_goodUnit b u = some (pUnit b u) := by
 obtain ⟨g1, g2, _, _⟩ := kinds_of h
 obtain ⟨s1, s2, s3⟩ := size_of h
 unfold X.s_sUnit X.i_goodUnit pUnit X.i_isSide
 simp only [s_in, i_in, obs, i_idx _ _ (show 0 ≤ (b.Rules.Kinds.length : Int) ∧ (b.Rules.Kinds.length : Int) ≤ (SM : Int) by unfold SM; omega), W_of (n := (b.Rules.Kinds.length : Int) - 1) (by omega)]
 cases pIn u.Side 0 1
 ·exact ⟨rfl, rfl⟩
 cases hk : pIn u.Kind 0 ((b.Rules.Kinds.length : Int) - 1)
 ·exact ⟨rfl, rfl⟩
 rw [pIn_iff] at hk
 obtain ⟨k, ek⟩ := Int.eq_ofNat_of_zero_le hk.1
 have hk2 : k < b.Rules.Kinds.length := by omega
 simp only [Bool.not_true, cond_false, Bool.true_and, ek, at_getD hk2, obs, Int.toNat_natCast]
 cases pIn u.Steps 0 (b.Rules.Kinds.getD k zTKind).Steps
 ·exact ⟨rfl, rfl⟩
 cases ha : u.At == -1
 case true => exact ⟨rfl, rfl⟩
 simp only [Bool.not_true, cond_false, Bool.true_and, Bool.false_or]
 cases hst : decide (u.Steps > 0)
 ·exact ⟨rfl, rfl⟩
 simp only [cond_true, s1, X.i_sizeOf, obs, i_idx _ _ (show 0 ≤ (b.Map.Terrain.length : Int) ∧ (b.Map.Terrain.length : Int) ≤ (SM : Int) by unfold SM; omega), W_of (n := (b.Map.Terrain.length : Int) - 1) (by omega), Bool.true_and]
 cases hp : pIn u.At 0 ((b.Map.Terrain.length : Int) - 1)
 ·exact ⟨rfl, rfl⟩
 rw [pIn_iff] at hp
 obtain ⟨i, ei⟩ := Int.eq_ofNat_of_zero_le hp.1
 have hi : i < b.Map.Terrain.length := by omega
 obtain ⟨c1, c2, c3, _⟩ := cost_eq h hk2 hi
 simp only [cond_true, ei, c1, c2, obs, Bool.true_and, Int.toNat_natCast]
 refine ⟨trivial, ?_⟩
 congr 1
 rw [Bool.eq_iff_iff]
 simp only [bne_iff_ne, ne_eq, decide_eq_true_eq]
 omega
theorem limN {n : Nat} (h : n ≤ 1048576) : n + 1 ≤ LIM := by unfold LIM; omega
def pHere (us : List TUnit) (a s : Int) (k : Nat) : Bool := ((us.getD k zTUnit).At == a) && ((us.getD k zTUnit).Side == s)
theorem sAt_eq (s : TState) (a d : Int) (h : s.Units.length ≤ 1048576) : X.s_sAt s a d = some (idxs (pHere s.Units a d) s.Units.length) := by
 have hm := mL
 have h' := h
 unfold X.s_sAt
 rw [run_idxs s.Units.length (pHere s.Units a d) (fun k l => ((k : Int), l)) (fun l => l) (by rfl) ?_ ?_]
 ·intro j l hj hl
  have e : (l ++ ([(j : Int)] : List Int)).length ≤ LIM := by simp; have := limN (n := l.length) (by omega); omega
  simp only [lt_cast hj, cond_true, at_getD hj, obs, W_up hj (show s.Units.length ≤ maxLen by omega), if_pos e, pHere]
  cases ((s.Units.getD j zTUnit).At == a) <;> cases ((s.Units.getD j zTUnit).Side == d) <;> rfl
 ·intro l; simp only [nlt_self, cond_false]
def cnt (us : List TUnit) (a s : Int) (k : Nat) : Nat := (idxs (pHere us a s) k).length
theorem cnt_succ (us : List TUnit) (a s : Int) (k : Nat) : cnt us a s (k + 1) = bif pHere us a s k then cnt us a s k + 1 else cnt us a s k := by
 unfold cnt
 rw [idxs_succ]
 cases pHere us a s k <;> simp
def grid (n : Nat) (us : List TUnit) (k : Nat) : List A2_I := (List.range n).map fun i : Nat => ⟨(cnt us (i : Int) 0 k : Int), (cnt us (i : Int) 1 k : Int)⟩
theorem grid_zero (n : Nat) (us : List TUnit) : List.replicate n zA2_I = grid n us 0 := by
 unfold grid cnt
 simp only [idxs_zero, List.length_nil]
 apply List.ext_getElem
 ·simp
 ·intro i h1 h2; simp [zA2_I, zI]
theorem grid_get {n : Nat} {us : List TUnit} {k i : Nat} (h : i < n) : (grid n us k).getD i zA2_I = ⟨(cnt us (i : Int) 0 k : Int), (cnt us (i : Int) 1 k : Int)⟩ := by
 unfold grid
 simp [List.getD, h]
theorem grid_len {n : Nat} {us : List TUnit} {k : Nat} : (grid n us k).length = n := by simp [grid]
theorem grid_skip {n : Nat} {us : List TUnit} {k : Nat} (h : (us.getD k zTUnit).At < 0) : grid n us (k + 1) = grid n us k := by
 unfold grid
 apply List.map_congr_left
 intro i _
 rw [cnt_succ, cnt_succ]
 have : ∀ s, pHere us (i : Int) s k = false := fun s => by
  unfold pHere
  have : ((us.getD k zTUnit).At == (i : Int)) = false := beq_eq_false_iff_ne.2 (by omega)
  rw [this]; rfl
 rw [this, this]; rfl
theorem grid_set {n : Nat} {us : List TUnit} {k a : Nat} (h : (us.getD k zTUnit).At = (a : Int)) (ha : a < n) :
  (grid n us k).set a ⟨(cnt us (a : Int) 0 (k + 1) : Int), (cnt us (a : Int) 1 (k + 1) : Int)⟩ = grid n us (k + 1) := by
 apply List.ext_getElem
 ·simp [grid]
 ·intro i h1 h2
  rw [List.getElem_set]
  by_cases e : a = i
  ·subst e; simp [grid]
  ·simp only [e, if_false]
   simp only [grid, List.getElem_map, List.getElem_range]
   have : ∀ s, pHere us (i : Int) s k = false := fun s => by
    unfold pHere
    have : ((us.getD k zTUnit).At == (i : Int)) = false := beq_eq_false_iff_ne.2 (by rw [h]; omega)
    rw [this]; rfl
   rw [cnt_succ, cnt_succ, this, this]; rfl
def pPlace (b : TBoard) (us : List TUnit) (k m : Nat) : Bool :=
 decide ((us.getD k zTUnit).At < 0) || (decide (cnt us (us.getD k zTUnit).At (1 - (us.getD k zTUnit).Side) m = 0) && decide ((cnt us (us.getD k zTUnit).At (us.getD k zTUnit).Side m : Int) ≤ b.Rules.Stack))
def pState (b : TBoard) (s : TState) : Bool :=
 pIn s.Turn 0 b.Rules.Turns && (pIn s.Weather 0 2 && (!(decide ((s.Units.length : Int) > 12)) && (allFrom s.Units.length 0 (fun k => pUnit b (s.Units.getD k zTUnit)) && allFrom s.Units.length 0 (fun k => pPlace b s.Units k s.Units.length))))
theorem place_eq (b : TBoard) (us : List TUnit) (hu : ∀ k, k < us.length → (us.getD k zTUnit).Side = 0 ∨ (us.getD k zTUnit).Side = 1) :
  allFrom us.length 0 (fun k => pPlace b us k (k + 1)) = allFrom us.length 0 (fun k => pPlace b us k us.length) := by
 rw [Bool.eq_iff_iff, allFrom_iff, allFrom_iff]
 unfold pPlace
 simp only [Bool.or_eq_true, Bool.and_eq_true, decide_eq_true_eq, Nat.zero_add]
 constructor
 ·intro h j _ hj
  by_cases ha : (us.getD j zTUnit).At < 0
  ·exact .inl ha
  right
  constructor
  ·unfold cnt
   rw [idxs_nil]
   intro i hi
   cases hp : pHere us (us.getD j zTUnit).At (1 - (us.getD j zTUnit).Side) i with
   | false => rfl
   | true =>
    exfalso
    unfold pHere at hp
    simp only [Bool.and_eq_true, beq_iff_eq] at hp
    by_cases hij : i < j
    ·rcases h j (by omega) hj with g | ⟨g, _⟩
     ·exact ha g
     ·unfold cnt at g
      rw [idxs_nil] at g
      have := g i (by omega)
      unfold pHere at this
      rw [hp.1, hp.2] at this
      simp at this
    ·have hij' : i ≠ j := by
      intro e; subst e
      have := hu i hi
      omega
     rcases h i (by omega) hi with g | ⟨g, _⟩
     ·omega
     ·unfold cnt at g
      rw [idxs_nil] at g
      have := g j (by omega)
      unfold pHere at this
      have e2 : 1 - (us.getD i zTUnit).Side = (us.getD j zTUnit).Side := by have := hu j hj; omega
      rw [hp.1, e2] at this
      simp at this
  ·
   have key : ∀ m, m ≤ us.length → j < m → (cnt us (us.getD j zTUnit).At (us.getD j zTUnit).Side m : Int) ≤ b.Rules.Stack := by
    intro m
    induction m with
    | zero => intro _ h2; omega
    | succ m ih =>
     intro h1 h2
     rw [cnt_succ]
     cases hp : pHere us (us.getD j zTUnit).At (us.getD j zTUnit).Side m with
     | true =>
      have hp' := hp
      unfold pHere at hp
      simp only [Bool.and_eq_true, beq_iff_eq] at hp
      rcases h m (by omega) (by omega) with g | ⟨_, g⟩
      ·omega
      ·rw [hp.1, hp.2, cnt_succ, hp'] at g
       exact g
     | false =>
      simp only [cond_false]
      by_cases e : j = m
      ·subst e
       unfold pHere at hp
       simp at hp
      ·exact ih (by omega) (by omega)
   exact key us.length (Nat.le_refl _) hj
 ·intro h j h0 hj
  rcases h j h0 hj with g | ⟨g1, g2⟩
  ·exact .inl g
  ·right
   constructor
   ·have := idxs_mono (p := pHere us (us.getD j zTUnit).At (1 - (us.getD j zTUnit).Side)) (show j + 1 ≤ us.length by omega)
    unfold cnt at g1 ⊢
    omega
   ·have := idxs_mono (p := pHere us (us.getD j zTUnit).At (us.getD j zTUnit).Side) (show j + 1 ≤ us.length by omega)
    unfold cnt at g2 ⊢
    omega
theorem grid_round {n : Nat} {us : List TUnit} {k a : Nat} (hk : us.length ≤ SM) (hk2 : k < us.length) (ha : (us.getD k zTUnit).At = (a : Int)) (han : a < n) :
  ((us.getD k zTUnit).Side = 0 → (grid n us k).set a (A2_I.mk (W (((grid n us k).getD a zA2_I).a0 + 1)) (((grid n us k).getD a zA2_I).a1)) = grid n us (k + 1)) ∧
  ((us.getD k zTUnit).Side = 1 → (grid n us k).set a (A2_I.mk (((grid n us k).getD a zA2_I).a0) (W (((grid n us k).getD a zA2_I).a1 + 1))) = grid n us (k + 1)) := by
 unfold SM at hk
 have l0 : cnt us (a : Int) 0 k ≤ k := idxs_len _ k
 have l1 : cnt us (a : Int) 1 k ≤ k := idxs_len _ k
 constructor
 ·intro hs
  rw [grid_get han, ← grid_set ha han]
  have p0 : pHere us (a : Int) 0 k = true := by unfold pHere; rw [ha, hs]; simp
  have p1 : pHere us (a : Int) 1 k = false := by unfold pHere; rw [hs]; simp
  rw [cnt_succ, cnt_succ, p0, p1]
  simp only [cond_true, cond_false]
  rw [W_of (by omega)]
  rfl
 ·intro hs
  rw [grid_get han, ← grid_set ha han]
  have p0 : pHere us (a : Int) 0 k = false := by unfold pHere; rw [hs]; simp
  have p1 : pHere us (a : Int) 1 k = true := by unfold pHere; rw [ha, hs]; simp
  rw [cnt_succ, cnt_succ, p0, p1]
  simp only [cond_true, cond_false]
  rw [W_of (n := (cnt us (a : Int) 1 k : Int) + 1) (by omega)]
  rfl
theorem state_eq {b : TBoard} (h : pBoard b = true) (q : smTBoard b) (s : TState) (qs : smTState s) : X.s_sGood b s = some (pState b s) ∧ X.i_goodState b s = some (pState b s) := by
 have hm := mL
 obtain ⟨g1, g2, _, _, g3, _⟩ := kinds_of h
 obtain ⟨s1, s2, s3⟩ := size_of h
 have hU := qs.2.2.1.1
 have hU' := hU
 unfold SM at hU'
 constructor
 ·unfold X.s_sGood pState
  rw [(board_eq b q).1, h]
  simp only [obs, Bool.not_true, cond_false, s_in]
  cases pIn s.Turn 0 b.Rules.Turns
  ·rfl
  cases pIn s.Weather 0 2
  ·rfl
  cases h12 : decide ((s.Units.length : Int) > 12)
  case true => rfl
  have h12' : ¬ (s.Units.length : Int) > 12 := of_decide_eq_false h12
  simp only [Bool.not_true, Bool.not_false, cond_false, Bool.true_and]
  rw [run_allN s.Units.length (fun k => pUnit b (s.Units.getD k zTUnit)) (.inr false) (.inl ()) ?_ ?_]
  ·cases hall : allFrom s.Units.length 0 (fun k => pUnit b (s.Units.getD k zTUnit))
   ·rfl
   simp only [cond_true, Sum.elim_inl, Bool.true_and]
   rw [run_allN s.Units.length (fun k => pPlace b s.Units k s.Units.length) (.inr false) (.inl ()) ?_ ?_]
   ·cases allFrom s.Units.length 0 (fun k => pPlace b s.Units k s.Units.length) <;> rfl
   ·intro k hk
    have hu := pUnit_iff ((allFrom_iff _ _).1 hall k (by omega) (by omega))
    have e1 : W (1 - (s.Units.getD k zTUnit).Side) = 1 - (s.Units.getD k zTUnit).Side := W_of (by omega)
    simp only [lt_cast hk, cond_true, at_getD hk, obs, W_up hk (show s.Units.length ≤ maxLen by omega), e1, sAt_eq s _ _ (by omega)]
    unfold pPlace
    by_cases hA : (s.Units.getD k zTUnit).At < 0
    ·have hA' : ¬ (s.Units.getD k zTUnit).At ≥ 0 := by omega
     simp only [hA, hA', decide_true, decide_false, cond_false, Bool.true_or, cond_true]
    ·have hA' : (s.Units.getD k zTUnit).At ≥ 0 := by omega
     simp only [hA, hA', decide_true, decide_false, cond_true, Bool.false_or]
     change (bif decide ((cnt s.Units (s.Units.getD k zTUnit).At (1 - (s.Units.getD k zTUnit).Side) s.Units.length : Int) > 0) then _ else bif decide ((cnt s.Units (s.Units.getD k zTUnit).At (s.Units.getD k zTUnit).Side s.Units.length : Int) > b.Rules.Stack) then _ else _) = _
     by_cases c1 : cnt s.Units (s.Units.getD k zTUnit).At (1 - (s.Units.getD k zTUnit).Side) s.Units.length = 0
     ·have c1' : ¬ (cnt s.Units (s.Units.getD k zTUnit).At (1 - (s.Units.getD k zTUnit).Side) s.Units.length : Int) > 0 := by omega
      simp only [c1', decide_false, cond_false]
      simp only [c1, decide_true, Bool.true_and]
      by_cases c2 : (cnt s.Units (s.Units.getD k zTUnit).At (s.Units.getD k zTUnit).Side s.Units.length : Int) ≤ b.Rules.Stack
      ·have c2' : ¬ (cnt s.Units (s.Units.getD k zTUnit).At (s.Units.getD k zTUnit).Side s.Units.length : Int) > b.Rules.Stack := by omega
       simp only [c2, c2', decide_true, decide_false, cond_true, cond_false]
      ·have c2' : (cnt s.Units (s.Units.getD k zTUnit).At (s.Units.getD k zTUnit).Side s.Units.length : Int) > b.Rules.Stack := by omega
       simp only [c2, c2', decide_true, decide_false, cond_true, cond_false]
     ·have c1' : (cnt s.Units (s.Units.getD k zTUnit).At (1 - (s.Units.getD k zTUnit).Side) s.Units.length : Int) > 0 := by omega
      simp only [c1, c1', decide_true, decide_false, cond_true, cond_false, Bool.false_and]
   ·simp only [nlt_self, cond_false]
  ·intro k hk
   simp only [lt_cast hk, cond_true, at_getD hk, obs, (unit_eq h _).1, W_up hk (show s.Units.length ≤ maxLen by omega)]
   cases pUnit b (s.Units.getD k zTUnit) <;> rfl
  ·simp only [nlt_self, cond_false]
 ·have hq : allFrom s.Units.length 0 (fun k => pUnit b (s.Units.getD k zTUnit) && pPlace b s.Units k (k + 1)) =
    (allFrom s.Units.length 0 (fun k => pUnit b (s.Units.getD k zTUnit)) && allFrom s.Units.length 0 (fun k => pPlace b s.Units k s.Units.length)) := by
   rw [allFrom_and]
   cases hall : allFrom s.Units.length 0 (fun k => pUnit b (s.Units.getD k zTUnit))
   ·rfl
   ·rw [place_eq]
    intro k hk
    exact (pUnit_iff ((allFrom_iff _ _).1 hall k (by omega) (by omega))).1
  unfold X.i_goodState pState
  rw [← hq]
  simp only [i_in, obs, X.i_sizeOf]
  cases pIn s.Turn 0 b.Rules.Turns
  ·rfl
  cases pIn s.Weather 0 2
  ·rfl
  cases h12 : decide ((s.Units.length : Int) > 12)
  case true => rfl
  have h12' : ¬ (s.Units.length : Int) > 12 := of_decide_eq_false h12
  simp only [Bool.not_true, Bool.not_false, cond_false, Bool.true_and]
  have hlim : 0 ≤ (b.Map.Terrain.length : Int) ∧ (b.Map.Terrain.length : Int).toNat ≤ LIM := by unfold LIM; omega
  rw [if_pos hlim, Int.toNat_natCast]
  rw [run_allSt s.Units.length (fun k => pUnit b (s.Units.getD k zTUnit) && pPlace b s.Units k (k + 1)) (fun k => ((k : Int), grid b.Map.Terrain.length s.Units k)) (.inr false) (.inl ()) (by rw [grid_zero]; rfl) ?_ ?_]
  ·cases allFrom s.Units.length 0 (fun k => pUnit b (s.Units.getD k zTUnit) && pPlace b s.Units k (k + 1)) <;> rfl
  ·intro k hk
   simp only [lt_cast hk, cond_true, at_getD hk, obs, (unit_eq h _).2, W_up hk (show s.Units.length ≤ maxLen by omega)]
   cases hu : pUnit b (s.Units.getD k zTUnit)
   ·rfl
   simp only [Bool.not_true, cond_false, Bool.true_and]
   obtain ⟨hside, _, _, _, _, hat⟩ := pUnit_iff hu
   rcases hat with hat | ⟨_, hat0, hat1, _⟩
   ·have hA : (s.Units.getD k zTUnit).At < 0 := by omega
    simp only [hA, decide_true, cond_true, pPlace, Bool.true_or, grid_skip hA]
   ·have hA : ¬ (s.Units.getD k zTUnit).At < 0 := by omega
    obtain ⟨a, ha⟩ := Int.eq_ofNat_of_zero_le hat0
    have han : a < b.Map.Terrain.length := by omega
    obtain ⟨r0, r1⟩ := grid_round hU hk ha han
    simp only [pPlace, hA, decide_false, cond_false, Bool.false_or]
    rw [if_pos ⟨hat0, by rw [grid_len]; exact hat1⟩]
    have w1 : W (1 - 0) = 1 := rfl
    have w0 : W (1 - 1) = 0 := rfl
    have n10 : ¬ ((1 : Int) = ((0 : Nat) : Int)) := by decide
    have e00 : (0 : Int) = ((0 : Nat) : Int) := rfl
    have e11 : (1 : Int) = ((1 : Nat) : Int) := rfl
    have n01 : ¬ ((0 : Int) = ((1 : Nat) : Int)) := by decide
    rcases hside with hs | hs
    ·have r0 := r0 hs
     rw [ha, Int.toNat_natCast, r0, hs, w1, if_pos e00, if_neg n10, if_pos e11, grid_get han]
     by_cases c1 : cnt s.Units (a : Int) 1 (k + 1) = 0
     ·have c1' : ¬ (cnt s.Units (a : Int) 1 (k + 1) : Int) > 0 := by omega
      have e10 : (1 : Int) - 0 = 1 := rfl
      simp only [decide_eq_false c1', e10, decide_eq_true c1, cond_false, Bool.true_and]
      by_cases c2 : (cnt s.Units (a : Int) 0 (k + 1) : Int) ≤ b.Rules.Stack
      ·have c2' : ¬ (cnt s.Units (a : Int) 0 (k + 1) : Int) > b.Rules.Stack := by omega
       simp only [c2, c2', decide_true, decide_false, cond_true, cond_false]
      ·have c2' : (cnt s.Units (a : Int) 0 (k + 1) : Int) > b.Rules.Stack := by omega
       simp only [c2, c2', decide_true, decide_false, cond_true, cond_false]
     ·have c1' : (cnt s.Units (a : Int) 1 (k + 1) : Int) > 0 := by omega
      have e10 : (1 : Int) - 0 = 1 := rfl
      simp only [decide_eq_true c1', cond_true, e10, decide_eq_false c1, Bool.false_and, cond_false]
    ·have r1 := r1 hs
     rw [ha, Int.toNat_natCast, r1, hs, w0, if_neg n10, if_pos e11, if_pos e00, grid_get han]
     by_cases c1 : cnt s.Units (a : Int) 0 (k + 1) = 0
     ·have c1' : ¬ (cnt s.Units (a : Int) 0 (k + 1) : Int) > 0 := by omega
      have e10 : (1 : Int) - 1 = 0 := rfl
      simp only [decide_eq_false c1', e10, decide_eq_true c1, cond_false, Bool.true_and]
      by_cases c2 : (cnt s.Units (a : Int) 1 (k + 1) : Int) ≤ b.Rules.Stack
      ·have c2' : ¬ (cnt s.Units (a : Int) 1 (k + 1) : Int) > b.Rules.Stack := by omega
       simp only [c2, c2', decide_true, decide_false, cond_true, cond_false]
      ·have c2' : (cnt s.Units (a : Int) 1 (k + 1) : Int) > b.Rules.Stack := by omega
       simp only [c2, c2', decide_true, decide_false, cond_true, cond_false]
     ·have c1' : (cnt s.Units (a : Int) 0 (k + 1) : Int) > 0 := by omega
      have e10 : (1 : Int) - 1 = 0 := rfl
      simp only [decide_eq_true c1', cond_true, e10, decide_eq_false c1, Bool.false_and, cond_false]
  ·simp only [nlt_self, cond_false]
theorem s_fits_eq {b : TBoard} (q : smTBoard b) (s : TState) (qs : smTState s) : X.s_sGood b s = some (pBoard b && pState b s) := by
 cases h : pBoard b
 ·unfold X.s_sGood
  rw [(board_eq b q).1, h]
  rfl
 ·rw [(state_eq h q s qs).1]
  rfl
theorem i_fits_eq {b : TBoard} (q : smTBoard b) (s : TState) (qs : smTState s) : X.i_fits b s = some (pBoard b && pState b s) := by
 unfold X.i_fits
 cases h : pBoard b
 ·rw [(board_eq b q).2, h]
  rfl
 ·rw [(state_eq h q s qs).2, (board_eq b q).2, h]
  rfl
theorem fits_eq {b : TBoard} (q : smTBoard b) (s : TState) (qs : smTState s) : X.s_sGood b s = some (pBoard b && pState b s) ∧ X.i_fits b s = some (pBoard b && pState b s) := ⟨s_fits_eq q s qs, i_fits_eq q s qs⟩
theorem unit_of {b : TBoard} {s : TState} (h : pState b s = true) {k : Nat} (hk : k < s.Units.length) : pUnit b (s.Units.getD k zTUnit) = true := by
 unfold pState at h
 simp only [Bool.and_eq_true, allFrom_iff] at h
 exact h.2.2.2.1 k (by omega) (by omega)
theorem units_of {b : TBoard} {s : TState} (h : pState b s = true) : s.Units.length ≤ 12 := by
 unfold pState at h
 simp only [Bool.and_eq_true, Bool.not_eq_true', decide_eq_false_iff_not] at h
 have := h.2.2.1
 omega
theorem has_eq (l : List Int) (x : Int) (h : l.length ≤ maxLen) : X.s_l1Has l x = some (l.any fun v => v == x) := by
 unfold X.s_l1Has
 rw [run_all l (fun v => !(v == x)) (.inr true) (.inl ()) rfl ?_ ?_]
 ·rw [List.any_eq_not_all_not]
  cases l.all fun v => !(v == x) <;> rfl
 ·intro k hk
  simp only [lt_cast hk, cond_true, at_nat hk, obs, W_up hk h]
  cases l[k] == x <;> rfl
 ·simp only [nlt_self, cond_false]
theorem any_comm (l : List Int) (e : Int) : (l.any fun v => e == v) = l.any fun v => v == e := by
 congr 1
 funext x
 rw [Bool.eq_iff_iff]; simp only [beq_iff_eq]; exact eq_comm
def pHex (m : TMap) (i : Int) : THex := ⟨i % m.Width, i / m.Width⟩
theorem hexAt_eq {m : TMap} (h : okSides m) {i : Int} (hi : 0 ≤ i ∧ i < m.Width * m.Height) : X.s_mHex m i = some (pHex m i) ∧ X.i_hexOf m i = some (pHex m i) ∧ (0 ≤ (pHex m i).Q ∧ (pHex m i).Q < 10) ∧ (0 ≤ (pHex m i).R ∧ (pHex m i).R < 10) := by
 obtain ⟨h5, h6, h7⟩ := size_eq m h
 obtain ⟨h1, h2, h3, h4⟩ := h
 have hne : m.Width ≠ 0 := by omega
 have hm1 : 0 ≤ i % m.Width := Int.emod_nonneg _ hne
 have hm2 : i % m.Width < m.Width := Int.emod_lt_of_pos _ (by omega)
 have hd1 : 0 ≤ i / m.Width := Int.ediv_nonneg hi.1 (by omega)
 have hd2 : i / m.Width < m.Height := Int.ediv_lt_of_lt_mul (by omega) (by rw [Int.mul_comm]; exact hi.2)
 unfold X.s_mHex X.i_hexOf pHex
 rw [if_pos hne, if_pos hne, tmod_nn hi.1 h1, tdiv_nn hi.1, W_of (n := i / m.Width) (by omega)]
 exact ⟨rfl, rfl, ⟨hm1, by show i % m.Width < 10; omega⟩, ⟨hd1, by show i / m.Width < 10; omega⟩⟩
def pAbs (x : Int) : Int := if x < 0 then -x else x
theorem abs_eq (x : Int) (h : -4611686018427387904 < x ∧ x < 4611686018427387904) : X.s_l1Abs x = some (pAbs x) ∧ X.i_absOf x = some (pAbs x) := by
 unfold X.s_l1Abs X.i_absOf X.s_l1Most pAbs
 rw [W_of (n := 0 - x) (by omega)]
 by_cases hx : x < 0
 ·have : ¬ x > 0 - x := by omega
  rw [if_pos hx, decide_eq_true hx, decide_eq_false this]
  have e : 0 - x = -x := by omega
  rw [e]; exact ⟨rfl, rfl⟩
 ·rw [if_neg hx, decide_eq_false hx]
  by_cases h2 : x > 0 - x
  ·rw [decide_eq_true h2]; exact ⟨rfl, rfl⟩
  ·rw [decide_eq_false h2]
   have e : 0 - x = x := by omega
   rw [e]; exact ⟨rfl, rfl⟩
def pDist (a b : THex) : Int := (pAbs (b.Q - a.Q) + pAbs (b.R - a.R) + pAbs (b.Q - a.Q + (b.R - a.R))) / 2
theorem dist_eq {a b : THex} (ha : (-100 ≤ a.Q ∧ a.Q < 100) ∧ (-100 ≤ a.R ∧ a.R < 100)) (hb : (-100 ≤ b.Q ∧ b.Q < 100) ∧ (-100 ≤ b.R ∧ b.R < 100)) : X.s_hDistance a b = some (pDist a b) ∧ X.i_distance a b = some (pDist a b) ∧ 0 ≤ pDist a b ∧ pDist a b ≤ 1000 := by
 have b1 : 0 ≤ pAbs (b.Q - a.Q) ∧ pAbs (b.Q - a.Q) ≤ 200 := by unfold pAbs; split <;> omega
 have b2 : 0 ≤ pAbs (b.R - a.R) ∧ pAbs (b.R - a.R) ≤ 200 := by unfold pAbs; split <;> omega
 have b3 : 0 ≤ pAbs (b.Q - a.Q + (b.R - a.R)) ∧ pAbs (b.Q - a.Q + (b.R - a.R)) ≤ 400 := by unfold pAbs; split <;> omega
 unfold X.s_hDistance X.i_distance pDist
 rw [W_of (n := b.Q - a.Q) (by omega), W_of (n := b.R - a.R) (by omega), W_of (n := b.Q - a.Q + (b.R - a.R)) (by omega)]
 rw [(abs_eq _ (show -4611686018427387904 < b.Q - a.Q ∧ b.Q - a.Q < 4611686018427387904 by omega)).1, (abs_eq _ (show -4611686018427387904 < b.Q - a.Q ∧ b.Q - a.Q < 4611686018427387904 by omega)).2,
  (abs_eq _ (show -4611686018427387904 < b.R - a.R ∧ b.R - a.R < 4611686018427387904 by omega)).1, (abs_eq _ (show -4611686018427387904 < b.R - a.R ∧ b.R - a.R < 4611686018427387904 by omega)).2,
  (abs_eq _ (show -4611686018427387904 < b.Q - a.Q + (b.R - a.R) ∧ b.Q - a.Q + (b.R - a.R) < 4611686018427387904 by omega)).1, (abs_eq _ (show -4611686018427387904 < b.Q - a.Q + (b.R - a.R) ∧ b.Q - a.Q + (b.R - a.R) < 4611686018427387904 by omega)).2]
 simp only [obs]
 rw [W_of (n := pAbs (b.Q - a.Q) + pAbs (b.R - a.R)) (by omega), W_of (n := pAbs (b.Q - a.Q) + pAbs (b.R - a.R) + pAbs (b.Q - a.Q + (b.R - a.R))) (by omega), tdiv_nn (by omega), W_of (by omega)]
 exact ⟨rfl, rfl, by omega, by omega⟩
def pOf (us : List TUnit) (d : Int) (k : Nat) : Bool := ((us.getD k zTUnit).Side == d) && decide ((us.getD k zTUnit).At ≥ 0)
theorem sOf_eq (s : TState) (d : Int) (h : s.Units.length ≤ 1048576) : X.s_sOf s d = some (idxs (pOf s.Units d) s.Units.length) := by
 have hm := mL
 have h' := h
 unfold X.s_sOf
 rw [run_idxs s.Units.length (pOf s.Units d) (fun k l => ((k : Int), l)) (fun l => l) (by rfl) ?_ ?_]
 ·intro j l hj hl
  have e : (l ++ ([(j : Int)] : List Int)).length ≤ LIM := by simp; have := limN (n := l.length) (by omega); omega
  simp only [lt_cast hj, cond_true, at_getD hj, obs, W_up hj (show s.Units.length ≤ maxLen by omega), if_pos e, pOf]
  cases ((s.Units.getD j zTUnit).Side == d) <;> cases decide ((s.Units.getD j zTUnit).At ≥ 0) <;> rfl
 ·intro l; simp only [nlt_self, cond_false]
theorem side_eq {b : TBoard} (q : smTBoard b) (s : TState) (qs : smTState s) (d : Int) : X.s_fgSide b s d = some ((pBoard b && pState b s) && pIn d 0 1) ∧ X.i_isLook b s d = some ((pBoard b && pState b s) && pIn d 0 1) := by
 unfold X.s_fgSide X.i_isLook X.i_isSide
 rw [(fits_eq q s qs).1, (fits_eq q s qs).2]
 simp only [obs, s_in, i_in]
 cases pBoard b && pState b s <;> exact ⟨rfl, rfl⟩
theorem limL {n : Nat} (h : n ≤ 1048576) : n + 1 ≤ LIM := by unfold LIM; omega
theorem hexes_eq {b : TBoard} (hl : b.Map.Terrain.length ≤ 1048576) {f : Int → Option Bool} {p : Nat → Bool} (hf : ∀ j, j < b.Map.Terrain.length → f (j : Int) = some (p j)) : X.i_hexesThat b f = some (idxs p b.Map.Terrain.length) := by
 have hm := mL
 unfold X.i_hexesThat
 rw [run_idxs b.Map.Terrain.length p (fun k l => ((k : Int), l)) (fun l => l) (by rfl) ?_ ?_]
 ·intro j l hj hl'
  have e : (l ++ ([(j : Int)] : List Int)).length ≤ LIM := by simp; exact limL (by omega)
  simp only [lt_cast hj, cond_true, hf j hj, obs, W_up hj (show b.Map.Terrain.length ≤ maxLen by omega), if_pos e]
  cases p j <;> rfl
 ·intro l; simp only [nlt_self, cond_false]
theorem run_map {α β σ ρ γ : Type} {body : σ → Option (σ ⊕ ρ)} {f : ρ → Option γ} {s : σ} (xs : List α) (g : α → β) (st : Nat → List β → σ) (fin : List β → ρ) (h0 : s = st 0 [])
  (hs : ∀ j a (hj : j < xs.length), a.length = j → body (st j a) = some (.inl (st (j + 1) (a ++ [g xs[j]])))) (he : ∀ a, body (st xs.length a) = some (.inr (fin a))) : (loop body s).bind f = f (fin (xs.map g)) := by
 rw [run_st xs.length (fun k => st k ((xs.take k).map g)) (fin (xs.map g)) (by rw [h0]; rfl) ?_ ?_]
 ·intro k hk
  rw [hs k _ hk (by simp; omega), List.take_succ_eq_append_getElem hk, List.map_append]
  rfl
 ·rw [List.take_length, he]
def farI (q r n : Int) (h : THex) : Int := (n * h.Q - q) * (n * h.Q - q) + (n * h.Q - q) * (n * h.R - r) + (n * h.R - r) * (n * h.R - r)
def nst (q r n : Int) (p : Int × List THex) (h : THex) : Int × List THex :=
 bif decide (p.1 < 0) || decide (farI q r n h < p.1) then (farI q r n h, [h]) else bif farI q r n h == p.1 then (p.1, p.2 ++ [h]) else p
theorem sq_nn (a : Int) : 0 ≤ a * a := by
 rcases Int.le_total 0 a with h | h
 ·exact Int.mul_nonneg h h
 ·exact Int.mul_nonneg_of_nonpos_of_nonpos h h
theorem far_nn (q r n : Int) (h : THex) : 0 ≤ farI q r n h := by
 unfold farI
 generalize n * h.Q - q = a
 generalize n * h.R - r = b
 have e : 4 * (a * a + a * b + b * b) = (2 * a + b) * (2 * a + b) + 3 * (b * b) := by grind
 have h1 := sq_nn (2 * a + b)
 have h2 := sq_nn b
 omega
def Near (q r n : Int) (P : List THex) (p : Int × List THex) : Prop :=
 (P = [] ∧ p = (-1, [])) ∨ (P ≠ [] ∧ (∀ h ∈ P, p.1 ≤ farI q r n h) ∧ (∃ h ∈ P, farI q r n h = p.1) ∧ p.2 = P.filter fun h => farI q r n h == p.1)
theorem near_step {q r n : Int} {P : List THex} {p : Int × List THex} (H : Near q r n P p) (h : THex) : Near q r n (P ++ [h]) (nst q r n p h) := by
 have hn := far_nn q r n h
 refine .inr ⟨by simp, ?_⟩
 rcases H with ⟨rfl, rfl⟩ | ⟨_, h1, ⟨g, hg, h2⟩, h3⟩
 ·have e : nst q r n (-1, []) h = (farI q r n h, [h]) := by simp [nst]
  rw [e]
  simp
 ·have hp : 0 ≤ p.1 := by rw [← h2]; exact far_nn q r n g
  have d0 : decide (p.1 < 0) = false := decide_eq_false (by omega)
  unfold nst
  simp only [d0, Bool.false_or]
  by_cases c1 : farI q r n h < p.1
  ·simp only [decide_eq_true c1, cond_true]
   refine ⟨fun x hx => ?_, ⟨h, by simp, rfl⟩, ?_⟩
   ·rcases List.mem_append.1 hx with hx | hx
    ·exact Int.le_trans (Int.le_of_lt c1) (h1 x hx)
    ·simp only [List.mem_singleton] at hx; subst hx; exact Int.le_refl _
   ·rw [List.filter_append]
    have : (P.filter fun x => farI q r n x == farI q r n h) = [] := by
     rw [List.filter_eq_nil_iff]
     intro x hx e
     have := h1 x hx
     rw [beq_iff_eq] at e
     omega
    rw [this]; simp
  ·simp only [decide_eq_false c1, cond_false]
   by_cases c2 : farI q r n h = p.1
   ·have c2' : (farI q r n h == p.1) = true := beq_iff_eq.2 c2
    simp only [c2', cond_true]
    refine ⟨fun x hx => ?_, ⟨g, by simp [hg], h2⟩, ?_⟩
    ·rcases List.mem_append.1 hx with hx | hx
     ·exact h1 x hx
     ·simp only [List.mem_singleton] at hx; subst hx; omega
    ·rw [List.filter_append, ← h3]; simp [c2]
   ·have c2' : (farI q r n h == p.1) = false := beq_eq_false_iff_ne.2 c2
    simp only [c2', cond_false]
    refine ⟨fun x hx => ?_, ⟨g, by simp [hg], h2⟩, ?_⟩
    ·rcases List.mem_append.1 hx with hx | hx
     ·exact h1 x hx
     ·simp only [List.mem_singleton] at hx; subst hx; omega
    ·rw [List.filter_append, ← h3]; simp [c2]
theorem near_fold {q r n : Int} : ∀ (L P : List THex) {p : Int × List THex}, Near q r n P p → Near q r n (P ++ L) (L.foldl (nst q r n) p)
 | [], P, p, H => by simpa using H
 | h :: L, P, p, H => by
  have := near_fold L (P ++ [h]) (near_step H h)
  rw [List.append_assoc] at this
  exact this
theorem near_min {q r n m : Int} {L : List THex} (h1 : ∀ h ∈ L, m ≤ farI q r n h) (h2 : ∃ h ∈ L, farI q r n h = m) : (L.foldl (nst q r n) (-1, [])).2 = L.filter fun h => farI q r n h == m := by
 have H := near_fold (q := q) (r := r) (n := n) L [] (.inl ⟨rfl, rfl⟩)
 rw [List.nil_append] at H
 obtain ⟨g, hg, e⟩ := h2
 rcases H with ⟨rfl, _⟩ | ⟨_, a1, ⟨x, hx, a2⟩, a3⟩
 ·cases hg
 ·have : (L.foldl (nst q r n) (-1, [])).1 = m := by
   have b1 := h1 x hx
   have b2 := a1 g hg
   omega
  rw [a3, this]
theorem nst_len (q r n : Int) (p : Int × List THex) (h : THex) : (nst q r n p h).2.length ≤ p.2.length + 1 := by
 unfold nst
 cases decide (p.1 < 0) || decide (farI q r n h < p.1)
 ·cases farI q r n h == p.1
  ·simp
  ·simp
 ·simp
theorem nsts_len (q r n : Int) : ∀ (L : List THex) (p : Int × List THex), (L.foldl (nst q r n) p).2.length ≤ p.2.length + L.length
 | [], p => by simp
 | h :: L, p => by
  have a := nsts_len q r n L (nst q r n p h)
  have b := nst_len q r n p h
  simp only [List.foldl_cons, List.length_cons]
  omega
def col (x y : Int) (k : Nat) : List THex := (List.range k).map fun l : Nat => ⟨x, y + (l : Int)⟩
def win (x y : Int) (k : Nat) : List THex := (List.range k).flatMap fun i : Nat => col (x + (i : Int)) y 4
theorem win_mem {x y : Int} {h : THex} (hh : h ∈ win x y 4) : ∃ k l : Nat, k < 4 ∧ l < 4 ∧ h = ⟨x + (k : Int), y + (l : Int)⟩ := by
 unfold win col at hh
 simp only [List.mem_flatMap, List.mem_range, List.mem_map] at hh
 obtain ⟨k, hk, l, hl, e⟩ := hh
 exact ⟨k, l, hk, hl, e.symm⟩
theorem mem_win {x y : Int} {k l : Nat} (hk : k < 4) (hl : l < 4) : (⟨x + (k : Int), y + (l : Int)⟩ : THex) ∈ win x y 4 := by
 unfold win col
 simp only [List.mem_flatMap, List.mem_range, List.mem_map]
 exact ⟨k, hk, l, hl, rfl⟩
theorem win_filter {x y : Int} {f : THex → Bool} (v : Nat → Nat → Bool) (h : ∀ k l : Nat, k < 4 → l < 4 → f ⟨x + (k : Int), y + (l : Int)⟩ = v k l) :
  (win x y 4).filter f = (List.range 4).flatMap fun k : Nat => ((List.range 4).filter (v k)).map fun l : Nat => ⟨x + (k : Int), y + (l : Int)⟩ := by
 unfold win col
 rw [List.filter_flatMap]
 have e : ∀ L : List Nat, (∀ k ∈ L, k < 4) → (L.flatMap fun a : Nat => List.filter f ((List.range 4).map fun l : Nat => (⟨x + (a : Int), y + (l : Int)⟩ : THex))) = L.flatMap fun k : Nat => ((List.range 4).filter (v k)).map fun l : Nat => ⟨x + (k : Int), y + (l : Int)⟩ := by
  intro L
  induction L with
  | nil => intro _; rfl
  | cons a L ih =>
   intro hL
   rw [List.flatMap_cons, List.flatMap_cons, ih fun k hk => hL k (by simp [hk]), List.filter_map]
   congr 2
   apply List.filter_congr
   intro l hl
   exact h a l (hL a (by simp)) (List.mem_range.1 hl)
 exact e _ fun k hk => List.mem_range.1 hk
theorem lt4 {k : Nat} (h : k < 4) : k = 0 ∨ k = 1 ∨ k = 2 ∨ k = 3 := by omega
def nr (m n : Int) : List Int := if 2 * (m % n) < n then [m / n] else if 2 * (m % n) > n then [m / n + 1] else [m / n, m / n + 1]
def near (q r n : Int) : List THex :=
 if q % n = 0 then (nr r n).map fun y => ⟨q / n, y⟩ else (nr q n).map fun x => ⟨x, if r % n = 0 then r / n else (q + r) / n - x⟩
theorem win_q {q r n X Y u : Int} (hn : 1 ≤ n) (hu : 0 ≤ u ∧ u < n) (hq : q = n * X) (hr : r = n * Y + u) :
  ((win (X - 1) (Y - 1) 4).foldl (nst q r n) (-1, [])).2 = if 2 * u < n then [⟨X, Y⟩] else if 2 * u > n then [⟨X, Y + 1⟩] else [⟨X, Y⟩, ⟨X, Y + 1⟩] := by
 have F : ∀ k l : Int, farI q r n ⟨X - 1 + k, Y - 1 + l⟩ = ((k - 1) * (k - 1) + (k - 1) * (l - 1) + (l - 1) * (l - 1)) * (n * n) - ((k - 1) + 2 * (l - 1)) * (n * u) + u * u := fun k l => by
  unfold farI; subst hq hr; grind
 have p0 : 0 ≤ n * u := Int.mul_nonneg (by omega) hu.1
 have p1 : n * u + n ≤ n * n := by
  have := Int.mul_le_mul_of_nonneg_left (show u + 1 ≤ n by omega) (show 0 ≤ n by omega)
  rw [Int.mul_add] at this; omega
 have eX : X - 1 + ((1 : Nat) : Int) = X := by omega
 have eX2 : X - 1 + ((2 : Nat) : Int) = X + 1 := by omega
 have eY : Y - 1 + ((1 : Nat) : Int) = Y := by omega
 have eY2 : Y - 1 + ((2 : Nat) : Int) = Y + 1 := by omega
 by_cases c1 : 2 * u < n
 ·rw [if_pos c1]
  have s0 : 2 * (n * u) + n ≤ n * n := by
   have := Int.mul_le_mul_of_nonneg_left (show 2 * u + 1 ≤ n by omega) (show 0 ≤ n by omega)
   rw [Int.mul_add, Int.mul_left_comm] at this; omega
  generalize n * u = Q at F p0 p1 s0
  generalize n * n = P at F p1 s0
  generalize u * u = S at F
  have hf : ((win (X - 1) (Y - 1) 4).filter fun h => farI q r n h == S) = [⟨X, Y⟩] := by
   rw [win_filter (fun k l => (k == 1 && l == 1)) (fun k l hk hl => ?_)]
   ·simp [List.range, List.range.loop, eX, eY] <;> omega
   ·rw [F, Bool.eq_iff_iff]
    simp only [beq_iff_eq, Bool.and_eq_true, Bool.or_eq_true]
    rcases lt4 hk with rfl | rfl | rfl | rfl <;> rcases lt4 hl with rfl | rfl | rfl | rfl <;> omega
  rw [near_min (m := S) (fun h hh => ?_) ⟨⟨X - 1 + ((1 : Nat) : Int), Y - 1 + ((1 : Nat) : Int)⟩, mem_win (by omega) (by omega), by rw [F]; omega⟩, hf]
  obtain ⟨k, l, hk, hl, rfl⟩ := win_mem hh
  rw [F]
  rcases lt4 hk with rfl | rfl | rfl | rfl <;> rcases lt4 hl with rfl | rfl | rfl | rfl <;> omega
 ·rw [if_neg c1]
  by_cases c2 : 2 * u > n
  ·rw [if_pos c2]
   have s0 : n * n + n ≤ 2 * (n * u) := by
    have := Int.mul_le_mul_of_nonneg_left (show n + 1 ≤ 2 * u by omega) (show 0 ≤ n by omega)
    rw [Int.mul_add, Int.mul_left_comm] at this; omega
   generalize n * u = Q at F p0 p1 s0
   generalize n * n = P at F p1 s0
   generalize u * u = S at F
   have hf : ((win (X - 1) (Y - 1) 4).filter fun h => farI q r n h == P - 2 * Q + S) = [⟨X, Y + 1⟩] := by
    rw [win_filter (fun k l => (k == 1 && l == 2)) (fun k l hk hl => ?_)]
    ·simp [List.range, List.range.loop, eX, eY] <;> omega
    ·rw [F, Bool.eq_iff_iff]
     simp only [beq_iff_eq, Bool.and_eq_true, Bool.or_eq_true]
     rcases lt4 hk with rfl | rfl | rfl | rfl <;> rcases lt4 hl with rfl | rfl | rfl | rfl <;> omega
   rw [near_min (m := P - 2 * Q + S) (fun h hh => ?_) ⟨⟨X - 1 + ((1 : Nat) : Int), Y - 1 + ((2 : Nat) : Int)⟩, mem_win (by omega) (by omega), by rw [F]; omega⟩, hf]
   obtain ⟨k, l, hk, hl, rfl⟩ := win_mem hh
   rw [F]
   rcases lt4 hk with rfl | rfl | rfl | rfl <;> rcases lt4 hl with rfl | rfl | rfl | rfl <;> omega
  ·rw [if_neg c2]
   have s0 : n * n = 2 * (n * u) := by
    have : n * n = n * (2 * u) := congrArg (fun z => n * z) (show n = 2 * u by omega)
    rw [Int.mul_left_comm] at this; exact this
   generalize n * u = Q at F p0 p1 s0
   generalize n * n = P at F p1 s0
   generalize u * u = S at F
   have hf : ((win (X - 1) (Y - 1) 4).filter fun h => farI q r n h == S) = [⟨X, Y⟩, ⟨X, Y + 1⟩] := by
    rw [win_filter (fun k l => (k == 1 && l == 1) || (k == 1 && l == 2)) (fun k l hk hl => ?_)]
    ·simp [List.range, List.range.loop, eX, eY] <;> omega
    ·rw [F, Bool.eq_iff_iff]
     simp only [beq_iff_eq, Bool.and_eq_true, Bool.or_eq_true]
     rcases lt4 hk with rfl | rfl | rfl | rfl <;> rcases lt4 hl with rfl | rfl | rfl | rfl <;> omega
   rw [near_min (m := S) (fun h hh => ?_) ⟨⟨X - 1 + ((1 : Nat) : Int), Y - 1 + ((1 : Nat) : Int)⟩, mem_win (by omega) (by omega), by rw [F]; omega⟩, hf]
   obtain ⟨k, l, hk, hl, rfl⟩ := win_mem hh
   rw [F]
   rcases lt4 hk with rfl | rfl | rfl | rfl <;> rcases lt4 hl with rfl | rfl | rfl | rfl <;> omega
theorem win_r {q r n X Y u : Int} (hn : 1 ≤ n) (hu : 0 ≤ u ∧ u < n) (hq : q = n * X + u) (hr : r = n * Y) :
  ((win (X - 1) (Y - 1) 4).foldl (nst q r n) (-1, [])).2 = if 2 * u < n then [⟨X, Y⟩] else if 2 * u > n then [⟨X + 1, Y⟩] else [⟨X, Y⟩, ⟨X + 1, Y⟩] := by
 have F : ∀ k l : Int, farI q r n ⟨X - 1 + k, Y - 1 + l⟩ = ((k - 1) * (k - 1) + (k - 1) * (l - 1) + (l - 1) * (l - 1)) * (n * n) - (2 * (k - 1) + (l - 1)) * (n * u) + u * u := fun k l => by
  unfold farI; subst hq hr; grind
 have p0 : 0 ≤ n * u := Int.mul_nonneg (by omega) hu.1
 have p1 : n * u + n ≤ n * n := by
  have := Int.mul_le_mul_of_nonneg_left (show u + 1 ≤ n by omega) (show 0 ≤ n by omega)
  rw [Int.mul_add] at this; omega
 have eX : X - 1 + ((1 : Nat) : Int) = X := by omega
 have eX2 : X - 1 + ((2 : Nat) : Int) = X + 1 := by omega
 have eY : Y - 1 + ((1 : Nat) : Int) = Y := by omega
 have eY2 : Y - 1 + ((2 : Nat) : Int) = Y + 1 := by omega
 by_cases c1 : 2 * u < n
 ·rw [if_pos c1]
  have s0 : 2 * (n * u) + n ≤ n * n := by
   have := Int.mul_le_mul_of_nonneg_left (show 2 * u + 1 ≤ n by omega) (show 0 ≤ n by omega)
   rw [Int.mul_add, Int.mul_left_comm] at this; omega
  generalize n * u = Q at F p0 p1 s0
  generalize n * n = P at F p1 s0
  generalize u * u = S at F
  have hf : ((win (X - 1) (Y - 1) 4).filter fun h => farI q r n h == S) = [⟨X, Y⟩] := by
   rw [win_filter (fun k l => (k == 1 && l == 1)) (fun k l hk hl => ?_)]
   ·simp [List.range, List.range.loop, eX, eY] <;> omega
   ·rw [F, Bool.eq_iff_iff]
    simp only [beq_iff_eq, Bool.and_eq_true, Bool.or_eq_true]
    rcases lt4 hk with rfl | rfl | rfl | rfl <;> rcases lt4 hl with rfl | rfl | rfl | rfl <;> omega
  rw [near_min (m := S) (fun h hh => ?_) ⟨⟨X - 1 + ((1 : Nat) : Int), Y - 1 + ((1 : Nat) : Int)⟩, mem_win (by omega) (by omega), by rw [F]; omega⟩, hf]
  obtain ⟨k, l, hk, hl, rfl⟩ := win_mem hh
  rw [F]
  rcases lt4 hk with rfl | rfl | rfl | rfl <;> rcases lt4 hl with rfl | rfl | rfl | rfl <;> omega
 ·rw [if_neg c1]
  by_cases c2 : 2 * u > n
  ·rw [if_pos c2]
   have s0 : n * n + n ≤ 2 * (n * u) := by
    have := Int.mul_le_mul_of_nonneg_left (show n + 1 ≤ 2 * u by omega) (show 0 ≤ n by omega)
    rw [Int.mul_add, Int.mul_left_comm] at this; omega
   generalize n * u = Q at F p0 p1 s0
   generalize n * n = P at F p1 s0
   generalize u * u = S at F
   have hf : ((win (X - 1) (Y - 1) 4).filter fun h => farI q r n h == P - 2 * Q + S) = [⟨X + 1, Y⟩] := by
    rw [win_filter (fun k l => (k == 2 && l == 1)) (fun k l hk hl => ?_)]
    ·simp [List.range, List.range.loop, eX, eY] <;> omega
    ·rw [F, Bool.eq_iff_iff]
     simp only [beq_iff_eq, Bool.and_eq_true, Bool.or_eq_true]
     rcases lt4 hk with rfl | rfl | rfl | rfl <;> rcases lt4 hl with rfl | rfl | rfl | rfl <;> omega
   rw [near_min (m := P - 2 * Q + S) (fun h hh => ?_) ⟨⟨X - 1 + ((2 : Nat) : Int), Y - 1 + ((1 : Nat) : Int)⟩, mem_win (by omega) (by omega), by rw [F]; omega⟩, hf]
   obtain ⟨k, l, hk, hl, rfl⟩ := win_mem hh
   rw [F]
   rcases lt4 hk with rfl | rfl | rfl | rfl <;> rcases lt4 hl with rfl | rfl | rfl | rfl <;> omega
  ·rw [if_neg c2]
   have s0 : n * n = 2 * (n * u) := by
    have : n * n = n * (2 * u) := congrArg (fun z => n * z) (show n = 2 * u by omega)
    rw [Int.mul_left_comm] at this; exact this
   generalize n * u = Q at F p0 p1 s0
   generalize n * n = P at F p1 s0
   generalize u * u = S at F
   have hf : ((win (X - 1) (Y - 1) 4).filter fun h => farI q r n h == S) = [⟨X, Y⟩, ⟨X + 1, Y⟩] := by
    rw [win_filter (fun k l => (k == 1 && l == 1) || (k == 2 && l == 1)) (fun k l hk hl => ?_)]
    ·simp [List.range, List.range.loop, eX, eY] <;> omega
    ·rw [F, Bool.eq_iff_iff]
     simp only [beq_iff_eq, Bool.and_eq_true, Bool.or_eq_true]
     rcases lt4 hk with rfl | rfl | rfl | rfl <;> rcases lt4 hl with rfl | rfl | rfl | rfl <;> omega
   rw [near_min (m := S) (fun h hh => ?_) ⟨⟨X - 1 + ((1 : Nat) : Int), Y - 1 + ((1 : Nat) : Int)⟩, mem_win (by omega) (by omega), by rw [F]; omega⟩, hf]
   obtain ⟨k, l, hk, hl, rfl⟩ := win_mem hh
   rw [F]
   rcases lt4 hk with rfl | rfl | rfl | rfl <;> rcases lt4 hl with rfl | rfl | rfl | rfl <;> omega
theorem win_s {q r n X Y u : Int} (hn : 1 ≤ n) (hu : 0 ≤ u ∧ u < n) (hq : q = n * X + u) (hr : r = n * Y + (n - u)) :
  ((win (X - 1) (Y - 1) 4).foldl (nst q r n) (-1, [])).2 = if 2 * u < n then [⟨X, Y + 1⟩] else if 2 * u > n then [⟨X + 1, Y⟩] else [⟨X, Y + 1⟩, ⟨X + 1, Y⟩] := by
 have F : ∀ k l : Int, farI q r n ⟨X - 1 + k, Y - 1 + l⟩ = ((k - 1) * (k - 1) + (k - 1) * (l - 2) + (l - 2) * (l - 2)) * (n * n) + ((l - 2) - (k - 1)) * (n * u) + u * u := fun k l => by
  unfold farI; subst hq hr; grind
 have p0 : 0 ≤ n * u := Int.mul_nonneg (by omega) hu.1
 have p1 : n * u + n ≤ n * n := by
  have := Int.mul_le_mul_of_nonneg_left (show u + 1 ≤ n by omega) (show 0 ≤ n by omega)
  rw [Int.mul_add] at this; omega
 have eX : X - 1 + ((1 : Nat) : Int) = X := by omega
 have eX2 : X - 1 + ((2 : Nat) : Int) = X + 1 := by omega
 have eY : Y - 1 + ((1 : Nat) : Int) = Y := by omega
 have eY2 : Y - 1 + ((2 : Nat) : Int) = Y + 1 := by omega
 by_cases c1 : 2 * u < n
 ·rw [if_pos c1]
  have s0 : 2 * (n * u) + n ≤ n * n := by
   have := Int.mul_le_mul_of_nonneg_left (show 2 * u + 1 ≤ n by omega) (show 0 ≤ n by omega)
   rw [Int.mul_add, Int.mul_left_comm] at this; omega
  generalize n * u = Q at F p0 p1 s0
  generalize n * n = P at F p1 s0
  generalize u * u = S at F
  have hf : ((win (X - 1) (Y - 1) 4).filter fun h => farI q r n h == S) = [⟨X, Y + 1⟩] := by
   rw [win_filter (fun k l => (k == 1 && l == 2)) (fun k l hk hl => ?_)]
   ·simp [List.range, List.range.loop, eX, eY] <;> omega
   ·rw [F, Bool.eq_iff_iff]
    simp only [beq_iff_eq, Bool.and_eq_true, Bool.or_eq_true]
    rcases lt4 hk with rfl | rfl | rfl | rfl <;> rcases lt4 hl with rfl | rfl | rfl | rfl <;> omega
  rw [near_min (m := S) (fun h hh => ?_) ⟨⟨X - 1 + ((1 : Nat) : Int), Y - 1 + ((2 : Nat) : Int)⟩, mem_win (by omega) (by omega), by rw [F]; omega⟩, hf]
  obtain ⟨k, l, hk, hl, rfl⟩ := win_mem hh
  rw [F]
  rcases lt4 hk with rfl | rfl | rfl | rfl <;> rcases lt4 hl with rfl | rfl | rfl | rfl <;> omega
 ·rw [if_neg c1]
  by_cases c2 : 2 * u > n
  ·rw [if_pos c2]
   have s0 : n * n + n ≤ 2 * (n * u) := by
    have := Int.mul_le_mul_of_nonneg_left (show n + 1 ≤ 2 * u by omega) (show 0 ≤ n by omega)
    rw [Int.mul_add, Int.mul_left_comm] at this; omega
   generalize n * u = Q at F p0 p1 s0
   generalize n * n = P at F p1 s0
   generalize u * u = S at F
   have hf : ((win (X - 1) (Y - 1) 4).filter fun h => farI q r n h == P - 2 * Q + S) = [⟨X + 1, Y⟩] := by
    rw [win_filter (fun k l => (k == 2 && l == 1)) (fun k l hk hl => ?_)]
    ·simp [List.range, List.range.loop, eX, eY] <;> omega
    ·rw [F, Bool.eq_iff_iff]
     simp only [beq_iff_eq, Bool.and_eq_true, Bool.or_eq_true]
     rcases lt4 hk with rfl | rfl | rfl | rfl <;> rcases lt4 hl with rfl | rfl | rfl | rfl <;> omega
   rw [near_min (m := P - 2 * Q + S) (fun h hh => ?_) ⟨⟨X - 1 + ((2 : Nat) : Int), Y - 1 + ((1 : Nat) : Int)⟩, mem_win (by omega) (by omega), by rw [F]; omega⟩, hf]
   obtain ⟨k, l, hk, hl, rfl⟩ := win_mem hh
   rw [F]
   rcases lt4 hk with rfl | rfl | rfl | rfl <;> rcases lt4 hl with rfl | rfl | rfl | rfl <;> omega
  ·rw [if_neg c2]
   have s0 : n * n = 2 * (n * u) := by
    have : n * n = n * (2 * u) := congrArg (fun z => n * z) (show n = 2 * u by omega)
    rw [Int.mul_left_comm] at this; exact this
   generalize n * u = Q at F p0 p1 s0
   generalize n * n = P at F p1 s0
   generalize u * u = S at F
   have hf : ((win (X - 1) (Y - 1) 4).filter fun h => farI q r n h == S) = [⟨X, Y + 1⟩, ⟨X + 1, Y⟩] := by
    rw [win_filter (fun k l => (k == 1 && l == 2) || (k == 2 && l == 1)) (fun k l hk hl => ?_)]
    ·simp [List.range, List.range.loop, eX, eY] <;> omega
    ·rw [F, Bool.eq_iff_iff]
     simp only [beq_iff_eq, Bool.and_eq_true, Bool.or_eq_true]
     rcases lt4 hk with rfl | rfl | rfl | rfl <;> rcases lt4 hl with rfl | rfl | rfl | rfl <;> omega
   rw [near_min (m := S) (fun h hh => ?_) ⟨⟨X - 1 + ((1 : Nat) : Int), Y - 1 + ((2 : Nat) : Int)⟩, mem_win (by omega) (by omega), by rw [F]; omega⟩, hf]
   obtain ⟨k, l, hk, hl, rfl⟩ := win_mem hh
   rw [F]
   rcases lt4 hk with rfl | rfl | rfl | rfl <;> rcases lt4 hl with rfl | rfl | rfl | rfl <;> omega
theorem floorDiv_eq {a n : Int} (ha : 0 ≤ a ∧ a ≤ 1000000) (hn : 1 ≤ n) : X.i_floorDiv a n = some (a / n) := by
 have hne : n ≠ 0 := by omega
 have hm : 0 ≤ a % n := Int.emod_nonneg _ hne
 have hd : 0 ≤ a / n := Int.ediv_nonneg ha.1 (by omega)
 have hd2 : a / n ≤ a := Int.ediv_le_self _ ha.1
 unfold X.i_floorDiv
 rw [if_pos hne, if_pos hne, tmod_nn ha.1 hn, tdiv_nn ha.1, decide_eq_false (by omega), cond_false, W_of (by omega)]
theorem mulB {a b : Int} (ha : -2000 ≤ a ∧ a ≤ 2000) (hb : -2000 ≤ b ∧ b ≤ 2000) : -4000000 ≤ a * b ∧ a * b ≤ 4000000 := by
 have h := Nat.mul_le_mul (show a.natAbs ≤ 2000 by omega) (show b.natAbs ≤ 2000 by omega)
 rw [← Int.natAbs_mul] at h
 omega
theorem wfar {q r n x y : Int} (hq : 0 ≤ q ∧ q ≤ 1000000) (hr : 0 ≤ r ∧ r ≤ 1000000) (hx : -2000 ≤ n * x - q ∧ n * x - q ≤ 2000) (hy : -2000 ≤ n * y - r ∧ n * y - r ≤ 2000) :
  (W ((W ((W ((W ((W (n * x)) - q)) * (W ((W (n * x)) - q)))) + (W ((W ((W (n * x)) - q)) * (W ((W (n * y)) - r)))))) + (W ((W ((W (n * y)) - r)) * (W ((W (n * y)) - r)))))) = farI q r n ⟨x, y⟩ := by
 have b1 := mulB hx hx
 have b2 := mulB hx hy
 have b3 := mulB hy hy
 unfold farI
 rw [W_of (n := n * x) (by omega), W_of (n := n * y) (by omega), W_of (n := n * x - q) (by omega), W_of (n := n * y - r) (by omega)]
 generalize (n * x - q) * (n * x - q) = A at b1 ⊢
 generalize (n * x - q) * (n * y - r) = B at b2 ⊢
 generalize (n * y - r) * (n * y - r) = C at b3 ⊢
 rw [W_of (n := A) (by omega), W_of (n := B) (by omega), W_of (n := C) (by omega), W_of (n := A + B) (by omega), W_of (by omega)]
theorem win_succ (x y : Int) (k : Nat) : win x y (k + 1) = win x y k ++ col (x + (k : Int)) y 4 := by
 unfold win
 rw [List.range_succ, List.flatMap_append]
 simp
theorem col_succ (x y : Int) (k : Nat) : col x y (k + 1) = col x y k ++ [⟨x, y + (k : Int)⟩] := by
 unfold col
 rw [List.range_succ, List.map_append]
 rfl
theorem win_length (x y : Int) : ∀ k, (win x y k).length = 4 * k
 | 0 => rfl
 | k + 1 => by rw [win_succ, List.length_append, win_length x y k]; simp [col]; omega
theorem near_off {q n : Int} (hn : 1 ≤ n ∧ n ≤ 1000) (k : Nat) (hk : k < 4) : -2000 ≤ n * (q / n - 1 + (k : Int)) - q ∧ n * (q / n - 1 + (k : Int)) - q ≤ 2000 := by
 have h0 := Int.emod_nonneg q (show n ≠ 0 by omega)
 have h1 := Int.emod_lt_of_pos q (show 0 < n by omega)
 have h2 := Int.emod_def q n
 have e : n * (q / n - 1 + (k : Int)) = n * (q / n) - n + n * (k : Int) := by grind
 rw [e]
 rcases lt4 hk with rfl | rfl | rfl | rfl <;> omega
theorem nearestTo_eq {q r n : Int} (hq : 0 ≤ q ∧ q ≤ 1000000) (hr : 0 ≤ r ∧ r ≤ 1000000) (hn : 1 ≤ n ∧ n ≤ 1000) : X.i_nearestTo q r n = some ((win (q / n - 1) (r / n - 1) 4).foldl (nst q r n) (-1, [])).2 := by
 have hd : 0 ≤ q / n := Int.ediv_nonneg hq.1 (by omega)
 have hd2 : q / n ≤ q := Int.ediv_le_self _ hq.1
 have he : 0 ≤ r / n := Int.ediv_nonneg hr.1 (by omega)
 have he2 : r / n ≤ r := Int.ediv_le_self _ hr.1
 unfold X.i_nearestTo
 simp only [floorDiv_eq hq hn.1, floorDiv_eq hr hn.1, obs, W_of (n := q / n + 2) (by omega), W_of (n := r / n + 2) (by omega), W_of (n := q / n - 1) (by omega), W_of (n := r / n - 1) (by omega)]
 rw [run_st 4 (fun k => (((win (q / n - 1) (r / n - 1) k).foldl (nst q r n) (-1, [])).1, q / n - 1 + (k : Int), ((win (q / n - 1) (r / n - 1) k).foldl (nst q r n) (-1, [])).2)) ((win (q / n - 1) (r / n - 1) 4).foldl (nst q r n) (-1, [])).2 (by simp [win]) ?_ ?_]
 ·intro k hk
  have d1 : q / n - 1 + (k : Int) ≤ q / n + 2 := by omega
  simp only [decide_eq_true d1, cond_true]
  have hx := near_off (q := q) hn k hk
  have hlen := nsts_len q r n (win (q / n - 1) (r / n - 1) k) (-1, [])
  rw [win_length] at hlen
  simp only [List.length_nil] at hlen
  have hw : ((win (q / n - 1) (r / n - 1) (k + 1)).foldl (nst q r n) (-1, [])) = (col (q / n - 1 + (k : Int)) (r / n - 1) 4).foldl (nst q r n) ((win (q / n - 1) (r / n - 1) k).foldl (nst q r n) (-1, [])) := by rw [win_succ, List.foldl_append]
  rw [hw]
  generalize (win (q / n - 1) (r / n - 1) k).foldl (nst q r n) (-1, []) = P at hlen
  have ex : W (q / n - 1 + (k : Int) + 1) = q / n - 1 + ((k + 1 : Nat) : Int) := by rw [W_of (by omega)]; omega
  rw [ex]
  generalize q / n - 1 + (k : Int) = x at hx
  rw [run_st 4 (fun l => (((col x (r / n - 1) l).foldl (nst q r n) P).1, r / n - 1 + (l : Int), ((col x (r / n - 1) l).foldl (nst q r n) P).2)) (((col x (r / n - 1) 4).foldl (nst q r n) P).1, ((col x (r / n - 1) 4).foldl (nst q r n) P).2) (by simp [col]) ?_ ?_]
  ·intro l hl
   have d2 : r / n - 1 + (l : Int) ≤ r / n + 2 := by omega
   have hy := near_off (q := r) hn l hl
   have hlen2 := nsts_len q r n (col x (r / n - 1) l) P
   have cl : (col x (r / n - 1) l).length = l := by simp [col]
   rw [cl] at hlen2
   have ey : W (r / n - 1 + (l : Int) + 1) = r / n - 1 + ((l + 1 : Nat) : Int) := by rw [W_of (by omega)]; omega
   simp only [decide_eq_true d2, cond_true, ey, wfar hq hr hx hy, col_succ, List.foldl_append, List.foldl_cons, List.foldl_nil]
   generalize (col x (r / n - 1) l).foldl (nst q r n) P = p at hlen2
   generalize (⟨x, r / n - 1 + (l : Int)⟩ : THex) = h
   have g0 : 0 ≤ (0 : Int) ∧ (0 : Int) ≤ 0 ∧ (0 : Int) ≤ (p.2.length : Int) := by omega
   have t0 : (0 : Int).toNat = 0 := rfl
   have l1 : ([h] : List THex).length ≤ LIM := by unfold LIM; simp
   have l2 : (p.2 ++ [h]).length ≤ LIM := by unfold LIM; simp; omega
   simp only [if_pos g0, t0, List.take_zero]
   unfold nst
   by_cases c1 : p.1 < 0
   ·simp only [decide_eq_true c1, cond_true, obs, beq_self_eq_true, List.nil_append, if_pos l1, Bool.true_or]
   ·by_cases c2 : farI q r n h < p.1
    ·simp only [decide_eq_false c1, decide_eq_true c2, cond_true, cond_false, obs, beq_self_eq_true, List.nil_append, if_pos l1, Bool.or_true]
    ·simp only [decide_eq_false c1, decide_eq_false c2, cond_false, obs, Bool.or_self]
     cases farI q r n h == p.1
     ·rfl
     ·simp only [cond_true, if_pos l2]
  ·have d2 : ¬ r / n - 1 + ((4 : Nat) : Int) ≤ r / n + 2 := by omega
   simp only [decide_eq_false d2, cond_false]
 ·have d2 : ¬ q / n - 1 + ((4 : Nat) : Int) ≤ q / n + 2 := by omega
  simp only [decide_eq_false d2, cond_false]
theorem sum_div {q r n : Int} (hn : 1 ≤ n) (cq : q % n ≠ 0) (cr : r % n ≠ 0) (hs : (q + r) % n = 0) : (q + r) / n = q / n + r / n + 1 := by
 have u0 := Int.emod_nonneg q (show n ≠ 0 by omega)
 have u1 := Int.emod_lt_of_pos q (show 0 < n by omega)
 have v0 := Int.emod_nonneg r (show n ≠ 0 by omega)
 have v1 := Int.emod_lt_of_pos r (show 0 < n by omega)
 have eq := Int.emod_def q n
 have er := Int.emod_def r n
 have es := Int.emod_def (q + r) n
 have e : n * ((q + r) / n - q / n - r / n) = q % n + r % n := by
  have : n * ((q + r) / n - q / n - r / n) = n * ((q + r) / n) - n * (q / n) - n * (r / n) := by grind
  omega
 generalize ht : (q + r) / n - q / n - r / n = t at e
 by_cases a1 : t ≤ 0
 ·have := Int.mul_le_mul_of_nonneg_left a1 (show 0 ≤ n by omega)
  omega
 ·by_cases a2 : 2 ≤ t
  ·have := Int.mul_le_mul_of_nonneg_left a2 (show 0 ≤ n by omega)
   omega
  ·omega
theorem near_win {q r n : Int} (hn : 1 ≤ n) (hs : q % n = 0 ∨ r % n = 0 ∨ (q + r) % n = 0) : ((win (q / n - 1) (r / n - 1) 4).foldl (nst q r n) (-1, [])).2 = near q r n := by
 have u0 := Int.emod_nonneg q (show n ≠ 0 by omega)
 have u1 := Int.emod_lt_of_pos q (show 0 < n by omega)
 have v0 := Int.emod_nonneg r (show n ≠ 0 by omega)
 have v1 := Int.emod_lt_of_pos r (show 0 < n by omega)
 have eq := Int.emod_def q n
 have er := Int.emod_def r n
 unfold near
 by_cases cq : q % n = 0
 ·rw [if_pos cq, win_q (u := r % n) hn ⟨v0, v1⟩ (by omega) (by omega)]
  unfold nr
  split
  ·rfl
  ·split <;> rfl
 ·rw [if_neg cq]
  by_cases cr : r % n = 0
  ·simp only [if_pos cr]
   rw [win_r (u := q % n) hn ⟨u0, u1⟩ (by omega) (by omega)]
   unfold nr
   split
   ·rfl
   ·split <;> rfl
  ·simp only [if_neg cr]
   have es := Int.emod_def (q + r) n
   have hs : (q + r) % n = 0 := by rcases hs with h | h | h <;> first | exact h | omega
   have t1 := sum_div hn cq cr hs
   have e1 : n * ((q + r) / n) = n * (q / n) + n * (r / n) + n := by rw [t1]; grind
   rw [win_s (u := q % n) hn ⟨u0, u1⟩ (by omega) (by omega), t1]
   have y1 : q / n + r / n + 1 - q / n = r / n + 1 := by omega
   have y2 : q / n + r / n + 1 - (q / n + 1) = r / n := by omega
   unfold nr
   split
   ·simp [y1]
   ·split
    ·simp [y2]
    ·simp [y1, y2]
theorem nr_len (m n : Int) : (nr m n).length ≤ 2 := by
 unfold nr
 split
 ·simp
 ·split <;> simp
theorem nr_mem {m n x : Int} (h : x ∈ nr m n) : x = m / n ∨ x = m / n + 1 := by
 unfold nr at h
 split at h
 ·simp at h; exact .inl h
 ·split at h
  ·simp at h; exact .inr h
  ·simp at h; exact h
theorem hNear_eq {m n : Int} (hm : 0 ≤ m ∧ m ≤ 1000000) (hn : 1 ≤ n ∧ n ≤ 1000) : X.s_hNear m n = some (nr m n) := by
 have hne : n ≠ 0 := by omega
 have u0 := Int.emod_nonneg m hne
 have u1 := Int.emod_lt_of_pos m (show 0 < n by omega)
 have hd : 0 ≤ m / n := Int.ediv_nonneg hm.1 (by omega)
 have hd2 : m / n ≤ m := Int.ediv_le_self _ hm.1
 have em := Int.emod_def m n
 have ec : m / n * n = n * (m / n) := Int.mul_comm _ _
 unfold X.s_hNear
 rw [if_pos hne, if_pos hne, tmod_nn hm.1 hn.1, tdiv_nn hm.1, decide_eq_false (show ¬ m % n < 0 by omega), cond_false]
 have e2 : W (2 * (W (m - (W (m / n * n))))) = 2 * (m % n) := by
  rw [W_of (n := m / n * n) (by omega), W_of (n := m - m / n * n) (by omega), W_of (by omega)]
  omega
 simp only [obs, W_of (n := m / n) (by omega), e2, W_of (n := m / n + 1) (by omega)]
 unfold nr
 by_cases c1 : 2 * (m % n) < n
 ·rw [decide_eq_true c1, cond_true, if_pos c1]
 ·rw [decide_eq_false c1, cond_false, if_neg c1]
  by_cases c2 : 2 * (m % n) > n
  ·rw [decide_eq_true c2, cond_true, if_pos c2]
  ·rw [decide_eq_false c2, cond_false, if_neg c2]
theorem hCells_eq {a b : THex} {i n q r : Int} (e1 : W ((W (a.Q * n)) + (W ((W (b.Q - a.Q)) * i))) = q) (e2 : W ((W (a.R * n)) + (W ((W (b.R - a.R)) * i))) = r)
  (hq : 0 ≤ q ∧ q ≤ 1000000) (hr : 0 ≤ r ∧ r ≤ 1000000) (hn : 1 ≤ n ∧ n ≤ 1000) : X.s_hCells a b i n = some (near q r n) := by
 have hne : n ≠ 0 := by omega
 have hd : 0 ≤ q / n := Int.ediv_nonneg hq.1 (by omega)
 have hd2 : q / n ≤ q := Int.ediv_le_self _ hq.1
 have he : 0 ≤ r / n := Int.ediv_nonneg hr.1 (by omega)
 have he2 : r / n ≤ r := Int.ediv_le_self _ hr.1
 have hf : 0 ≤ (q + r) / n := Int.ediv_nonneg (by omega) (by omega)
 have hf2 : (q + r) / n ≤ q + r := Int.ediv_le_self _ (by omega)
 unfold X.s_hCells near
 simp only [e1, e2, if_pos hne, tmod_nn hq.1 hn.1, tmod_nn hr.1 hn.1, tdiv_nn hq.1, tdiv_nn hr.1, hNear_eq hq hn, hNear_eq hr hn, obs, W_of (n := q / n) (by omega), W_of (n := r / n) (by omega), W_of (n := q + r) (by omega), tdiv_nn (show 0 ≤ q + r by omega), W_of (n := (q + r) / n) (by omega)]
 by_cases cq : q % n = 0
 ·have cq' : (q % n == 0) = true := beq_iff_eq.2 cq
  rw [if_pos cq, cq', cond_true]
  have hl := nr_len r n
  rw [run_map (nr r n) (fun y => (⟨q / n, y⟩ : THex)) (fun k l => ((k : Int), l)) (fun l => l) (by rfl) ?_ ?_]
  ·intro j l hj hl'
   have eL : (l ++ ([THex.mk (q / n) (nr r n)[j]] : List THex)).length ≤ LIM := by unfold LIM; simp; omega
   simp only [lt_cast hj, cond_true, at_nat hj, obs, if_pos eL, W_succ (show j < 4611686018427387904 by omega)]
  ·intro l; simp only [nlt_self, cond_false]
 ·have cq' : (q % n == 0) = false := beq_eq_false_iff_ne.2 cq
  rw [if_neg cq, cq', cond_false]
  have hl := nr_len q n
  rw [run_map (nr q n) (fun x => (⟨x, if r % n = 0 then r / n else (q + r) / n - x⟩ : THex)) (fun k l => ((k : Int), l)) (fun l => l) (by rfl) ?_ ?_]
  ·intro j l hj hl'
   have hx := nr_mem (List.getElem_mem hj)
   simp only [lt_cast hj, cond_true, at_nat hj, obs, W_succ (show j < 4611686018427387904 by omega)]
   generalize (nr q n)[j] = x at hx
   by_cases cr : r % n = 0
   ·have cr' : (r % n == 0) = true := beq_iff_eq.2 cr
    have eL : (l ++ ([THex.mk x (r / n)] : List THex)).length ≤ LIM := by unfold LIM; simp; omega
    simp only [cr', cond_true, if_pos cr, if_pos eL]
   ·have cr' : (r % n == 0) = false := beq_eq_false_iff_ne.2 cr
    have eL : (l ++ ([THex.mk x ((q + r) / n - x)] : List THex)).length ≤ LIM := by unfold LIM; simp; omega
    simp only [cr', cond_false, if_neg cr, W_of (n := (q + r) / n - x) (by omega), if_pos eL]
  ·intro l; simp only [nlt_self, cond_false]
def lineL (a b : THex) : List (List THex) :=
 if pDist a b = 0 then [[a]] else (List.range ((pDist a b).toNat + 1)).map fun i : Nat => near (a.Q * pDist a b + (b.Q - a.Q) * (i : Int)) (a.R * pDist a b + (b.R - a.R) * (i : Int)) (pDist a b)
theorem dist_side (a b : THex) : (b.Q - a.Q = pDist a b ∨ b.Q - a.Q = -pDist a b) ∨ (b.R - a.R = pDist a b ∨ b.R - a.R = -pDist a b) ∨ (b.Q - a.Q + (b.R - a.R) = pDist a b ∨ b.Q - a.Q + (b.R - a.R) = -pDist a b) := by
 unfold pDist pAbs
 split <;> split <;> split <;> omega
theorem off_mod {a x d i : Int} (h : x = d ∨ x = -d) : (a * d + x * i) % d = 0 := by
 rcases h with rfl | rfl
 ·rw [show a * x + x * i = x * (a + i) by grind]; exact Int.mul_emod_right _ _
 ·rw [show a * d + -d * i = d * (a - i) by grind]; exact Int.mul_emod_right _ _
theorem on_line {x y d M : Int} (i : Nat) (hd : 1 ≤ d) (hi : (i : Int) ≤ d) (hx : 0 ≤ x ∧ x ≤ M) (hy : 0 ≤ y ∧ y ≤ M) : 0 ≤ x * d + (y - x) * (i : Int) ∧ x * d + (y - x) * (i : Int) ≤ d * M := by
 have e : x * d + (y - x) * (i : Int) = x * (d - i) + y * i := by grind
 have e2 : d * M = M * (d - i) + M * i := by grind
 have a1 := Int.mul_nonneg hx.1 (show 0 ≤ d - (i : Int) by omega)
 have a2 := Int.mul_nonneg hy.1 (show 0 ≤ (i : Int) by omega)
 have a3 := Int.mul_le_mul_of_nonneg_right hx.2 (show 0 ≤ d - (i : Int) by omega)
 have a4 := Int.mul_le_mul_of_nonneg_right hy.2 (show 0 ≤ (i : Int) by omega)
 omega
theorem off_small {x d : Int} (i : Nat) (hd : d ≤ 1000) (hi : (i : Int) ≤ d) (hx : -10 ≤ x ∧ x ≤ 10) : -10000 ≤ x * (i : Int) ∧ x * (i : Int) ≤ 10000 := by
 have h := Nat.mul_le_mul (show x.natAbs ≤ 10 by omega) (show (i : Int).natAbs ≤ 1000 by omega)
 rw [← Int.natAbs_mul] at h
 omega
theorem line_eq {a b : THex} (ha : (0 ≤ a.Q ∧ a.Q < 10) ∧ (0 ≤ a.R ∧ a.R < 10)) (hb : (0 ≤ b.Q ∧ b.Q < 10) ∧ (0 ≤ b.R ∧ b.R < 10)) : X.s_hLine a b = some (lineL a b) ∧ X.i_lineOf a b = some (lineL a b) := by
 obtain ⟨d1, d2, d3, d4⟩ := dist_eq (a := a) (b := b) (by omega) (by omega)
 have hside := dist_side a b
 unfold X.s_hLine X.i_lineOf lineL
 rw [d1, d2]
 simp only [obs]
 generalize pDist a b = d at d3 d4 hside
 by_cases c0 : d = 0
 ·subst c0; exact ⟨rfl, rfl⟩
 have c0' : (d == 0) = false := beq_eq_false_iff_ne.2 c0
 obtain ⟨n, rfl⟩ := Int.eq_ofNat_of_zero_le d3
 simp only [c0', cond_false, if_neg c0, Int.toNat_natCast]
 have cell : ∀ i : Nat, i < n + 1 → X.s_hCells a b (i : Int) (n : Int) = some (near (a.Q * (n : Int) + (b.Q - a.Q) * (i : Int)) (a.R * (n : Int) + (b.R - a.R) * (i : Int)) (n : Int)) ∧
   X.i_nearestTo (W ((W (a.Q * (n : Int))) + (W ((i : Int) * (W (b.Q - a.Q)))))) (W ((W (a.R * (n : Int))) + (W ((i : Int) * (W (b.R - a.R)))))) (n : Int) = some (near (a.Q * (n : Int) + (b.Q - a.Q) * (i : Int)) (a.R * (n : Int) + (b.R - a.R) * (i : Int)) (n : Int)) := fun i hi => by
  have l1 := on_line i (show 1 ≤ (n : Int) by omega) (by omega) (show 0 ≤ a.Q ∧ a.Q ≤ 9 by omega) (show 0 ≤ b.Q ∧ b.Q ≤ 9 by omega)
  have l2 := on_line i (show 1 ≤ (n : Int) by omega) (by omega) (show 0 ≤ a.R ∧ a.R ≤ 9 by omega) (show 0 ≤ b.R ∧ b.R ≤ 9 by omega)
  have m1 := off_small i d4 (by omega) (show -10 ≤ b.Q - a.Q ∧ b.Q - a.Q ≤ 10 by omega)
  have m2 := off_small i d4 (by omega) (show -10 ≤ b.R - a.R ∧ b.R - a.R ≤ 10 by omega)
  have w1 : W ((W (a.Q * (n : Int))) + (W ((W (b.Q - a.Q)) * (i : Int)))) = a.Q * (n : Int) + (b.Q - a.Q) * (i : Int) := by
   rw [W_of (n := b.Q - a.Q) (by omega), W_of (n := (b.Q - a.Q) * (i : Int)) (by omega), W_of (n := a.Q * (n : Int)) (by omega), W_of (by omega)]
  have w2 : W ((W (a.R * (n : Int))) + (W ((W (b.R - a.R)) * (i : Int)))) = a.R * (n : Int) + (b.R - a.R) * (i : Int) := by
   rw [W_of (n := b.R - a.R) (by omega), W_of (n := (b.R - a.R) * (i : Int)) (by omega), W_of (n := a.R * (n : Int)) (by omega), W_of (by omega)]
  have q1 : 0 ≤ a.Q * (n : Int) + (b.Q - a.Q) * (i : Int) ∧ a.Q * (n : Int) + (b.Q - a.Q) * (i : Int) ≤ 1000000 := by omega
  have q2 : 0 ≤ a.R * (n : Int) + (b.R - a.R) * (i : Int) ∧ a.R * (n : Int) + (b.R - a.R) * (i : Int) ≤ 1000000 := by omega
  refine ⟨hCells_eq w1 w2 q1 q2 (by omega), ?_⟩
  rw [Int.mul_comm (i : Int), Int.mul_comm (i : Int), w1, w2, nearestTo_eq q1 q2 (by omega), near_win (by omega)]
  rcases hside with h | h | h
  ·exact .inl (off_mod h)
  ·exact .inr (.inl (off_mod h))
  ·refine .inr (.inr ?_)
   rw [show a.Q * (n : Int) + (b.Q - a.Q) * (i : Int) + (a.R * (n : Int) + (b.R - a.R) * (i : Int)) = (a.Q + a.R) * (n : Int) + (b.Q - a.Q + (b.R - a.R)) * (i : Int) by grind]
   exact off_mod h
 have len : ∀ i : Nat, i < n + 1 → ∀ z : List THex, ((((List.range i).map fun i : Nat => near (a.Q * (n : Int) + (b.Q - a.Q) * (i : Int)) (a.R * (n : Int) + (b.R - a.R) * (i : Int)) (n : Int))) ++ ([z] : List (List THex))).length ≤ LIM := fun i hi z => by
  unfold LIM; simp; omega
 constructor
 ·rw [run_st (n + 1) (fun k => ((k : Int), (List.range k).map fun i : Nat => near (a.Q * (n : Int) + (b.Q - a.Q) * (i : Int)) (a.R * (n : Int) + (b.R - a.R) * (i : Int)) (n : Int))) _ (by rfl) ?_ ?_]
  ·intro k hk
   have c : (k : Int) ≤ (n : Int) := by omega
   simp only [decide_eq_true c, cond_true, (cell k hk).1, obs, if_pos (len k hk _), W_succ (show k < 4611686018427387904 by omega), List.range_succ, List.map_append, List.map_cons, List.map_nil]
  ·have c : ¬ ((n + 1 : Nat) : Int) ≤ (n : Int) := by omega
   simp only [decide_eq_false c, cond_false]
 ·rw [run_st (n + 1) (fun k => ((k : Int), (List.range k).map fun i : Nat => near (a.Q * (n : Int) + (b.Q - a.Q) * (i : Int)) (a.R * (n : Int) + (b.R - a.R) * (i : Int)) (n : Int))) _ (by rfl) ?_ ?_]
  ·intro k hk
   have c : (k : Int) ≤ (n : Int) := by omega
   simp only [decide_eq_true c, cond_true, (cell k hk).2, obs, if_pos (len k hk _), W_succ (show k < 4611686018427387904 by omega), List.range_succ, List.map_append, List.map_cons, List.map_nil]
  ·have c : ¬ ((n + 1 : Nat) : Int) ≤ (n : Int) := by omega
   simp only [decide_eq_false c, cond_false]
theorem div_le {m n M : Int} (hn : 1 ≤ n) (h : m ≤ n * M) : m / n ≤ M ∧ (m % n ≠ 0 → m / n + 1 ≤ M) := by
 have u0 := Int.emod_nonneg m (show n ≠ 0 by omega)
 have e := Int.emod_def m n
 constructor
 ·by_cases c : M + 1 ≤ m / n
  ·have := Int.mul_le_mul_of_nonneg_left c (show 0 ≤ n by omega)
   rw [Int.mul_add] at this
   omega
  ·omega
 ·intro hz
  by_cases c : M ≤ m / n
  ·have := Int.mul_le_mul_of_nonneg_left c (show 0 ≤ n by omega)
   omega
  ·omega
theorem nr_bound {m n M : Int} (hn : 1 ≤ n) (hm : 0 ≤ m ∧ m ≤ n * M) {x : Int} (h : x ∈ nr m n) : 0 ≤ x ∧ x ≤ M := by
 have hd : 0 ≤ m / n := Int.ediv_nonneg hm.1 (by omega)
 obtain ⟨h1, h2⟩ := div_le hn hm.2
 have u0 := Int.emod_nonneg m (show n ≠ 0 by omega)
 unfold nr at h
 split at h
 ·simp at h; omega
 ·split at h
  ·simp at h; have := h2 (by omega); omega
  ·simp at h; have := h2 (by omega); omega
theorem near_bound {q r n A B : Int} (hn : 1 ≤ n) (hq : 0 ≤ q ∧ q ≤ n * A) (hr : 0 ≤ r ∧ r ≤ n * B) (hs : q % n = 0 ∨ r % n = 0 ∨ (q + r) % n = 0) {h : THex} (hh : h ∈ near q r n) :
  (0 ≤ h.Q ∧ h.Q ≤ A) ∧ (0 ≤ h.R ∧ h.R ≤ B) := by
 have d1 : 0 ≤ q / n := Int.ediv_nonneg hq.1 (by omega)
 have d2 : 0 ≤ r / n := Int.ediv_nonneg hr.1 (by omega)
 obtain ⟨a1, a2⟩ := div_le hn hq.2
 obtain ⟨b1, b2⟩ := div_le hn hr.2
 unfold near at hh
 by_cases cq : q % n = 0
 ·rw [if_pos cq, List.mem_map] at hh
  obtain ⟨y, hy, rfl⟩ := hh
  exact ⟨⟨d1, a1⟩, nr_bound hn hr hy⟩
 ·rw [if_neg cq, List.mem_map] at hh
  obtain ⟨x, hx, rfl⟩ := hh
  by_cases cr : r % n = 0
  ·simp only [if_pos cr]
   exact ⟨nr_bound hn hq hx, d2, b1⟩
  ·simp only [if_neg cr]
   have hs : (q + r) % n = 0 := by rcases hs with h | h | h <;> first | exact h | exact absurd h (by assumption)
   have e := sum_div hn cq cr hs
   have a3 := a2 cq
   have b3 := b2 cr
   rcases nr_mem hx with rfl | rfl <;> omega
theorem near_len (q r n : Int) : (near q r n).length ≤ 2 := by
 unfold near
 split
 ·rw [List.length_map]; exact nr_len _ _
 ·rw [List.length_map]; exact nr_len _ _
theorem line_len {a b : THex} {c : List THex} (h : c ∈ lineL a b) : c.length ≤ 2 := by
 unfold lineL at h
 split at h
 ·simp at h; subst h; simp
 ·rw [List.mem_map] at h
  obtain ⟨i, _, rfl⟩ := h
  exact near_len _ _ _
theorem line_bound {a b : THex} {A B : Int} (ha : (0 ≤ a.Q ∧ a.Q ≤ A) ∧ (0 ≤ a.R ∧ a.R ≤ B)) (hb : (0 ≤ b.Q ∧ b.Q ≤ A) ∧ (0 ≤ b.R ∧ b.R ≤ B)) (hd : 0 ≤ pDist a b) {c : List THex} (h : c ∈ lineL a b) {x : THex} (hx : x ∈ c) :
  (0 ≤ x.Q ∧ x.Q ≤ A) ∧ (0 ≤ x.R ∧ x.R ≤ B) := by
 unfold lineL at h
 split at h
 ·simp at h; subst h; simp at hx; subst hx; exact ha
 ·rename_i hz
  rw [List.mem_map] at h
  obtain ⟨i, hi, rfl⟩ := h
  rw [List.mem_range] at hi
  have hside := dist_side a b
  generalize pDist a b = d at hd hz hi hx hside
  have l1 := on_line i (show 1 ≤ d by omega) (by omega) ha.1 hb.1
  have l2 := on_line i (show 1 ≤ d by omega) (by omega) ha.2 hb.2
  refine near_bound (by omega) l1 l2 ?_ hx
  rcases hside with h | h | h
  ·exact .inl (off_mod h)
  ·exact .inr (.inl (off_mod h))
  ·refine .inr (.inr ?_)
   rw [show a.Q * d + (b.Q - a.Q) * (i : Int) + (a.R * d + (b.R - a.R) * (i : Int)) = (a.Q + a.R) * d + (b.Q - a.Q + (b.R - a.R)) * (i : Int) by grind]
   exact off_mod h
theorem line_length {a b : THex} (hd : pDist a b ≤ 1000) : 1 ≤ (lineL a b).length ∧ (lineL a b).length ≤ 1001 := by
 unfold lineL
 split
 ·simp
 ·simp; omega
def cellsL (m : TMap) (i k : Nat) : List (List Int) :=
 (List.range ((lineL (pHex m (i : Int)) (pHex m (k : Int))).length - 2)).map fun j : Nat => ((lineL (pHex m (i : Int)) (pHex m (k : Int))).getD (j + 1) []).map fun h => pIdx m h.Q h.R
theorem cells_eq {b : TBoard} (hb : pBoard b = true) {i k : Nat} (hi : i < b.Map.Terrain.length) (hk : k < b.Map.Terrain.length) :
  X.s_vCells b (i : Int) (k : Int) = some (cellsL b.Map i k) ∧ X.i_sightCells b (i : Int) (k : Int) = some (cellsL b.Map i k) := by
 obtain ⟨hsd, hl⟩ := sides_of hb
 obtain ⟨a1, a2, a3, a4⟩ := hexAt_eq hsd (show 0 ≤ (i : Int) ∧ (i : Int) < b.Map.Width * b.Map.Height by omega)
 obtain ⟨c1, c2, c3, c4⟩ := hexAt_eq hsd (show 0 ≤ (k : Int) ∧ (k : Int) < b.Map.Width * b.Map.Height by omega)
 obtain ⟨l1, l2⟩ := line_eq ⟨a3, a4⟩ ⟨c3, c4⟩
 have hdist := (dist_eq (a := pHex b.Map (i : Int)) (b := pHex b.Map (k : Int)) (by omega) (by omega)).2.2
 obtain ⟨n1, n2⟩ := line_length hdist.2
 unfold X.s_vCells X.i_sightCells cellsL
 rw [a1, a2]
 simp only [obs]
 rw [c1, c2]
 simp only [obs]
 rw [l1, l2]
 simp only [obs]
 have hlen : ∀ c ∈ lineL (pHex b.Map (i : Int)) (pHex b.Map (k : Int)), c.length ≤ 2 := fun c hc => line_len hc
 generalize lineL (pHex b.Map (i : Int)) (pHex b.Map (k : Int)) = L at n1 n2 hlen
 have hg : ∀ j : Nat, j < L.length - 2 → ∃ hj : j + 1 < L.length, at' zLTHex L ((j + 1 : Nat) : Int) = some L[j + 1] ∧ L.getD (j + 1) [] = L[j + 1] ∧ L[j + 1].length ≤ 2 := fun j hj =>
  ⟨by omega, at_nat (by omega), by simp [List.getD, show j + 1 < L.length by omega], hlen _ (List.getElem_mem _)⟩
 have lim : ∀ j : Nat, j < L.length - 2 → ∀ z : List Int, (((List.range j).map fun j : Nat => (L.getD (j + 1) []).map fun h => pIdx b.Map h.Q h.R) ++ ([z] : List (List Int))).length ≤ LIM := fun j hj z => by
  unfold LIM; simp; omega
 constructor
 ·rw [run_st (L.length - 2) (fun j => (((j + 1 : Nat) : Int), (List.range j).map fun j : Nat => (L.getD (j + 1) []).map fun h => pIdx b.Map h.Q h.R)) _ (by rfl) ?_ ?_]
  ·intro j hj
   obtain ⟨hj1, g1, g2, g3⟩ := hg j hj
   have c : ((j + 1 : Nat) : Int) < W ((L.length : Int) - 1) := by rw [W_of (by omega)]; omega
   simp only [decide_eq_true c, cond_true, g1, obs]
   rw [run_map L[j + 1] (fun h => pIdx b.Map h.Q h.R) (fun m l => ((m : Int), (List.range j).map fun j : Nat => (L.getD (j + 1) []).map fun h => pIdx b.Map h.Q h.R, l)) (fun l => ((List.range j).map fun j : Nat => (L.getD (j + 1) []).map fun h => pIdx b.Map h.Q h.R, l)) (by rfl) ?_ ?_]
   ·simp only [if_pos (lim j hj _), W_succ (show j + 1 < 4611686018427387904 by omega), List.range_succ, List.map_append, List.map_cons, List.map_nil, g2]
   ·intro m l hm hl'
    have e := (idx_eq b.Map hsd L[j + 1][m].Q L[j + 1][m].R).1
    have eL : (l ++ ([pIdx b.Map L[j + 1][m].Q L[j + 1][m].R] : List Int)).length ≤ LIM := by unfold LIM; simp; omega
    simp only [lt_cast hm, cond_true, at_nat hm, obs]
    rw [e]
    simp only [obs, if_pos eL, W_succ (show m < 4611686018427387904 by omega)]
   ·intro l; simp only [nlt_self, cond_false]
  ·have c : ¬ ((L.length - 2 + 1 : Nat) : Int) < W ((L.length : Int) - 1) := by rw [W_of (by omega)]; omega
   simp only [decide_eq_false c, cond_false]
 ·rw [run_st (L.length - 2) (fun j => (((j + 1 : Nat) : Int), (List.range j).map fun j : Nat => (L.getD (j + 1) []).map fun h => pIdx b.Map h.Q h.R)) _ (by rfl) ?_ ?_]
  ·intro j hj
   obtain ⟨hj1, g1, g2, g3⟩ := hg j hj
   have c : W (((j + 1 : Nat) : Int) + 1) < (L.length : Int) := by rw [W_of (by omega)]; omega
   simp only [decide_eq_true c, cond_true, g1, obs]
   rw [run_map L[j + 1] (fun h => pIdx b.Map h.Q h.R) (fun m l => ((m : Int), (List.range j).map fun j : Nat => (L.getD (j + 1) []).map fun h => pIdx b.Map h.Q h.R, l)) (fun l => ((List.range j).map fun j : Nat => (L.getD (j + 1) []).map fun h => pIdx b.Map h.Q h.R, l)) (by rfl) ?_ ?_]
   ·simp only [if_pos (lim j hj _), W_succ (show j + 1 < 4611686018427387904 by omega), List.range_succ, List.map_append, List.map_cons, List.map_nil, g2]
   ·intro m l hm hl'
    have e := (idx_eq b.Map hsd L[j + 1][m].Q L[j + 1][m].R).2
    have eL : (l ++ ([pIdx b.Map L[j + 1][m].Q L[j + 1][m].R] : List Int)).length ≤ LIM := by unfold LIM; simp; omega
    simp only [lt_cast hm, cond_true, at_nat hm, obs]
    rw [e]
    simp only [obs, if_pos eL, W_succ (show m < 4611686018427387904 by omega)]
   ·intro l; simp only [nlt_self, cond_false]
  ·have c : ¬ W (((L.length - 2 + 1 : Nat) : Int) + 1) < (L.length : Int) := by rw [W_of (by omega)]; omega
   simp only [decide_eq_false c, cond_false]
theorem idx_in {m : TMap} (h : okSides m) {x : THex} (hx : (0 ≤ x.Q ∧ x.Q ≤ m.Width - 1) ∧ (0 ≤ x.R ∧ x.R ≤ m.Height - 1)) : ∃ n : Nat, pIdx m x.Q x.R = (n : Int) ∧ (n : Int) < m.Width * m.Height := by
 have hp : (pIn x.Q 0 (m.Width - 1) && pIn x.R 0 (m.Height - 1)) = true := by rw [Bool.and_eq_true, pIn_iff, pIn_iff]; exact hx
 have h0 := Int.mul_nonneg hx.2.1 (show 0 ≤ m.Width by have := h.1; omega)
 rcases pIdx_lt h (a := x.Q) (b := x.R) with e | ⟨e1, e2⟩
 ·unfold pIdx at e; rw [hp, cond_true] at e; omega
 ·exact ⟨(pIdx m x.Q x.R).toNat, by omega, by omega⟩
theorem cells_in {b : TBoard} (hb : pBoard b = true) {i k : Nat} (hi : i < b.Map.Terrain.length) (hk : k < b.Map.Terrain.length) {c : List Int} (hc : c ∈ cellsL b.Map i k) :
  c.length ≤ 2 ∧ ∀ x ∈ c, ∃ n : Nat, x = (n : Int) ∧ n < b.Map.Terrain.length := by
 obtain ⟨hsd, hl⟩ := sides_of hb
 have hsd' := hsd
 obtain ⟨w1, w2, w3, w4⟩ := hsd'
 obtain ⟨_, _, a3, a4⟩ := hexAt_eq hsd (show 0 ≤ (i : Int) ∧ (i : Int) < b.Map.Width * b.Map.Height by omega)
 obtain ⟨_, _, c3, c4⟩ := hexAt_eq hsd (show 0 ≤ (k : Int) ∧ (k : Int) < b.Map.Width * b.Map.Height by omega)
 have hdist := (dist_eq (a := pHex b.Map (i : Int)) (b := pHex b.Map (k : Int)) (by omega) (by omega)).2.2
 have hex : ∀ n : Nat, n < b.Map.Terrain.length → (0 ≤ (pHex b.Map (n : Int)).Q ∧ (pHex b.Map (n : Int)).Q ≤ b.Map.Width - 1) ∧ (0 ≤ (pHex b.Map (n : Int)).R ∧ (pHex b.Map (n : Int)).R ≤ b.Map.Height - 1) := fun n hn => by
  have m1 : 0 ≤ (n : Int) % b.Map.Width := Int.emod_nonneg _ (by omega)
  have m2 : (n : Int) % b.Map.Width < b.Map.Width := Int.emod_lt_of_pos _ (by omega)
  have m3 : 0 ≤ (n : Int) / b.Map.Width := Int.ediv_nonneg (by omega) (by omega)
  have m4 : (n : Int) / b.Map.Width < b.Map.Height := Int.ediv_lt_of_lt_mul (by omega) (by rw [Int.mul_comm]; omega)
  exact ⟨⟨m1, by show (n : Int) % b.Map.Width ≤ _; omega⟩, ⟨m3, by show (n : Int) / b.Map.Width ≤ _; omega⟩⟩
 unfold cellsL at hc
 rw [List.mem_map] at hc
 obtain ⟨j, hj, rfl⟩ := hc
 rw [List.mem_range] at hj
 have hj1 : j + 1 < (lineL (pHex b.Map (i : Int)) (pHex b.Map (k : Int))).length := by omega
 have eg : (lineL (pHex b.Map (i : Int)) (pHex b.Map (k : Int))).getD (j + 1) [] = (lineL (pHex b.Map (i : Int)) (pHex b.Map (k : Int)))[j + 1] := by simp [List.getD, hj1]
 rw [eg]
 refine ⟨by rw [List.length_map]; exact line_len (List.getElem_mem hj1), fun x hx => ?_⟩
 rw [List.mem_map] at hx
 obtain ⟨h, hh, rfl⟩ := hx
 obtain ⟨n, e1, e2⟩ := idx_in hsd (line_bound (hex i hi) (hex k hk) hdist.1 (List.getElem_mem hj1) hh)
 exact ⟨n, e1, by omega⟩
theorem terr_high {b : TBoard} (hb : pBoard b = true) {n : Nat} (hn : n < b.Map.Terrain.length) : 0 ≤ (terr b n).Height ∧ (terr b n).Height ≤ 9 := by
 obtain ⟨t0, t1⟩ := terr_of hb hn
 have h := costs_of hb (t := (b.Map.Terrain.getD n zI).toNat) (by omega)
 exact ⟨h.2.2.1, by have := h.2.2.2.1; unfold terr; omega⟩
def high (t : TTerrain) : Int := bif t.Blocks then t.Height + 1 else t.Height
def pBlk (b : TBoard) (i k x : Nat) : Bool := decide (high (terr b x) > if (terr b i).Height > (terr b k).Height then (terr b i).Height else (terr b k).Height)
theorem blk_eq {b : TBoard} (hb : pBoard b = true) {i k x : Nat} (hi : i < b.Map.Terrain.length) (hk : k < b.Map.Terrain.length) (hx : x < b.Map.Terrain.length) :
  X.s_vBlocks b (i : Int) (k : Int) (x : Int) = some (pBlk b i k x) ∧ X.i_blocksBetween b (i : Int) (k : Int) (x : Int) = some (pBlk b i k x) := by
 have hh : ∀ n : Nat, n < b.Map.Terrain.length → 0 ≤ (terr b n).Height ∧ (terr b n).Height ≤ 9 := fun n hn => terr_high hb hn
 have h1 := hh i hi
 have h2 := hh k hk
 have h3 := hh x hx
 have hw : W ((terr b x).Height + 1) = (terr b x).Height + 1 := W_of (by omega)
 unfold X.s_vBlocks X.s_vHeight X.i_blocksBetween X.s_l1Most pBlk high
 simp only [(terr_eq hb hi).1, (terr_eq hb hi).2, (terr_eq hb hk).1, (terr_eq hb hk).2, (terr_eq hb hx).1, (terr_eq hb hx).2, obs, hw]
 have hmax : (if (terr b k).Height > (terr b i).Height then (terr b k).Height else (terr b i).Height) = (if (terr b i).Height > (terr b k).Height then (terr b i).Height else (terr b k).Height) := by split <;> split <;> omega
 rw [hmax]
 by_cases c : (terr b i).Height > (terr b k).Height
 ·rw [decide_eq_true c, if_pos c]; cases (terr b x).Blocks <;> exact ⟨rfl, rfl⟩
 ·rw [decide_eq_false c, if_neg c]; cases (terr b x).Blocks <;> exact ⟨rfl, rfl⟩
def pCnt (b : TBoard) (i k : Nat) (c : List Int) : Nat := c.countP fun x => pBlk b i k x.toNat
theorem cnt_run {γ : Type} {f : Int → Option γ} {g : Int → Option Bool} {p : Int → Bool} (c : List Int) (hl : c.length ≤ 2) (h : ∀ x ∈ c, g x = some (p x)) :
  ((loop (fun (x16 : (Int × Int)) => ((bif (decide (x16.2 < (c.length : Int))) then ((at' zI c x16.2).bind fun v19 => ((g v19).bind fun v21 => (bif v21 then some (Sum.inl ((W (x16.1 + 1)), (W (x16.2 + 1)))) else some (Sum.inl (x16.1, (W (x16.2 + 1))))))) else some (Sum.inr x16.1)) : Option ((Int × Int) ⊕ Int))) (0, 0)).bind f) = f (c.countP p : Nat) := by
 rw [run_st c.length (fun j => ((((c.take j).countP p : Nat) : Int), (j : Int))) ((c.countP p : Nat) : Int) (by rfl) ?_ ?_]
 ·intro j hj
  have hle := List.countP_le_length (p := p) (l := c.take j)
  rw [List.length_take] at hle
  simp only [lt_cast hj, cond_true, at_nat hj, obs, h _ (List.getElem_mem hj), W_succ (show j < 4611686018427387904 by omega), List.take_succ_eq_append_getElem hj, List.countP_append, List.countP_singleton]
  cases p c[j]
  ·rfl
  ·simp only [cond_true, W_succ (show (c.take j).countP p < 4611686018427387904 by omega)]; rfl
 ·simp only [nlt_self, cond_false, List.take_length]
theorem vCount_eq {b : TBoard} (hb : pBoard b = true) {i k : Nat} (hi : i < b.Map.Terrain.length) (hk : k < b.Map.Terrain.length) {c : List Int} (hc : c ∈ cellsL b.Map i k) :
  X.s_vCount b (i : Int) (k : Int) c = some (pCnt b i k c : Int) := by
 obtain ⟨h1, h2⟩ := cells_in hb hi hk hc
 unfold X.s_vCount
 rw [cnt_run (g := fun v => X.s_vBlocks b (i : Int) (k : Int) v) (p := fun x => pBlk b i k x.toNat) c h1 fun x hx => by obtain ⟨n, rfl, hn⟩ := h2 x hx; exact (blk_eq hb hi hk hn).1]
 rfl
def pCode (b : TBoard) (i k : Nat) : Int :=
 if (cellsL b.Map i k).any (fun c => pCnt b i k c == c.length) then 2 else if (cellsL b.Map i k).any (fun c => decide (pCnt b i k c > 0)) then 1 else 0
theorem any_take {α : Type} (p : α → Bool) (l : List α) {j : Nat} (hj : j < l.length) : (l.take (j + 1)).any p = ((l.take j).any p || p l[j]) := by
 rw [List.take_succ_eq_append_getElem hj, List.any_append]; simp
theorem any_of {α : Type} {p : α → Bool} {l : List α} {j : Nat} (hj : j < l.length) (h : p l[j] = true) : l.any p = true := List.any_eq_true.2 ⟨_, List.getElem_mem hj, h⟩
theorem cells_len {b : TBoard} (hb : pBoard b = true) {i k : Nat} (hi : i < b.Map.Terrain.length) (hk : k < b.Map.Terrain.length) : (cellsL b.Map i k).length ≤ 1001 := by
 obtain ⟨hsd, hl⟩ := sides_of hb
 obtain ⟨_, _, a3, a4⟩ := hexAt_eq hsd (show 0 ≤ (i : Int) ∧ (i : Int) < b.Map.Width * b.Map.Height by omega)
 obtain ⟨_, _, c3, c4⟩ := hexAt_eq hsd (show 0 ≤ (k : Int) ∧ (k : Int) < b.Map.Width * b.Map.Height by omega)
 have := (line_length (dist_eq (a := pHex b.Map (i : Int)) (b := pHex b.Map (k : Int)) (by omega) (by omega)).2.2.2).2
 unfold cellsL
 simp; omega
theorem vFirst_eq {b : TBoard} (hb : pBoard b = true) {i k : Nat} (hi : i < b.Map.Terrain.length) (hk : k < b.Map.Terrain.length) :
  ∃ v : Int, X.s_vFirst b (i : Int) (k : Int) = some v ∧ decide (v ≥ 0) = (cellsL b.Map i k).any (fun c => pCnt b i k c == c.length) := by
 unfold X.s_vFirst
 rw [(cells_eq hb hi hk).1]
 have hcnt := fun c (hc : c ∈ cellsL b.Map i k) => vCount_eq hb hi hk hc
 have hlen := cells_len hb hi hk
 simp only [obs]
 generalize cellsL b.Map i k = L at hcnt hlen
 have key := loop_ind (body := (fun (x18 : Int) => ((bif (decide (x18 < (L.length : Int))) then ((at' zLI L x18).bind fun v21 => ((X.s_vCount b (i : Int) (k : Int) v21).bind fun v23 => (bif (v23 == (v21.length : Int)) then some (Sum.inr (Sum.inr x18)) else some (Sum.inl (W (x18 + 1)))))) else some (Sum.inr (Sum.inl ()))) : Option (Int ⊕ (Unit ⊕ Int)))))
  (fun x => ∃ j : Nat, x = (j : Int) ∧ j ≤ L.length ∧ (L.take j).any (fun c => pCnt b i k c == c.length) = false) (fun x => L.length - x.toNat)
  (fun r => match r with | .inl _ => L.any (fun c => pCnt b i k c == c.length) = false | .inr v => v ≥ 0 ∧ L.any (fun c => pCnt b i k c == c.length) = true) (s := 0) ?_ ⟨0, rfl, by omega, rfl⟩
 ·obtain ⟨r, e, h⟩ := key
  rw [e]
  cases r with
  | inl u => exact ⟨-1, rfl, by simp only at h; rw [h]; rfl⟩
  | inr v => exact ⟨v, rfl, by simp only at h; rw [h.2]; exact decide_eq_true h.1⟩
 ·rintro x ⟨j, rfl, hj, hn⟩
  by_cases hlt : j < L.length
  ·simp only [lt_cast hlt, cond_true, at_nat hlt, obs, hcnt _ (List.getElem_mem hlt), W_succ (show j < 4611686018427387904 by omega)]
   cases hf : ((pCnt b i k L[j] : Int) == (L[j].length : Int)) with
   | true =>
    refine .inr ⟨_, rfl, by omega, any_of (j := j) hlt ?_⟩
    rw [beq_iff_eq] at hf ⊢; omega
   | false =>
    refine .inl ⟨_, rfl, ⟨j + 1, rfl, by omega, ?_⟩, by omega⟩
    rw [any_take _ _ hlt, hn, Bool.false_or]
    rw [beq_eq_false_iff_ne] at hf ⊢; omega
  ·have : j = L.length := by omega
   subst this
   rw [List.take_length] at hn
   exact .inr ⟨.inl (), by simp only [nlt_self, cond_false], hn⟩
theorem vCode_eq {b : TBoard} (hb : pBoard b = true) {i k : Nat} (hi : i < b.Map.Terrain.length) (hk : k < b.Map.Terrain.length) : X.s_vCode b (i : Int) (k : Int) = some (pCode b i k) := by
 obtain ⟨v, e, hv⟩ := vFirst_eq hb hi hk
 unfold X.s_vCode pCode
 rw [e, (cells_eq hb hi hk).1]
 simp only [obs, hv]
 cases (cellsL b.Map i k).any (fun c => pCnt b i k c == c.length)
 ·have hcnt := fun c (hc : c ∈ cellsL b.Map i k) => vCount_eq hb hi hk hc
  have hlen := cells_len hb hi hk
  generalize cellsL b.Map i k = L at hcnt hlen
  simp only [cond_false, Bool.false_eq_true, if_false]
  rw [run_all L (fun c => !(decide (pCnt b i k c > 0))) (.inr 1) (.inl ()) rfl ?_ ?_]
  ·have : (L.all fun c => !(decide (pCnt b i k c > 0))) = !(L.any fun c => decide (pCnt b i k c > 0)) := by rw [List.not_any_eq_all_not]
   rw [this]
   cases L.any fun c => decide (pCnt b i k c > 0) <;> rfl
  ·intro j hj
   have ed : decide ((pCnt b i k L[j] : Int) > 0) = decide (pCnt b i k L[j] > 0) := by rw [decide_eq_decide]; omega
   simp only [lt_cast hj, cond_true, at_nat hj, obs, hcnt _ (List.getElem_mem hj), W_succ (show j < 4611686018427387904 by omega), ed]
   cases decide (pCnt b i k L[j] > 0) <;> rfl
  ·simp only [nlt_self, cond_false]
 ·rfl
theorem sightOf_eq {b : TBoard} (hb : pBoard b = true) {i k : Nat} (hi : i < b.Map.Terrain.length) (hk : k < b.Map.Terrain.length) : ∃ v, X.i_sightOf b (i : Int) (k : Int) = some (pCode b i k, v) := by
 unfold X.i_sightOf pCode
 rw [(cells_eq hb hi hk).2]
 have hcnt := fun c (hc : c ∈ cellsL b.Map i k) => cells_in hb hi hk hc
 have hlen := cells_len hb hi hk
 simp only [obs]
 generalize cellsL b.Map i k = L at hcnt hlen
 have hrun : ∀ {γ : Type} {f : Int → Option γ} (j : Nat) (hj : j < L.length), ((loop (fun (x161 : (Int × Int)) => ((bif (decide (x161.2 < (L[j].length : Int))) then ((at' zI L[j] x161.2).bind fun v164 => ((X.i_blocksBetween b (i : Int) (k : Int) v164).bind fun v166 => (bif v166 then some (Sum.inl ((W (x161.1 + 1)), (W (x161.2 + 1)))) else some (Sum.inl (x161.1, (W (x161.2 + 1))))))) else some (Sum.inr x161.1)) : Option ((Int × Int) ⊕ Int))) (0, 0)).bind f) = f (pCnt b i k L[j] : Nat) := fun {γ f} j hj => by
  obtain ⟨h1, h2⟩ := hcnt _ (List.getElem_mem hj)
  exact cnt_run (f := f) (g := fun v => X.i_blocksBetween b (i : Int) (k : Int) v) (p := fun x => pBlk b i k x.toNat) L[j] h1 fun x hx => by obtain ⟨n, rfl, hn⟩ := h2 x hx; exact (blk_eq hb hi hk hn).2
 have key := loop_ind (body := (fun (x116 : (Int × Int)) => ((bif (decide (x116.2 < (L.length : Int))) then ((at' zLI L x116.2).bind fun v119 => ((loop (fun (x161 : (Int × Int)) => ((bif (decide (x161.2 < (v119.length : Int))) then ((at' zI v119 x161.2).bind fun v164 => ((X.i_blocksBetween b (i : Int) (k : Int) v164).bind fun v166 => (bif v166 then some (Sum.inl ((W (x161.1 + 1)), (W (x161.2 + 1)))) else some (Sum.inl (x161.1, (W (x161.2 + 1))))))) else some (Sum.inr x161.1)) : Option ((Int × Int) ⊕ Int))) (0, 0)).bind fun y169 => (bif (y169 == (v119.length : Int)) then some (Sum.inr (Sum.inr (2, x116.2))) else (bif (decide (y169 > 0)) then some (Sum.inl (1, (W (x116.2 + 1)))) else some (Sum.inl (x116.1, (W (x116.2 + 1)))))))) else some (Sum.inr (Sum.inl x116.1))) : Option ((Int × Int) ⊕ (Int ⊕ (Int × Int))))))
  (fun x => ∃ j : Nat, x.2 = (j : Int) ∧ j ≤ L.length ∧ (L.take j).any (fun c => pCnt b i k c == c.length) = false ∧ x.1 = if (L.take j).any (fun c => decide (pCnt b i k c > 0)) then 1 else 0) (fun x => L.length - x.2.toNat)
  (fun r => match r with
   | .inl c => L.any (fun c => pCnt b i k c == c.length) = false ∧ c = if L.any (fun c => decide (pCnt b i k c > 0)) then 1 else 0
   | .inr v => v.1 = 2 ∧ L.any (fun c => pCnt b i k c == c.length) = true) (s := (0, 0)) ?_ ⟨0, rfl, by omega, rfl, rfl⟩
 ·obtain ⟨r, e, h⟩ := key
  rw [e]
  cases r with
  | inl c => simp only at h; rw [h.1, h.2]; exact ⟨_, rfl⟩
  | inr v => simp only at h; rw [h.2]; simp only [obs, Sum.elim_inr, if_true, h.1]; exact ⟨_, rfl⟩
 ·rintro ⟨c, x⟩ ⟨j, rfl, hj, hn, hc⟩
  simp only at hc
  by_cases hlt : j < L.length
  ·simp only [lt_cast hlt, cond_true, at_nat hlt, obs, W_succ (show j < 4611686018427387904 by omega)]
   rw [hrun j hlt]
   cases hf : ((pCnt b i k L[j] : Int) == (L[j].length : Int)) with
   | true =>
    refine .inr ⟨.inr (2, (j : Int)), rfl, rfl, any_of (j := j) hlt ?_⟩
    rw [beq_iff_eq] at hf ⊢; omega
   | false =>
    have hn' : (L.take (j + 1)).any (fun c => pCnt b i k c == c.length) = false := by
     rw [any_take _ _ hlt, hn, Bool.false_or]
     rw [beq_eq_false_iff_ne] at hf ⊢; omega
    by_cases hp : (pCnt b i k L[j] : Int) > 0
    ·refine .inl ⟨(1, ((j + 1 : Nat) : Int)), by simp only [decide_eq_true hp, cond_true, cond_false], ⟨j + 1, rfl, by omega, hn', ?_⟩, by simp only; omega⟩
     have : decide (pCnt b i k L[j] > 0) = true := decide_eq_true (by omega)
     rw [any_take _ _ hlt, this, Bool.or_true]; rfl
    ·refine .inl ⟨(c, ((j + 1 : Nat) : Int)), by simp only [decide_eq_false hp, cond_false], ⟨j + 1, rfl, by omega, hn', ?_⟩, by simp only; omega⟩
     have : decide (pCnt b i k L[j] > 0) = false := decide_eq_false (by omega)
     rw [any_take _ _ hlt, this, Bool.or_false]; exact hc
  ·have : j = L.length := by omega
   subst this
   rw [List.take_length] at hn hc
   exact .inr ⟨.inl c, by simp only [nlt_self, cond_false], hn, hc⟩
def pSees (b : TBoard) (i : Nat) (far worst : Int) (k : Nat) : Bool := decide (pDist (pHex b.Map (i : Int)) (pHex b.Map (k : Int)) ≤ far) && decide (pCode b i k ≤ worst)
theorem hex_of {b : TBoard} (hb : pBoard b = true) {n : Nat} (hn : n < b.Map.Terrain.length) :
  X.s_mHex b.Map (n : Int) = some (pHex b.Map (n : Int)) ∧ X.i_hexOf b.Map (n : Int) = some (pHex b.Map (n : Int)) ∧ (0 ≤ (pHex b.Map (n : Int)).Q ∧ (pHex b.Map (n : Int)).Q < 10) ∧ (0 ≤ (pHex b.Map (n : Int)).R ∧ (pHex b.Map (n : Int)).R < 10) := by
 obtain ⟨hsd, hl⟩ := sides_of hb
 exact hexAt_eq hsd (show 0 ≤ (n : Int) ∧ (n : Int) < b.Map.Width * b.Map.Height by omega)
theorem vSeen_eq {b : TBoard} (hb : pBoard b = true) {i : Nat} (hi : i < b.Map.Terrain.length) (far worst : Int) :
  X.s_vSeen b (i : Int) far worst = some (idxs (pSees b i far worst) b.Map.Terrain.length) ∧ X.i_inSight b (i : Int) far worst = some (idxs (pSees b i far worst) b.Map.Terrain.length) := by
 obtain ⟨z1, z2, z3⟩ := size_of hb
 obtain ⟨a1, a2, a3, a4⟩ := hex_of hb hi
 have hd : ∀ k, k < b.Map.Terrain.length → X.s_hDistance (pHex b.Map (i : Int)) (pHex b.Map (k : Int)) = some (pDist (pHex b.Map (i : Int)) (pHex b.Map (k : Int))) ∧ X.i_distance (pHex b.Map (i : Int)) (pHex b.Map (k : Int)) = some (pDist (pHex b.Map (i : Int)) (pHex b.Map (k : Int))) := fun k hk => by
  obtain ⟨_, _, c3, c4⟩ := hex_of hb hk
  have := dist_eq (a := pHex b.Map (i : Int)) (b := pHex b.Map (k : Int)) (by omega) (by omega)
  exact ⟨this.1, this.2.1⟩
 constructor
 ·have hN : X.s_mNear b.Map (i : Int) far = some (idxs (fun k => decide (pDist (pHex b.Map (i : Int)) (pHex b.Map (k : Int)) ≤ far)) b.Map.Terrain.length) := by
   unfold X.s_mNear
   rw [run_idxs b.Map.Terrain.length (fun k => decide (pDist (pHex b.Map (i : Int)) (pHex b.Map (k : Int)) ≤ far)) (fun k l => ((k : Int), l)) (fun l => l) (by rfl) ?_ ?_]
   ·intro j l hj hl
    have e : (l ++ ([(j : Int)] : List Int)).length ≤ LIM := by unfold LIM; simp; omega
    simp only [z1, obs, lt_cast hj, cond_true, a1, (hex_of hb hj).1, (hd j hj).1, W_succ (show j < 4611686018427387904 by omega), if_pos e]
    cases decide (pDist (pHex b.Map (i : Int)) (pHex b.Map (j : Int)) ≤ far) <;> rfl
   ·intro l; simp only [z1, obs, nlt_self, cond_false]
  unfold X.s_vSeen
  rw [hN]
  simp only [obs]
  have hix : ∀ x ∈ idxs (fun k => decide (pDist (pHex b.Map (i : Int)) (pHex b.Map (k : Int)) ≤ far)) b.Map.Terrain.length, ∃ k : Nat, x = (k : Int) ∧ k < b.Map.Terrain.length := fun x hx => by
   obtain ⟨k, hk, _, e⟩ := idxs_mem.1 hx
   exact ⟨k, e, hk⟩
  have hil := idxs_len (fun k => decide (pDist (pHex b.Map (i : Int)) (pHex b.Map (k : Int)) ≤ far)) b.Map.Terrain.length
  have hfl := idxs_filter (fun k => decide (pDist (pHex b.Map (i : Int)) (pHex b.Map (k : Int)) ≤ far)) (fun k => decide (pCode b i k ≤ worst)) b.Map.Terrain.length
  have hdef : (fun k : Nat => decide (pDist (pHex b.Map (i : Int)) (pHex b.Map (k : Int)) ≤ far) && decide (pCode b i k ≤ worst)) = pSees b i far worst := rfl
  rw [hdef] at hfl
  rw [← hfl]
  generalize idxs (fun k => decide (pDist (pHex b.Map (i : Int)) (pHex b.Map (k : Int)) ≤ far)) b.Map.Terrain.length = L at hix hil
  rw [run_filter L (fun x => decide (pCode b i x.toNat ≤ worst)) (fun k l => ((k : Int), l)) (fun l => l) (by rfl) ?_ ?_]
  ·intro j l hj hl
   obtain ⟨k, e, hk⟩ := hix _ (List.getElem_mem hj)
   have eL : (l ++ ([(k : Int)] : List Int)).length ≤ LIM := by unfold LIM; simp; omega
   simp only [lt_cast hj, cond_true, at_nat hj, e, obs, vCode_eq hb hi hk, Int.toNat_natCast, if_pos eL, W_succ (show j < 4611686018427387904 by omega)]
   cases decide (pCode b i k ≤ worst) <;> rfl
  ·intro l; simp only [nlt_self, cond_false]
 ·unfold X.i_inSight
  rw [run_idxs b.Map.Terrain.length (pSees b i far worst) (fun k l => ((k : Int), l)) (fun l => l) (by rfl) ?_ ?_]
  ·intro j l hj hl
   have e : (l ++ ([(j : Int)] : List Int)).length ≤ LIM := by unfold LIM; simp; omega
   obtain ⟨v, hv⟩ := sightOf_eq hb hi hj
   have ed : decide (pDist (pHex b.Map (i : Int)) (pHex b.Map (j : Int)) > far) = !(decide (pDist (pHex b.Map (i : Int)) (pHex b.Map (j : Int)) ≤ far)) := by rw [← decide_not, decide_eq_decide]; omega
   simp only [lt_cast hj, cond_true, a2, (hex_of hb hj).2.1, (hd j hj).2, obs, ed, hv, W_succ (show j < 4611686018427387904 by omega), if_pos e, pSees]
   cases decide (pDist (pHex b.Map (i : Int)) (pHex b.Map (j : Int)) ≤ far) <;> cases decide (pCode b i j ≤ worst) <;> rfl
  ·intro l; simp only [nlt_self, cond_false]
theorem bAt_is {b : TBoard} (hb : pBoard b = true) (q : smTBoard b) (k i : Int) : X.s_bAt b k i = some (pIn k 0 ((b.Rules.Kinds.length : Int) - 1) && pIn i 0 ((b.Map.Terrain.length : Int) - 1)) := by
 obtain ⟨g1, g2, _⟩ := kinds_of hb
 obtain ⟨s1, s2, s3⟩ := size_of hb
 unfold X.s_bAt
 rw [(board_eq b q).1, hb]
 simp only [obs, cond_true, s_in, W_of (n := (b.Rules.Kinds.length : Int) - 1) (by omega), s1, W_of (n := (b.Map.Terrain.length : Int) - 1) (by omega)]
 cases pIn k 0 ((b.Rules.Kinds.length : Int) - 1) <;> rfl
def pSpots (b : TBoard) (u : TUnit) (x : Nat) : Bool := decide (u.At ≥ 0) && pSees b u.At.toNat (b.Rules.Kinds.getD u.Kind.toNat zTKind).View 1 x
theorem idxs_none (n : Nat) : idxs (fun _ => false) n = [] := by
 induction n with
 | zero => rfl
 | succ n ih => rw [idxs_succ, ih]; rfl
def rowOf (p : Nat → Bool) (n : Nat) : List Bool := (List.range n).map p
theorem rowOf_len (p : Nat → Bool) (n : Nat) : (rowOf p n).length = n := by simp [rowOf]
theorem rowOf_get (p : Nat → Bool) {n i : Nat} (h : i < n) : (rowOf p n).getD i zB = p i := by simp [rowOf, List.getD, h]
theorem rowOf_at (p : Nat → Bool) {n i : Nat} (h : i < n) : at' zB (rowOf p n) (i : Int) = some (p i) := by
 rw [at_getD (by rw [rowOf_len]; exact h), rowOf_get p h]
theorem rowOf_set (p : Nat → Bool) {n i : Nat} (v : Bool) : (rowOf p n).set i v = rowOf (fun x => if x = i then v else p x) n := by
 unfold rowOf
 apply List.ext_getElem
 ·simp
 ·intro j h1 h2
  simp only [List.getElem_set, List.getElem_map, List.getElem_range]
  by_cases e : i = j
  ·rw [if_pos e, if_pos e.symm]
  ·rw [if_neg e, if_neg fun h => e h.symm]
theorem rowOf_congr {p q : Nat → Bool} {n : Nat} (h : ∀ x, x < n → p x = q x) : rowOf p n = rowOf q n := by
 unfold rowOf
 exact List.map_congr_left fun x hx => h x (List.mem_range.1 hx)
theorem rowOf_none (n : Nat) : List.replicate n zB = rowOf (fun _ => false) n := by
 unfold rowOf
 apply List.ext_getElem
 ·simp
 ·intro j h1 h2; simp [zB]
theorem any_idxs (p : Nat → Bool) {n x : Nat} (hx : x < n) : ((idxs p n).any fun y => y == (x : Int)) = p x := by
 rw [Bool.eq_iff_iff, List.any_eq_true]
 constructor
 ·rintro ⟨y, hy, e⟩
  obtain ⟨k, hk, hp, rfl⟩ := idxs_mem.1 hy
  rw [beq_iff_eq] at e
  have : k = x := by omega
  rw [← this]; exact hp
 ·intro h
  exact ⟨(x : Int), idxs_mem.2 ⟨x, hx, h, rfl⟩, by simp⟩
theorem spots_eq {b : TBoard} (hb : pBoard b = true) (q : smTBoard b) {u : TUnit} (hu : pUnit b u = true) :
  X.s_fgSpots b u = some (idxs (pSpots b u) b.Map.Terrain.length) ∧ X.i_spots b u = some (rowOf (pSpots b u) b.Map.Terrain.length) := by
 obtain ⟨z1, z2, z3⟩ := size_of hb
 obtain ⟨_, k1, k2, _, _, hat⟩ := pUnit_iff hu
 obtain ⟨kd, hk⟩ := Int.eq_ofNat_of_zero_le k1
 have hlim : 0 ≤ (b.Map.Terrain.length : Int) ∧ (b.Map.Terrain.length : Int).toNat ≤ LIM := by unfold LIM; omega
 have hlim' : 0 ≤ (b.Map.Terrain.length : Int) ∧ b.Map.Terrain.length ≤ LIM := by unfold LIM; omega
 have hkI : pIn u.Kind 0 ((b.Rules.Kinds.length : Int) - 1) = true := pIn_iff.2 ⟨by omega, by omega⟩
 unfold X.s_fgSpots X.s_SeenBy X.i_spots X.i_seenBy X.s_vBy pSpots
 rw [bAt_is hb q, hkI]
 simp only [obs, Bool.true_and, X.i_sizeOf, Int.toNat_natCast, if_pos hlim']
 by_cases h0 : u.At ≥ 0
 ·obtain ⟨a, ha⟩ := Int.eq_ofNat_of_zero_le h0
  have hal : a < b.Map.Terrain.length := by rcases hat with h | ⟨_, _, h, _⟩ <;> omega
  have haI : pIn u.At 0 ((b.Map.Terrain.length : Int) - 1) = true := pIn_iff.2 ⟨by omega, by omega⟩
  have hkk : kd < b.Rules.Kinds.length := by omega
  have ha0 : decide ((a : Int) ≥ 0) = true := decide_eq_true (by omega)
  rw [haI]
  simp only [ha0, cond_true, Bool.not_true, cond_false, hk, at_getD hkk, obs, ha, Int.toNat_natCast, (vSeen_eq hb hal _ _).1, (vSeen_eq hb hal _ _).2, Bool.true_and]
  refine ⟨trivial, ?_⟩
  generalize hp : pSees b a (b.Rules.Kinds.getD kd zTKind).View 1 = p
  have hix : ∀ x ∈ idxs p b.Map.Terrain.length, ∃ k : Nat, x = (k : Int) ∧ k < b.Map.Terrain.length := fun x hx => by
   obtain ⟨k, hk, _, e⟩ := idxs_mem.1 hx
   exact ⟨k, e, hk⟩
  have hil := idxs_len p b.Map.Terrain.length
  have hres : rowOf (fun x => (idxs p b.Map.Terrain.length).any fun y => y == (x : Int)) b.Map.Terrain.length = rowOf p b.Map.Terrain.length := rowOf_congr fun x hx => any_idxs p hx
  change _ = some (rowOf p b.Map.Terrain.length)
  rw [← hres]
  generalize idxs p b.Map.Terrain.length = L at hix hil
  rw [run_st L.length (fun j => ((j : Int), rowOf (fun x => (L.take j).any fun y => y == (x : Int)) b.Map.Terrain.length)) (rowOf (fun x => L.any fun y => y == (x : Int)) b.Map.Terrain.length) ?_ ?_ ?_]
  ·rw [rowOf_none]; rfl
  ·intro j hj
   obtain ⟨k, e, hk⟩ := hix _ (List.getElem_mem hj)
   have g : 0 ≤ (k : Int) ∧ (k : Int) < ((rowOf (fun x => (L.take j).any fun y => y == (x : Int)) b.Map.Terrain.length).length : Int) := by rw [rowOf_len]; omega
   simp only [lt_cast hj, cond_true, at_nat hj, e, obs, if_pos g, Int.toNat_natCast, W_succ (show j < 4611686018427387904 by omega), rowOf_set]
   congr 4
   funext x
   rw [any_take _ _ hj, e]
   by_cases ex : x = k
   ·subst ex; simp
   ·have : ((k : Int) == (x : Int)) = false := beq_eq_false_iff_ne.2 (by omega)
    rw [if_neg ex, this, Bool.or_false]
  ·simp only [nlt_self, cond_false, List.take_length]
 ·have haI : pIn u.At 0 ((b.Map.Terrain.length : Int) - 1) = false := by
   cases h : pIn u.At 0 ((b.Map.Terrain.length : Int) - 1)
   ·rfl
   ·rw [pIn_iff] at h; omega
  rw [haI]
  simp only [decide_eq_false h0, cond_false, Bool.not_false, cond_true, obs, Bool.false_and, rowOf_none]
  exact ⟨by rw [idxs_none], trivial⟩
theorem put_list (A C : List Int) (j : Int) (hl : A.length + C.length ≤ 1000) (hA : ∀ a ∈ A, a < j) (hC : ∀ c ∈ C, j < c) :
  X.s_l1Put (A ++ C) j = some (A ++ ([j] : List Int) ++ C) ∧ X.s_l1Put (A ++ ([j] : List Int) ++ C) j = some (A ++ ([j] : List Int) ++ C) := by
 have hm := mL
 constructor
 ·unfold X.s_l1Put
  rw [run_st A.length (fun k => (k : Int)) (A.length : Int) (by rfl) ?_ ?_]
  ·have t1 : ((A ++ C).drop (0 : Int).toNat).take (((A.length : Nat) : Int).toNat - (0 : Int).toNat) = A := by simp
   have t2 : ((A ++ C).drop ((A.length : Nat) : Int).toNat).take ((((A ++ C).length : Nat) : Int).toNat - ((A.length : Nat) : Int).toNat) = C := by simp only [Int.toNat_natCast, List.length_append]; rw [List.drop_left, Nat.add_sub_cancel_left, List.take_length]
   have g1 : 0 ≤ (0 : Int) ∧ (0 : Int) ≤ ((A.length : Nat) : Int) ∧ ((A.length : Nat) : Int) ≤ (((A ++ C).length : Nat) : Int) := by simp; omega
   have g2 : 0 ≤ ((A.length : Nat) : Int) ∧ ((A.length : Nat) : Int) ≤ (((A ++ C).length : Nat) : Int) ∧ (((A ++ C).length : Nat) : Int) ≤ (((A ++ C).length : Nat) : Int) := by simp; omega
   have e1 : A.length ≤ LIM := by unfold LIM; omega
   have e2 : (A ++ ([j] : List Int)).length ≤ LIM := by unfold LIM; simp; omega
   have e3 : ((A ++ ([j] : List Int)) ++ C).length ≤ LIM := by unfold LIM; simp; omega
   by_cases hc : A.length < (A ++ C).length
   ·have hgt : j < (A ++ C)[A.length] := by
     rw [List.getElem_append_right (by omega)]
     exact hC _ (List.getElem_mem _)
    have hne : ((A ++ C)[A.length] == j) = false := beq_eq_false_iff_ne.2 (by omega)
    simp only [lt_cast hc, cond_true, at_nat hc, obs, hne, cond_false, Sum.elim_inl, if_pos g1, t1, List.nil_append, if_pos e1, if_pos e2, if_pos g2, t2, if_pos e3]
   ·have e : (A ++ C).length = A.length := by have : (A ++ C).length = A.length + C.length := List.length_append; omega
    have hc' : decide (((A.length : Nat) : Int) < (((A ++ C).length : Nat) : Int)) = false := by rw [e]; exact nlt_self _
    simp only [hc', cond_false, obs, Sum.elim_inl, if_pos g1, t1, List.nil_append, if_pos e1, if_pos e2, if_pos g2, t2, if_pos e3]
  ·intro k hk
   have hk2 : k < (A ++ C).length := by simp; omega
   have hlt : (A ++ C)[k] < j := by rw [List.getElem_append_left hk]; exact hA _ (List.getElem_mem hk)
   simp only [lt_cast hk2, cond_true, at_nat hk2, obs, decide_eq_true hlt, W_succ (show k < 4611686018427387904 by omega)]
  ·by_cases hc : A.length < (A ++ C).length
   ·have hgt : ¬ (A ++ C)[A.length] < j := by
     rw [List.getElem_append_right (by omega)]
     have hle : (A ++ C).length = A.length + C.length := List.length_append
     have := hC _ (List.getElem_mem (l := C) (n := A.length - A.length) (by omega))
     omega
    simp only [lt_cast hc, cond_true, at_nat hc, obs, decide_eq_false hgt, cond_false]
   ·have e : (A ++ C).length = A.length := by have : (A ++ C).length = A.length + C.length := List.length_append; omega
    have hc' : decide (((A.length : Nat) : Int) < (((A ++ C).length : Nat) : Int)) = false := by rw [e]; exact nlt_self _
    simp only [hc', cond_false]
 ·unfold X.s_l1Put
  have hlt0 : A.length < (A ++ ([j] : List Int) ++ C).length := by simp <;> omega
  have hat : (A ++ ([j] : List Int) ++ C)[A.length] = j := by simp
  rw [run_st A.length (fun k => (k : Int)) (A.length : Int) (by rfl) ?_ ?_]
  ·have hne : ((A ++ ([j] : List Int) ++ C)[A.length] == j) = true := beq_iff_eq.2 hat
   simp only [lt_cast hlt0, cond_true, at_nat hlt0, obs, hne, Sum.elim_inr]
  ·intro k hk
   have hk2 : k < (A ++ ([j] : List Int) ++ C).length := by simp; omega
   have hlt : (A ++ ([j] : List Int) ++ C)[k] < j := by simp only [List.append_assoc, List.getElem_append_left hk]; exact hA _ (List.getElem_mem hk)
   simp only [lt_cast hk2, cond_true, at_nat hk2, obs, decide_eq_true hlt, W_succ (show k < 4611686018427387904 by omega)]
  ·have hgt : ¬ (A ++ ([j] : List Int) ++ C)[A.length] < j := by rw [hat]; omega
   simp only [lt_cast hlt0, cond_true, at_nat hlt0, obs, decide_eq_false hgt, cond_false]
theorem idxs_cut (p : Nat → Bool) (j : Nat) : ∀ m, idxs p (j + m) = idxs p j ++ (idxs (fun k => p (j + k)) m).map fun x => x + (j : Int)
 | 0 => by simp [idxs_zero]
 | m + 1 => by
  rw [show j + (m + 1) = (j + m) + 1 by omega, idxs_succ, idxs_succ, idxs_cut p j m]
  cases p (j + m)
  ·rfl
  ·simp only [cond_true, List.map_append, List.append_assoc, List.map_cons, List.map_nil]
   congr 3
   omega
def above (p : Nat → Bool) (j m : Nat) : List Int := (idxs (fun k => p (j + 1 + k)) m).map fun x => x + ((j + 1 : Nat) : Int)
theorem idxs_at (p : Nat → Bool) (j m : Nat) : idxs p (j + 1 + m) = (bif p j then idxs p j ++ [(j : Int)] else idxs p j) ++ above p j m := by
 rw [idxs_cut, idxs_succ]; rfl
theorem put_eq (p : Nat → Bool) {n j : Nat} (hn : n ≤ 100) (hj : j < n) : X.s_l1Put (idxs p n) (j : Int) = some (idxs (fun x => p x || x == j) n) := by
 obtain ⟨m, rfl⟩ : ∃ m, n = j + 1 + m := ⟨n - (j + 1), by omega⟩
 have l1 := idxs_len p j
 have l2 : (above p j m).length ≤ m := by unfold above; rw [List.length_map]; exact idxs_len _ _
 have hA : ∀ a ∈ idxs p j, a < (j : Int) := fun a ha => by obtain ⟨k, hk, _, rfl⟩ := idxs_mem.1 ha; omega
 have hC : ∀ c ∈ above p j m, (j : Int) < c := fun c hc => by
  unfold above at hc
  rw [List.mem_map] at hc
  obtain ⟨x, hx, rfl⟩ := hc
  obtain ⟨k, _, _, rfl⟩ := idxs_mem.1 hx
  omega
 obtain ⟨h1, h2⟩ := put_list (idxs p j) (above p j m) (j : Int) (by omega) hA hC
 have hr : idxs (fun x => p x || x == j) (j + 1 + m) = idxs p j ++ ([(j : Int)] : List Int) ++ above p j m := by
  rw [idxs_at]
  have e1 : idxs (fun x => p x || x == j) j = idxs p j := idxs_congr j fun k hk => by
   have : (k == j) = false := beq_eq_false_iff_ne.2 (by omega)
   simp [this]
  have e2 : above (fun x => p x || x == j) j m = above p j m := by
   unfold above
   rw [idxs_congr m fun k hk => ?_]
   have : (j + 1 + k == j) = false := beq_eq_false_iff_ne.2 (by omega)
   simp [this]
  rw [e1, e2]
  simp
 rw [hr, idxs_at]
 cases p j
 ·exact h1
 ·exact h2
theorem puts_run {γ : Type} {f : List Int → Option γ} (p q : Nat → Bool) {n : Nat} (hn : n ≤ 100) :
  ((loop (fun (x86 : ((List Int) × Int)) => ((bif (decide (x86.2 < ((idxs q n).length : Int))) then ((at' zI (idxs q n) x86.2).bind fun v89 => ((X.s_l1Put x86.1 v89).bind fun v91 => some (Sum.inl (v91, (W (x86.2 + 1)))))) else some (Sum.inr x86.1)) : Option (((List Int) × Int) ⊕ (List Int)))) (idxs p n, 0)).bind f) = f (idxs (fun x => p x || q x) n) := by
 have hres : idxs (fun x => p x || q x) n = idxs (fun x => p x || (idxs q n).any fun y => y == (x : Int)) n := idxs_congr n fun x hx => by rw [any_idxs q hx]
 have hix : ∀ x ∈ idxs q n, ∃ k : Nat, x = (k : Int) ∧ k < n := fun x hx => by
  obtain ⟨k, hk, _, e⟩ := idxs_mem.1 hx
  exact ⟨k, e, hk⟩
 have hil := idxs_len q n
 rw [hres]
 generalize idxs q n = L at hix hil
 rw [run_st L.length (fun j => (idxs (fun x => p x || (L.take j).any fun y => y == (x : Int)) n, (j : Int))) (idxs (fun x => p x || L.any fun y => y == (x : Int)) n) (by simp) ?_ ?_]
 ·intro j hj
  obtain ⟨k, e, hk⟩ := hix _ (List.getElem_mem hj)
  simp only [lt_cast hj, cond_true, at_nat hj, e, obs, put_eq _ hn hk, W_succ (show j < 4611686018427387904 by omega)]
  congr 4
  funext x
  rw [any_take _ _ hj, e, Bool.or_assoc]
  congr 2
  rw [Bool.eq_iff_iff, beq_iff_eq, beq_iff_eq]
  omega
 ·simp only [nlt_self, cond_false, List.take_length]
def pSeen (b : TBoard) (s : TState) (d : Int) (x : Nat) : Bool := (idxs (pOf s.Units d) s.Units.length).any fun u => pSpots b (s.Units.getD u.toNat zTUnit) x
theorem fgSeen_eq {b : TBoard} (hb : pBoard b = true) (q : smTBoard b) {s : TState} (hs : pState b s = true) (qs : smTState s) (d : Int) :
  X.s_fgSeen b s d = some (idxs (pSeen b s d) b.Map.Terrain.length) ∧ X.i_sees b s d = some (rowOf (pSeen b s d) b.Map.Terrain.length) := by
 obtain ⟨z1, z2, z3⟩ := size_of hb
 have hU : s.Units.length ≤ SM := qs.2.2.1.1
 have hul := units_of hs
 have hlim' : 0 ≤ (b.Map.Terrain.length : Int) ∧ b.Map.Terrain.length ≤ LIM := by unfold LIM; omega
 have eU : X.i_unitsOf s d = X.s_sOf s d := rfl
 have hil := idxs_len (pOf s.Units d) s.Units.length
 have hix : ∀ x ∈ idxs (pOf s.Units d) s.Units.length, ∃ k : Nat, x = (k : Int) ∧ k < s.Units.length := fun x hx => by
  obtain ⟨k, hk, _, e⟩ := idxs_mem.1 hx
  exact ⟨k, e, hk⟩
 unfold X.s_fgSeen X.i_sees pSeen
 rw [eU, sOf_eq s d (by omega)]
 simp only [obs, X.i_sizeOf, Int.toNat_natCast, if_pos hlim']
 generalize idxs (pOf s.Units d) s.Units.length = L at hil hix
 constructor
 ·rw [run_st L.length (fun j => (idxs (fun x => (L.take j).any fun u => pSpots b (s.Units.getD u.toNat zTUnit) x) b.Map.Terrain.length, (j : Int))) (idxs (fun x => L.any fun u => pSpots b (s.Units.getD u.toNat zTUnit) x) b.Map.Terrain.length) (by simp [idxs_none]) ?_ ?_]
  ·intro j hj
   obtain ⟨k, e, hk⟩ := hix _ (List.getElem_mem hj)
   simp only [lt_cast hj, cond_true, at_nat hj, e, obs, at_getD hk, (spots_eq hb q (unit_of hs hk)).1]
   rw [puts_run _ _ (by omega)]
   simp only [W_succ (show j < 4611686018427387904 by omega)]
   congr 4
   funext x
   rw [any_take _ _ hj, e, Int.toNat_natCast]
  ·simp only [nlt_self, cond_false, List.take_length]
 ·rw [run_st L.length (fun j => ((j : Int), rowOf (fun x => (L.take j).any fun u => pSpots b (s.Units.getD u.toNat zTUnit) x) b.Map.Terrain.length)) (rowOf (fun x => L.any fun u => pSpots b (s.Units.getD u.toNat zTUnit) x) b.Map.Terrain.length) (by rw [rowOf_none]; simp) ?_ ?_]
  ·intro j hj
   obtain ⟨k, e, hk⟩ := hix _ (List.getElem_mem hj)
   simp only [lt_cast hj, cond_true, at_nat hj, e, obs, at_getD hk, (spots_eq hb q (unit_of hs hk)).2]
   obtain ⟨P, hP⟩ : ∃ P : Nat → Bool, P = fun x => (L.take j).any fun u => pSpots b (s.Units.getD u.toNat zTUnit) x := ⟨_, rfl⟩
   have hex : (fun x => (L.take (j + 1)).any fun u => pSpots b (s.Units.getD u.toNat zTUnit) x) = fun x => P x || pSpots b (s.Units.getD k zTUnit) x := by
    funext x
    rw [any_take _ _ hj, e, Int.toNat_natCast, hP]
   rw [hex, ← hP]
   generalize pSpots b (s.Units.getD k zTUnit) = Q
   have hlen := rowOf_len Q b.Map.Terrain.length
   rw [run_st b.Map.Terrain.length (fun i => ((i : Int), rowOf (fun x => if x < i then P x || Q x else P x) b.Map.Terrain.length)) (rowOf (fun x => P x || Q x) b.Map.Terrain.length) (by simp) ?_ ?_]
   ·simp only [W_succ (show j < 4611686018427387904 by omega)]
   ·intro i hi
    have hi' : i < (rowOf Q b.Map.Terrain.length).length := by rw [hlen]; exact hi
    have g : 0 ≤ (i : Int) ∧ (i : Int) < ((rowOf (fun x => if x < i then P x || Q x else P x) b.Map.Terrain.length).length : Int) := by rw [rowOf_len]; omega
    simp only [lt_cast hi', cond_true, rowOf_at Q hi, obs, if_pos g, Int.toNat_natCast, rowOf_get _ hi, Nat.lt_irrefl, if_false, rowOf_set, W_succ (show i < 4611686018427387904 by omega)]
    have hstep : ∀ v : Bool, v = (P i || Q i) → rowOf (fun x => if x = i then v else if x < i then P x || Q x else P x) b.Map.Terrain.length = rowOf (fun x => if x < i + 1 then P x || Q x else P x) b.Map.Terrain.length := fun v hv => rowOf_congr fun x hx => by
     by_cases e : x = i
     ·subst e; simp [hv]
     ·by_cases c : x < i
      ·simp [e, c, show x < i + 1 by omega]
      ·simp [e, c, show ¬ x < i + 1 by omega]
    cases hP : P i
    ·rw [cond_false, hstep _ (by rw [hP]; rfl)]
    ·rw [cond_true, hstep _ (by rw [hP]; rfl)]
   ·have hn : decide ((b.Map.Terrain.length : Int) < ((rowOf Q b.Map.Terrain.length).length : Int)) = false := by rw [hlen]; exact nlt_self _
    simp only [hn, cond_false]
    congr 2
    exact rowOf_congr fun x hx => by simp [hx]
  ·simp only [nlt_self, cond_false, List.take_length]
def uBefore (a b : TUnit) : Bool := bif a.At != b.At then decide (a.At < b.At) else bif a.Kind != b.Kind then decide (a.Kind < b.Kind) else decide (a.Steps < b.Steps)
theorem before_eq (a b : TUnit) : X.s_fgBefore a b = some (uBefore a b) := by
 unfold X.s_fgBefore uBefore
 cases a.At != b.At <;> cases a.Kind != b.Kind <;> rfl
theorem compare_eq (a b : TUnit) (ha : 0 ≤ a.Kind ∧ a.Kind < 100 ∧ 0 ≤ a.Steps ∧ a.Steps < 100 ∧ -1 ≤ a.At ∧ a.At < 1000) (hb : 0 ≤ b.Kind ∧ b.Kind < 100 ∧ 0 ≤ b.Steps ∧ b.Steps < 100 ∧ -1 ≤ b.At ∧ b.At < 1000) :
  ∃ v : Int, X.i_compareUnits a b = some v ∧ decide (v < 0) = uBefore a b := by
 unfold X.i_compareUnits uBefore
 cases a.At != b.At
 ·cases a.Kind != b.Kind
  ·refine ⟨_, rfl, ?_⟩
   simp only [cond_false]
   rw [W_of (by omega), Bool.eq_iff_iff]
   simp only [decide_eq_true_eq]; omega
  ·refine ⟨_, rfl, ?_⟩
   simp only [cond_false, cond_true]
   rw [W_of (by omega), Bool.eq_iff_iff]
   simp only [decide_eq_true_eq]; omega
 ·refine ⟨_, rfl, ?_⟩
  simp only [cond_true]
  rw [W_of (by omega), Bool.eq_iff_iff]
  simp only [decide_eq_true_eq]; omega
theorem unit_small {b : TBoard} (h : pBoard b = true) {u : TUnit} (hu : pUnit b u = true) : 0 ≤ u.Kind ∧ u.Kind < 100 ∧ 0 ≤ u.Steps ∧ u.Steps < 100 ∧ -1 ≤ u.At ∧ u.At < 1000 := by
 obtain ⟨_, h1, h2, h3, h4, h5⟩ := pUnit_iff hu
 obtain ⟨j, hj⟩ := Int.eq_ofNat_of_zero_le h1
 have hjl : j < b.Rules.Kinds.length := by omega
 have := kind_of h hjl
 rw [hj, Int.toNat_natCast] at h4
 obtain ⟨g1, g2, _⟩ := kinds_of h
 obtain ⟨_, s2, s3⟩ := size_of h
 omega
def bub : Nat → List TUnit → List TUnit
 | 0, l => l
 | j + 1, l => bif uBefore (l.getD (j + 1) zTUnit) (l.getD j zTUnit) then bub j ((l.set (j + 1) (l.getD j zTUnit)).set j (l.getD (j + 1) zTUnit)) else l
theorem bub_len : ∀ (j : Nat) (l : List TUnit), (bub j l).length = l.length
 | 0, _ => rfl
 | j + 1, l => by
  unfold bub
  cases uBefore (l.getD (j + 1) zTUnit) (l.getD j zTUnit)
  ·rfl
  ·rw [cond_true, bub_len j]; simp
theorem bub_mem : ∀ (j : Nat) (l : List TUnit), j < l.length → ∀ u ∈ bub j l, u ∈ l
 | 0, _, _, u, h => h
 | j + 1, l, hj, u, h => by
  unfold bub at h
  cases hb : uBefore (l.getD (j + 1) zTUnit) (l.getD j zTUnit)
  ·rw [hb] at h; exact h
  ·rw [hb, cond_true] at h
   have h1 := bub_mem j _ (by simp; omega) u h
   rcases List.mem_or_eq_of_mem_set h1 with h2 | h2
   ·rcases List.mem_or_eq_of_mem_set h2 with h3 | h3
    ·exact h3
    ·rw [h3]; exact getD_mem (by omega)
   ·rw [h2]; exact getD_mem hj
theorem bub_append : ∀ (j : Nat) (l r : List TUnit), j < l.length → bub j (l ++ r) = bub j l ++ r
 | 0, _, _, _ => rfl
 | j + 1, l, r, hj => by
  unfold bub
  have e1 : (l ++ r).getD (j + 1) zTUnit = l.getD (j + 1) zTUnit := by simp only [List.getD]; rw [List.getElem?_append_left hj]
  have e2 : (l ++ r).getD j zTUnit = l.getD j zTUnit := by simp only [List.getD]; rw [List.getElem?_append_left (by omega)]
  rw [e1, e2]
  cases uBefore (l.getD (j + 1) zTUnit) (l.getD j zTUnit)
  ·rfl
  ·rw [cond_true, cond_true, List.set_append_left _ _ hj, List.set_append_left _ _ (by simp; omega), bub_append j _ r (by simp; omega)]
def srt (l : List TUnit) : List TUnit := l.foldl (fun a u => bub a.length (a ++ [u])) []
theorem srt_snoc (l : List TUnit) (u : TUnit) : srt (l ++ [u]) = bub (srt l).length (srt l ++ [u]) := by
 unfold srt; rw [List.foldl_append]; rfl
theorem srt_len (l : List TUnit) : (srt l).length = l.length := by
 suffices ∀ n, ∀ l : List TUnit, l.length = n → (srt l).length = l.length from this _ l rfl
 intro n
 induction n with
 | zero => intro l h; rw [List.eq_nil_of_length_eq_zero h]; rfl
 | succ n ih =>
  intro l h
  have hne : l ≠ [] := fun e => by rw [e] at h; cases h
  rw [← List.dropLast_concat_getLast hne, srt_snoc, bub_len]
  have hl : l.dropLast.length = n := by simp [h]
  rw [List.length_append, ih _ hl]; simp
theorem srt_mem (l : List TUnit) : ∀ u ∈ srt l, u ∈ l := by
 suffices ∀ n, ∀ l : List TUnit, l.length = n → ∀ u ∈ srt l, u ∈ l from this _ l rfl
 intro n
 induction n with
 | zero => intro l h u hu; rw [List.eq_nil_of_length_eq_zero h] at hu ⊢; exact hu
 | succ n ih =>
  intro l h u hu
  have hne : l ≠ [] := fun e => by rw [e] at h; cases h
  have hl : l.dropLast.length = n := by simp [h]
  rw [← List.dropLast_concat_getLast hne, srt_snoc] at hu
  have h1 := bub_mem _ _ (by simp) u hu
  rcases List.mem_append.1 h1 with h1 | h1
  ·exact List.dropLast_subset l (ih _ hl u h1)
  ·simp only [List.mem_singleton] at h1; rw [h1]; exact List.getLast_mem hne
def Sml (u : TUnit) : Prop := 0 ≤ u.Kind ∧ u.Kind < 100 ∧ 0 ≤ u.Steps ∧ u.Steps < 100 ∧ -1 ≤ u.At ∧ u.At < 1000
theorem sort_in {body : Int × List TUnit → Option ((Int × List TUnit) ⊕ List TUnit)}
  (hb : ∀ (j : Nat) (l : List TUnit), j < l.length → l.length ≤ SM → body ((j : Int), l) = bif decide ((j : Int) > 0) then (if 0 ≤ (j : Int) ∧ (j : Int) < (l.length : Int) then (if 0 ≤ (W ((j : Int) - 1)) ∧ (W ((j : Int) - 1)) < (l.length : Int) then ((X.i_compareUnits (l.getD j zTUnit) (l.getD ((W ((j : Int) - 1)).toNat) zTUnit)).bind fun v => (bif (decide (v < 0)) then some (Sum.inl ((W ((j : Int) - 1)), (l.set j (l.getD ((W ((j : Int) - 1)).toNat) zTUnit)).set ((W ((j : Int) - 1)).toNat) (l.getD j zTUnit))) else some (Sum.inr l))) else none) else none) else some (Sum.inr l)) :
  ∀ (j : Nat) (l : List TUnit), j < l.length → l.length ≤ SM → (∀ u ∈ l, Sml u) → loop body ((j : Int), l) = some (bub j l)
 | 0, l, hj, hl, _ => by
  rw [loop_eq, hb 0 l hj hl]; rfl
 | j + 1, l, hj, hl, hs => by
  have hm := mL
  have hl' := hl
  unfold SM at hl'
  have e1 : decide (((j + 1 : Nat) : Int) > 0) = true := decide_eq_true (by omega)
  have e2 : W (((j + 1 : Nat) : Int) - 1) = (j : Int) := by rw [W_of (by omega)]; omega
  obtain ⟨v, c1, c2⟩ := compare_eq (l.getD (j + 1) zTUnit) (l.getD j zTUnit) (hs _ (getD_mem hj)) (hs _ (getD_mem (by omega)))
  rw [loop_eq, hb (j + 1) l hj hl]
  simp only [e1, cond_true, e2, Int.toNat_natCast, if_pos (show 0 ≤ ((j + 1 : Nat) : Int) ∧ ((j + 1 : Nat) : Int) < (l.length : Int) by omega), if_pos (show 0 ≤ (j : Int) ∧ (j : Int) < (l.length : Int) by omega), c1, obs, c2]
  unfold bub
  cases uBefore (l.getD (j + 1) zTUnit) (l.getD j zTUnit)
  ·rfl
  ·simp only [cond_true]
   refine sort_in hb j _ (by simp; omega) (by simp; exact hl) fun u hu => ?_
   rcases List.mem_or_eq_of_mem_set hu with h2 | h2
   ·rcases List.mem_or_eq_of_mem_set h2 with h3 | h3
    ·exact hs u h3
    ·rw [h3]; exact hs _ (getD_mem (by omega))
   ·rw [h2]; exact hs _ (getD_mem hj)
theorem insertion_eq (l : List TUnit) (hl : l.length ≤ SM) (hs : ∀ u ∈ l, Sml u) : X.g_insertionSortCmpFunc_Unit_Moddf l 0 (l.length : Int) (fun q0 q1 => X.i_compareUnits q0 q1) = some (srt l) := by
 have hm := mL
 have hl' := hl
 unfold SM at hl'
 unfold X.g_insertionSortCmpFunc_Unit_Moddf
 have e0 : W ((0 : Int) + 1) = ((1 : Nat) : Int) := rfl
 rw [e0]
 refine run_ind (fun o => o = some (srt l)) (fun (t : Int × List TUnit) => ∃ i : Nat, t.1 = (i : Int) ∧ 1 ≤ i ∧ (i ≤ l.length ∨ i = 1) ∧ t.2 = srt (l.take i) ++ l.drop i) (fun t => l.length - t.1.toNat) (fun r => r = srt l) ⟨1, rfl, Nat.le_refl _, .inr rfl, ?_⟩ ?_ (fun r hr => by rw [hr])
 ·cases l with
  | nil => rfl
  | cons u r => simp [srt, bub]
 ·rintro ⟨x, a⟩ ⟨i, rfl, hi1, hi, rfl⟩
  by_cases h : i < l.length
  ·left
   have hlen : (srt (l.take i) ++ l.drop i).length = l.length := by rw [List.length_append, srt_len, List.length_drop, List.length_take]; omega
   have hmem : ∀ u ∈ srt (l.take i) ++ l.drop i, Sml u := fun u hu => by
    rcases List.mem_append.1 hu with hu | hu
    ·exact hs u (List.mem_of_mem_take (srt_mem _ u hu))
    ·exact hs u (List.mem_of_mem_drop hu)
   have hst : (srt (l.take i)).length = i := by rw [srt_len, List.length_take]; omega
   have e3 : bub i (srt (l.take i) ++ l.drop i) = srt (l.take (i + 1)) ++ l.drop (i + 1) := by
    rw [List.take_succ_eq_append_getElem h, srt_snoc, hst, List.drop_eq_getElem_cons h]
    have : srt (l.take i) ++ l[i] :: l.drop (i + 1) = (srt (l.take i) ++ [l[i]]) ++ l.drop (i + 1) := by simp
    rw [this, bub_append _ _ _ (by simp [hst])]
   simp only [lt_cast h, cond_true]
   rw [sort_in (fun j a hj ha => by
    simp only [obs, Int.toNat_natCast]) i _ (by rw [hlen]; exact h) (by rw [hlen]; exact hl) hmem]
   refine ⟨_, rfl, ⟨i + 1, ?_, by omega, .inl (by omega), e3⟩, ?_⟩
   ·simp only; rw [W_of (by omega)]; omega
   ·simp only; rw [W_of (by omega)]; omega
  ·right
   have e : decide ((i : Int) < (l.length : Int)) = false := decide_eq_false (by omega)
   simp only [e, cond_false]
   refine ⟨_, rfl, ?_⟩
   rw [List.take_of_length_le (by omega), List.drop_eq_nil_of_le (by omega), List.append_nil]
theorem bits_eq (n : Nat) (h : n ≤ 12) : ∃ v, X.x_math_bits_Len (IntKind.u64.wrap (n : Int)) = some v := by
 have : ∀ n : Fin 13, (X.x_math_bits_Len (IntKind.u64.wrap ((n : Nat) : Int))).isSome = true := by
  unfold X.x_math_bits_Len X.x_math_bits_Len64
  decide
 have h1 := this ⟨n, by omega⟩
 exact Option.isSome_iff_exists.1 h1
theorem sortFunc_eq (l : List TUnit) (hl : l.length ≤ 12) (hs : ∀ u ∈ l, Sml u) : X.g_SortFunc_Unit_Mof l (fun q0 q1 => X.i_compareUnits q0 q1) = some (srt l) := by
 have hm := mL
 have hl2 : l.length ≤ SM := by unfold SM; omega
 obtain ⟨v, hv⟩ := bits_eq l.length hl
 unfold X.g_SortFunc_Unit_Mof X.g_pdqsortCmpFunc_Unit_Modddf
 rw [hv]
 simp only [obs]
 rw [loop_eq]
 have e1 : decide (W ((l.length : Int) - 0) ≤ 12) = true := decide_eq_true (by rw [W_of (by omega)]; omega)
 simp only [e1, cond_true, insertion_eq l hl2 hs, obs, srt_len, if_true]
theorem filter_take {α : Type} (l : List α) (p : α → Bool) {j : Nat} (hj : j < l.length) : (l.take (j + 1)).filter p = bif p l[j] then (l.take j).filter p ++ [l[j]] else (l.take j).filter p := by
 rw [List.take_succ_eq_append_getElem hj, List.filter_append]
 cases h : p l[j] <;> simp [h]
def pEnemy (S : List Int) (d : Int) (u : TUnit) : Bool := !(u.Side == d) && (decide (u.At ≥ 0) && S.any fun v => v == u.At)
def vOf (b : TBoard) (s : TState) (d : Int) : TView := ⟨d, s.Turn, s.Weather, idxs (pSeen b s d) b.Map.Terrain.length, s.Units.filter fun u => u.Side == d, srt (s.Units.filter (pEnemy (idxs (pSeen b s d) b.Map.Terrain.length) d))⟩
theorem seen_eq {b : TBoard} (hb : pBoard b = true) (q : smTBoard b) {s : TState} (hs : pState b s = true) (qs : smTState s) (d : Int) : X.s_fgSeen b s d = some (idxs (pSeen b s d) b.Map.Terrain.length) ∧ X.i_seenHexes b s d = some (idxs (pSeen b s d) b.Map.Terrain.length) := by
 have hl : b.Map.Terrain.length ≤ 1048576 := by have := (size_of hb).2.2; omega
 refine ⟨(fgSeen_eq hb q hs qs d).1, ?_⟩
 unfold X.i_seenHexes
 rw [(fgSeen_eq hb q hs qs d).2]
 simp only [obs]
 rw [hexes_eq (p := pSeen b s d) hl fun j hj => by simp only [X.i_seenHexes_1, rowOf_at _ hj, obs]]
 rfl
theorem spec_in {body : Int × List TUnit × List TUnit → Option ((Int × List TUnit × List TUnit) ⊕ (List TUnit × List TUnit))}
  (hb : ∀ (j : Nat) (l o : List TUnit), body ((j : Int), l, o) = bif decide ((j : Int) > 0) then (if 0 ≤ (j : Int) ∧ (j : Int) < (l.length : Int) then (if 0 ≤ (W ((j : Int) - 1)) ∧ (W ((j : Int) - 1)) < (l.length : Int) then ((X.s_fgBefore (l.getD j zTUnit) (l.getD ((W ((j : Int) - 1)).toNat) zTUnit)).bind fun v => (bif v then some (Sum.inl ((W ((j : Int) - 1)), (l.set j (l.getD ((W ((j : Int) - 1)).toNat) zTUnit)).set ((W ((j : Int) - 1)).toNat) (l.getD j zTUnit), o)) else some (Sum.inr (l, o)))) else none) else none) else some (Sum.inr (l, o))) :
  ∀ (j : Nat) (l o : List TUnit), j < l.length → l.length ≤ SM → loop body ((j : Int), l, o) = some (bub j l, o)
 | 0, l, o, hj, hl => by rw [loop_eq, hb 0 l o]; rfl
 | j + 1, l, o, hj, hl => by
  have hm := mL
  have hl' := hl
  unfold SM at hl'
  have e1 : decide (((j + 1 : Nat) : Int) > 0) = true := decide_eq_true (by omega)
  have e2 : W (((j + 1 : Nat) : Int) - 1) = (j : Int) := by rw [W_of (by omega)]; omega
  rw [loop_eq, hb (j + 1) l o]
  simp only [e1, cond_true, e2, Int.toNat_natCast, if_pos (show 0 ≤ ((j + 1 : Nat) : Int) ∧ ((j + 1 : Nat) : Int) < (l.length : Int) by omega), if_pos (show 0 ≤ (j : Int) ∧ (j : Int) < (l.length : Int) by omega), before_eq, obs]
  unfold bub
  cases uBefore (l.getD (j + 1) zTUnit) (l.getD j zTUnit)
  ·rfl
  ·simp only [cond_true]
   exact spec_in hb j _ o (by simp; omega) (by simp; exact hl)
theorem viewOf_eq {b : TBoard} (hb : pBoard b = true) (q : smTBoard b) {s : TState} (hs : pState b s = true) (qs : smTState s) (d : Int) : X.s_fgView b s d = some (vOf b s d) ∧ X.i_viewOf b s d = some (vOf b s d) := by
 have hm := mL
 have hU := units_of hs
 obtain ⟨z1, z2, z3⟩ := size_of hb
 have hSl := idxs_len (pSeen b s d) b.Map.Terrain.length
 unfold X.s_fgView X.i_viewOf vOf
 rw [(seen_eq hb q hs qs d).1, (seen_eq hb q hs qs d).2]
 simp only [obs]
 generalize idxs (pSeen b s d) b.Map.Terrain.length = S at hSl
 have hfl : ∀ (p : TUnit → Bool) (j : Nat), ((s.Units.take j).filter p).length ≤ 12 := fun p j => by
  have h1 := List.length_filter_le p (s.Units.take j)
  have h2 := List.length_take_le j s.Units
  simp only [List.length_take] at h1
  omega
 have hlim : ∀ (l : List TUnit) (u : TUnit), l.length ≤ 12 → (l ++ ([u] : List TUnit)).length ≤ LIM := fun l u h => by simp; unfold LIM; omega
 have hsm : ∀ u ∈ s.Units, Sml u := fun u hu => by
  obtain ⟨k, hk, rfl⟩ := List.getElem_of_mem hu
  have := unit_small hb (unit_of hs hk)
  have e : s.Units.getD k zTUnit = s.Units[k] := by simp [List.getD, hk]
  rw [e] at this; exact this
 have hge : ∀ {j : Nat} (hj : j < s.Units.length), s.Units.getD j zTUnit = s.Units[j] := fun {j} hj => by simp [List.getD, hj]
 constructor
 ·rw [run_st s.Units.length (fun j => ((j : Int), (s.Units.take j).filter (fun u => u.Side == d), srt ((s.Units.take j).filter (pEnemy S d)))) (s.Units.filter (fun u => u.Side == d), srt (s.Units.filter (pEnemy S d))) (by rfl) ?_ ?_]
  ·intro j hj
   have w1 : W ((j : Int) + 1) = ((j + 1 : Nat) : Int) := by rw [W_of (by omega)]; omega
   have hle := hfl (pEnemy S d) j
   simp only [lt_cast hj, cond_true, at_getD hj, obs, hge hj, w1, filter_take _ _ hj, if_pos (hlim _ _ (hfl (fun u => u.Side == d) j))]
   cases h1 : (s.Units[j]).Side == d
   ·simp only [cond_false]
    have h2 : pEnemy S d s.Units[j] = (decide ((s.Units[j]).At ≥ 0) && S.any fun v => v == (s.Units[j]).At) := by unfold pEnemy; rw [h1]; rfl
    rw [h2]
    cases decide ((s.Units[j]).At ≥ 0)
    ·rfl
    ·simp only [cond_true, Bool.true_and, has_eq S _ (show S.length ≤ maxLen by omega), obs]
     cases S.any fun v => v == (s.Units[j]).At
     ·rfl
     ·have hl1 : (srt ((s.Units.take j).filter (pEnemy S d))).length ≤ 12 := by rw [srt_len]; exact hle
      have e2 : W (((srt ((s.Units.take j).filter (pEnemy S d)) ++ ([s.Units[j]] : List TUnit)).length : Int) - 1) = ((srt ((s.Units.take j).filter (pEnemy S d))).length : Int) := by
       rw [W_of (by simp; omega)]; simp
      simp only [cond_true, if_pos (hlim _ _ hl1), e2]
      rw [spec_in (fun j l o => by simp only [obs, Int.toNat_natCast]) _ _ _ (by simp) (by simp; unfold SM; omega), srt_snoc]
      rfl
   ·have h2 : pEnemy S d s.Units[j] = false := by unfold pEnemy; rw [h1]; rfl
    rw [h2]; rfl
  ·simp only [nlt_self, cond_false, List.take_length]
 ·rw [run_st s.Units.length (fun j => ((j : Int), (s.Units.take j).filter (fun u => u.Side == d), (s.Units.take j).filter (pEnemy S d))) (s.Units.filter (fun u => u.Side == d), s.Units.filter (pEnemy S d)) (by rfl) ?_ ?_]
  ·have h1 : (s.Units.filter (pEnemy S d)).length ≤ 12 := Nat.le_trans (List.length_filter_le _ _) hU
   simp only [sortFunc_eq _ h1 fun u hu => hsm u (List.mem_filter.1 hu).1, obs, srt_len, if_true]
  ·intro j hj
   have w1 : W ((j : Int) + 1) = ((j + 1 : Nat) : Int) := by rw [W_of (by omega)]; omega
   simp only [lt_cast hj, cond_true, at_getD hj, obs, hge hj, w1, filter_take _ _ hj, if_pos (hlim _ _ (hfl (fun u => u.Side == d) j)), if_pos (hlim _ _ (hfl (pEnemy S d) j))]
   cases h1 : (s.Units[j]).Side == d
   ·simp only [cond_false]
    have h2 : pEnemy S d s.Units[j] = (decide ((s.Units[j]).At ≥ 0) && S.any fun v => v == (s.Units[j]).At) := by unfold pEnemy; rw [h1]; rfl
    rw [h2]
    cases decide ((s.Units[j]).At ≥ 0)
    ·rfl
    ·simp only [cond_true, Bool.true_and, contains_int S _ (show S.length ≤ maxLen by omega), any_comm, obs]
     cases S.any fun v => v == (s.Units[j]).At <;> rfl
   ·have h2 : pEnemy S d s.Units[j] = false := by unfold pEnemy; rw [h1]; rfl
    rw [h2]; rfl
  ·simp only [nlt_self, cond_false, List.take_length]
theorem sameView_eq {a0 a1 : TView} (h1 : a0.Seen.length ≤ maxLen) (h2 : a0.Own.length ≤ maxLen) (h3 : a0.Enemies.length ≤ maxLen) : ∃ w, X.s_fgSame a0 a1 = some w ∧ X.i_SameView a0 a1 = some w := by
 have hi : ∀ xs ys : List Int, xs.length ≤ maxLen → X.s_l1Same xs ys = some _ := fun xs ys h => (eqL_eq (z := zI) (f := fun a b => some (a == b)) (p := fun a b => a == b) h (fun _ _ _ _ => rfl) : _)
 have hu : ∀ xs ys : List TUnit, xs.length ≤ maxLen → X.s_fgUnits xs ys = some _ := fun xs ys h => (eqL_eq (z := zTUnit) (f := fun v21 v23 => some ((v21.Side == v23.Side) && ((v21.Kind == v23.Kind) && ((v21.At == v23.At) && ((v21.Steps == v23.Steps) && true)))))
  (p := fun v21 v23 => ((v21.Side == v23.Side) && ((v21.Kind == v23.Kind) && ((v21.At == v23.At) && ((v21.Steps == v23.Steps) && true))))) h (fun _ _ _ _ => rfl) : _)
 have hi' : X.g_Equal_int = X.s_l1Same := rfl
 have hu' : X.g_Equal_Unit = X.s_fgUnits := rfl
 have e : X.i_SameView a0 a1 = X.s_fgSame a0 a1 := by
  unfold X.i_SameView X.s_fgSame
  rw [hi', hu']
 rw [e]
 simp only [and_self]
 unfold X.s_fgSame
 obtain ⟨b1, g1⟩ : ∃ b, X.s_l1Same a0.Seen a1.Seen = some b := ⟨_, hi _ _ h1⟩
 obtain ⟨b2, g2⟩ : ∃ b, X.s_fgUnits a0.Own a1.Own = some b := ⟨_, hu _ _ h2⟩
 obtain ⟨b3, g3⟩ : ∃ b, X.s_fgUnits a0.Enemies a1.Enemies = some b := ⟨_, hu _ _ h3⟩
 rw [g1, g2, g3]
 cases a0.Side == a1.Side <;> cases a0.Turn == a1.Turn <;> cases a0.Weather == a1.Weather <;> cases b1 <;> cases b2 <;> simp
theorem all_iff {α : Type} {p : α → α → Bool} (hp : ∀ a b, p a b = true ↔ a = b) : ∀ xs ys : List α, (xs.length == ys.length && (xs.zip ys).all fun q => p q.1 q.2) = true ↔ xs = ys
 | [], [] => by simp
 | [], y :: ys => by simp
 | x :: xs, [] => by simp
 | x :: xs, y :: ys => by
  have ih := all_iff hp xs ys
  simp only [Bool.and_eq_true, beq_iff_eq] at ih
  simp only [List.length_cons, List.zip_cons_cons, List.all_cons, Bool.and_eq_true, beq_iff_eq, hp, Nat.add_right_cancel_iff, List.cons.injEq]
  rw [← ih]
  exact ⟨fun ⟨h1, h2, h3⟩ => ⟨h2, h1, h3⟩, fun ⟨h2, h1, h3⟩ => ⟨h1, h2, h3⟩⟩
theorem same_iff {a0 a1 : TView} (h1 : a0.Seen.length ≤ maxLen) (h2 : a0.Own.length ≤ maxLen) (h3 : a0.Enemies.length ≤ maxLen) : ∃ w, X.s_fgSame a0 a1 = some w ∧ X.i_SameView a0 a1 = some w ∧ (w = true ↔ a0 = a1) := by
 obtain ⟨w, e1, e2⟩ := sameView_eq (a1 := a1) h1 h2 h3
 refine ⟨w, e1, e2, ?_⟩
 have pu : ∀ a b : TUnit, ((a.Side == b.Side) && ((a.Kind == b.Kind) && ((a.At == b.At) && ((a.Steps == b.Steps) && true)))) = true ↔ a = b := fun a b => by
  obtain ⟨p1, p2, p3, p4⟩ := a
  obtain ⟨q1, q2, q3, q4⟩ := b
  simp only [Bool.and_eq_true, beq_iff_eq, and_true, TUnit.mk.injEq]
 have hi : X.s_l1Same a0.Seen a1.Seen = some _ := (eqL_eq (z := zI) (f := fun a b => some (a == b)) (p := fun a b => a == b) h1 (fun _ _ _ _ => rfl) : _)
 have hu : ∀ xs ys : List TUnit, xs.length ≤ maxLen → X.s_fgUnits xs ys = some _ := fun xs ys h => (eqL_eq (z := zTUnit) (f := fun v21 v23 => some ((v21.Side == v23.Side) && ((v21.Kind == v23.Kind) && ((v21.At == v23.At) && ((v21.Steps == v23.Steps) && true)))))
  (p := fun v21 v23 => ((v21.Side == v23.Side) && ((v21.Kind == v23.Kind) && ((v21.At == v23.At) && ((v21.Steps == v23.Steps) && true))))) h (fun _ _ _ _ => rfl) : _)
 unfold X.s_fgSame at e1
 rw [hi, hu _ _ h2, hu _ _ h3] at e1
 have f1 := all_iff (p := fun a b : Int => a == b) (fun a b => beq_iff_eq) a0.Seen a1.Seen
 have f2 := all_iff pu a0.Own a1.Own
 have f3 := all_iff pu a0.Enemies a1.Enemies
 generalize (a0.Seen.length == a1.Seen.length && (a0.Seen.zip a1.Seen).all fun q => (fun a b : Int => a == b) q.1 q.2) = c1 at e1 f1
 generalize (a0.Own.length == a1.Own.length && (a0.Own.zip a1.Own).all fun q => _) = c2 at e1 f2
 generalize (a0.Enemies.length == a1.Enemies.length && (a0.Enemies.zip a1.Enemies).all fun q => _) = c3 at e1 f3
 obtain ⟨s1, s2, s3, s4, s5, s6⟩ := a0
 obtain ⟨t1, t2, t3, t4, t5, t6⟩ := a1
 dsimp only at *
 rw [TView.mk.injEq, ← f1, ← f2, ← f3]
 have k1 : (s1 == t1) = true ↔ s1 = t1 := beq_iff_eq
 have k2 : (s2 == t2) = true ↔ s2 = t2 := beq_iff_eq
 have k3 : (s3 == t3) = true ↔ s3 = t3 := beq_iff_eq
 rw [← k1, ← k2, ← k3]
 generalize (s1 == t1) = d1 at e1 ⊢
 generalize (s2 == t2) = d2 at e1 ⊢
 generalize (s3 == t3) = d3 at e1 ⊢
 revert e1
 cases d1 <;> cases d2 <;> cases d3 <;> cases c1 <;> cases c2 <;> cases c3 <;> intro e1 <;> cases e1 <;> simp
theorem name_len {s : List UInt8} (hl : s.length ≤ maxLen) (h : pName s = true) : s.length ≤ 8 := by
 have h0 := (name_eq s hl).1
 rw [h] at h0
 unfold X.s_rName at h0
 rw [run_allN s.length (fun k => !(decide ((((s.getD k 0).toNat : Nat) : Int) < 97)) && !(decide ((((s.getD k 0).toNat : Nat) : Int) > 122))) (.inr false) (.inl ()) ?_ ?_] at h0
 ·cases hA : allFrom s.length 0 (fun k => !(decide ((((s.getD k 0).toNat : Nat) : Int) < 97)) && !(decide ((((s.getD k 0).toNat : Nat) : Int) > 122))) with
  | false => rw [hA] at h0; cases h0
  | true =>
   rw [hA] at h0
   simp only [cond_true, Sum.elim_inl, s_in, obs, Option.some.injEq, pIn_iff] at h0
   omega
 ·intro k hk
  have h1 : 0 ≤ (k : Int) ∧ (k : Int) < (s.length : Int) := by omega
  simp only [lt_cast hk, cond_true, if_pos h1, W_up hk hl, Int.toNat_natCast]
  cases decide ((((s.getD k 0).toNat : Nat) : Int) < 97) <;> cases decide ((((s.getD k 0).toNat : Nat) : Int) > 122) <;> rfl
 ·simp only [nlt_self, cond_false]
theorem kname {b : TBoard} (hb : pBoard b = true) {j : Nat} (hj : j < b.Rules.Kinds.length) : pName (b.Rules.Kinds.getD j zTKind).Name = true ∧ pKI b.Rules.Kinds (b.Rules.Kinds.getD j zTKind).Name = (j : Int) := by
 unfold pBoard pRules at hb
 simp only [Bool.and_eq_true, allFrom_iff] at hb
 have := hb.1.2.2.2.1 j (by omega) (by omega)
 unfold qK at this
 simp only [Bool.and_eq_true, beq_iff_eq] at this
 exact ⟨this.1, this.2.1⟩
noncomputable def num (n : Nat) : List UInt8 := (X.x_strconv_Itoa (n : Int)).getD []
theorem num_all : ((List.range 100).all fun n => decide (X.x_strconv_Itoa (n : Int) = some (num n) ∧ (num n).length ≤ 2)) = true := by kernel_rfl
theorem num_eq {n : Nat} (h : n < 100) : X.x_strconv_Itoa (n : Int) = some (num n) ∧ (num n).length ≤ 2 :=
 of_decide_eq_true (List.all_eq_true.1 num_all n (List.mem_range.2 h))
theorem num_int {n : Int} (h : 0 ≤ n ∧ n < 100) : X.x_strconv_Itoa n = some (num n.toNat) ∧ (num n.toNat).length ≤ 2 := by
 have := num_eq (n := n.toNat) (by omega)
 rwa [Int.toNat_of_nonneg h.1] at this
noncomputable def words (w : List UInt8) (l : List Int) : List UInt8 := w ++ l.flatMap fun n => 32 :: num n.toNat
theorem flat_len {α β : Type} {f : α → List β} {B : Nat} : ∀ l : List α, (∀ x ∈ l, (f x).length ≤ B) → (l.flatMap f).length ≤ B * l.length
 | [], _ => by simp
 | x :: r, h => by
  have h1 := h x (by simp)
  have h2 := flat_len r fun y hy => h y (by simp [hy])
  simp only [List.flatMap_cons, List.length_append, List.length_cons, Nat.mul_add, Nat.mul_one]
  omega
theorem flat_take {α β : Type} {f : α → List β} {l : List α} {k : Nat} (h : k < l.length) : (l.take (k + 1)).flatMap f = (l.take k).flatMap f ++ f l[k] := by
 rw [List.take_succ_eq_append_getElem h, List.flatMap_append]; simp
theorem icl (s w : List UInt8) (f : Int → List UInt8) : ∀ l : List Int, s.intercalate (w :: l.map f) = w ++ l.flatMap fun n => s ++ f n
 | [] => by simp [List.intercalate, List.intersperse]
 | x :: r => by
  have := icl s (f x) f r
  simp only [List.intercalate, List.map_cons, List.intersperse, List.flatten_cons, List.flatMap_cons, List.append_assoc] at this ⊢
  rw [this]
theorem words_eq {w : List UInt8} {l : List Int} (hw : w.length ≤ 100) (hl : l.length ≤ 1048576) (h : ∀ x ∈ l, 0 ≤ x ∧ x < 100) : X.i_wordsText w l = some (words w l) := by
 have hm := mL
 have hB : (words w l).length ≤ 100 + 3 * l.length := by
  have := flat_len (f := fun n : Int => 32 :: num n.toNat) (B := 3) l fun x hx => by have := (num_int (h x hx)).2; simp; omega
  unfold words
  simp only [List.length_append]; omega
 have hj : ([32] : List UInt8).intercalate (w :: l.map fun n => num n.toNat) = words w l := by rw [icl]; rfl
 unfold X.i_wordsText
 rw [run_st l.length (fun k => ((k : Int), w :: (l.take k).map fun n => num n.toNat)) (w :: l.map fun n => num n.toNat) (by simp) ?_ ?_]
 ·unfold X.x_strings_Join
  rw [hj, if_pos ⟨by simp; omega, by omega⟩]; rfl
 ·intro k hk
  have hn := num_int (h _ (List.getElem_mem hk))
  simp only [lt_cast hk, cond_true, at_nat hk, obs, hn.1]
  rw [if_pos (by simp [List.length_take]; unfold LIM; omega), W_up hk (show l.length ≤ maxLen by omega), List.take_succ_eq_append_getElem hk]
  simp only [List.map_append, List.map_cons, List.map_nil, List.cons_append]
 ·simp only [nlt_self, cond_false, List.take_length]
noncomputable def place (i : Int) : List UInt8 := if i < 0 then [45] else num i.toNat
noncomputable def uline (b : TBoard) (w : List UInt8) (u : TUnit) : List UInt8 := ((((((w ++ [32]) ++ (b.Rules.Kinds.getD u.Kind.toNat zTKind).Name) ++ [32]) ++ place u.At) ++ [32]) ++ num u.Steps.toNat) ++ [10]
theorem place_len {i : Int} (h : i < 100) : (place i).length ≤ 2 := by
 unfold place
 split
 ·simp
 ·exact (num_int (n := i) ⟨by omega, h⟩).2
theorem uline_eq {b : TBoard} (hb : pBoard b = true) (q : smTBoard b) {w : List UInt8} (hw : w.length ≤ 100) {u : TUnit} (hu : pUnit b u = true) :
  X.i_reportText_1 w u b = some (uline b w u) ∧ (uline b w u).length ≤ 1048576 + 200 := by
 have hm := mL
 obtain ⟨_, p2, p3, p4, p5, p6⟩ := pUnit_iff hu
 obtain ⟨_, z2, z3⟩ := size_of hb
 obtain ⟨j, hj⟩ := Int.eq_ofNat_of_zero_le p2
 have hjl : j < b.Rules.Kinds.length := by omega
 have hst := (kind_of hb hjl).2.2.2.2.2.1
 have hnm : (b.Rules.Kinds.getD j zTKind).Name.length ≤ 1048576 := Nat.le_trans (name_len (Nat.le_trans (q.1.2.1.2 _ (getD_mem (z := zTKind) hjl)).1 (by decide)) (kname hb hjl).1) (by decide)
 have hAt : u.At < 100 ∧ -1 ≤ u.At := by omega
 rw [hj, Int.toNat_natCast] at p5
 have n1 := num_int (n := u.Steps) ⟨p4, by omega⟩
 have n2 := place_len hAt.1
 have e2 : X.i_placeText u.At = some (place u.At) := by
  unfold X.i_placeText place
  by_cases h : u.At < 0
  ·rw [decide_eq_true h, cond_true, if_pos h]
  ·rw [decide_eq_false h, cond_false, if_neg h, (num_int (n := u.At) ⟨by omega, by omega⟩).1]; rfl
 refine ⟨?_, ?_⟩
 ·unfold X.i_reportText_1
  rw [e2, hj, at_getD hjl]
  simp only [obs, n1.1]
  unfold uline
  rw [hj, Int.toNat_natCast]
  generalize (b.Rules.Kinds.getD j zTKind).Name = N at hnm ⊢
  generalize place u.At = p at n2 ⊢
  generalize num u.Steps.toNat = n at n1 ⊢
  repeat rw [if_pos (by simp only [List.length_append, List.length_cons, List.length_nil]; omega)]
 ·unfold uline
  rw [hj, Int.toNat_natCast]
  simp only [List.length_append, List.length_cons, List.length_nil]
  omega
theorem lines_run {b : TBoard} {us : List TUnit} {g : TUnit → Option (List UInt8)} {F : TUnit → List UInt8} (hl : us.length ≤ 12) (hg : ∀ u ∈ us, g u = some (F u) ∧ (F u).length ≤ 1048576 + 200) {acc : List UInt8} (ha : acc.length ≤ 100000000) {γ : Type} (f : List UInt8 → Option γ) :
  ((loop (fun (x56 : ((List UInt8) × Int)) => ((bif (decide (x56.2 < (us.length : Int))) then ((at' zTUnit us x56.2).bind fun v59 => ((g v59).bind fun v61 => (if x56.1.length + v61.length ≤ maxLen then some (Sum.inl ((x56.1 ++ v61), (W (x56.2 + 1)))) else none))) else some (Sum.inr x56.1)) : Option (((List UInt8) × Int) ⊕ (List UInt8)))) (acc, 0)).bind f) = f (acc ++ us.flatMap F) := by
 have hm := mL
 rw [run_st us.length (fun k => (acc ++ (us.take k).flatMap F, (k : Int))) (acc ++ us.flatMap F) (by simp) ?_ ?_]
 ·intro k hk
  have h1 := hg _ (List.getElem_mem hk)
  have h2 : ((us.take k).flatMap F).length ≤ (1048576 + 200) * 12 := Nat.le_trans (flat_len _ fun x hx => (hg x (List.mem_of_mem_take hx)).2) (Nat.mul_le_mul_left _ (by simp [List.length_take]; omega))
  simp only [lt_cast hk, cond_true, at_nat hk, obs, h1.1]
  rw [if_pos (by simp only [List.length_append]; omega), flat_take hk, W_up hk (show us.length ≤ maxLen by omega)]
  simp only [List.append_assoc]
 ·simp only [nlt_self, cond_false, List.take_length]
noncomputable def text (b : TBoard) (v : TView) : List UInt8 :=
 ((words [115, 105, 100, 101] [v.Side] ++ [32] ++ words [116, 117, 114, 110] [v.Turn] ++ [32] ++ words [119, 101, 97, 116, 104, 101, 114] [v.Weather] ++ [10] ++ words [115, 101, 101, 110] v.Seen ++ [10]) ++ v.Own.flatMap (uline b [111, 119, 110])) ++ v.Enemies.flatMap (uline b [101, 110, 101, 109, 121])
theorem text_eq {b : TBoard} (hb : pBoard b = true) (q : smTBoard b) {v : TView} (h1 : 0 ≤ v.Side ∧ v.Side < 100) (h2 : 0 ≤ v.Turn ∧ v.Turn < 100) (h3 : 0 ≤ v.Weather ∧ v.Weather < 100) (h4 : v.Seen.length ≤ 1048576 ∧ ∀ x ∈ v.Seen, 0 ≤ x ∧ x < 100)
  (h5 : v.Own.length ≤ 12 ∧ ∀ u ∈ v.Own, pUnit b u = true) (h6 : v.Enemies.length ≤ 12 ∧ ∀ u ∈ v.Enemies, pUnit b u = true) : X.i_reportText b v = some (text b v) := by
 have hm := mL
 have hS := h4.1
 have n1 := num_int h1
 have n2 := num_int h2
 have n3 := num_int h3
 have one : ∀ {w : List UInt8} {n : Int}, w.length ≤ 100 → 0 ≤ n ∧ n < 100 → X.i_wordsText w [n] = some (words w [n]) := fun hw hn => words_eq hw (by simp) fun x hx => by
  rw [List.mem_singleton] at hx; subst hx; exact hn
 have wl : (words [115, 101, 101, 110] v.Seen).length ≤ 3 * v.Seen.length + 4 := by
  have := flat_len (f := fun n : Int => 32 :: num n.toNat) (B := 3) v.Seen fun x hx => by have := (num_int (h4.2 x hx)).2; simp; omega
  unfold words
  simp only [List.length_append, List.length_cons, List.length_nil]; omega
 have w1 : ∀ (w : List UInt8) (n : Int), words w [n] = w ++ 32 :: num n.toNat := fun w n => by unfold words; simp
 have so := fun u hu => uline_eq (w := [111, 119, 110]) hb q (by simp) (h5.2 u hu)
 have se := fun u hu => uline_eq (w := [101, 110, 101, 109, 121]) hb q (by simp) (h6.2 u hu)
 have lo : (v.Own.flatMap (uline b [111, 119, 110])).length ≤ (1048576 + 200) * 12 := Nat.le_trans (flat_len _ fun x hx => (so x hx).2) (Nat.mul_le_mul_left _ h5.1)
 unfold X.i_reportText
 rw [one (by simp) h1, one (by simp) h2, one (by simp) h3, words_eq (by simp) h4.1 h4.2]
 simp only [obs]
 unfold text
 rw [w1, w1, w1]
 generalize num v.Side.toNat = a1 at n1 ⊢
 generalize num v.Turn.toNat = a2 at n2 ⊢
 generalize num v.Weather.toNat = a3 at n3 ⊢
 generalize words [115, 101, 101, 110] v.Seen = a4 at wl ⊢
 repeat rw [if_pos (by simp only [List.length_append, List.length_cons, List.length_nil]; omega)]
 rw [lines_run (b := b) h5.1 (fun u hu => ⟨(so u hu).1, (so u hu).2⟩) (by simp only [List.length_append, List.length_cons, List.length_nil]; omega),
  lines_run (b := b) h6.1 (fun u hu => ⟨(se u hu).1, (se u hu).2⟩) (by simp only [List.length_append, List.length_cons, List.length_nil]; omega)]
theorem unit_mem {b : TBoard} {s : TState} (h : pState b s = true) : ∀ u ∈ s.Units, pUnit b u = true := fun u hu => by
 obtain ⟨i, hi, rfl⟩ := List.getElem_of_mem hu
 have := unit_of h hi
 simpa [List.getD, hi] using this
theorem text_vOf {b : TBoard} (hb : pBoard b = true) (q : smTBoard b) {s : TState} (hs : pState b s = true) {d : Int} (hd : 0 ≤ d ∧ d ≤ 1) : X.i_reportText b (vOf b s d) = some (text b (vOf b s d)) := by
 have hT := (kinds_of hb).2.2.2.2.2
 obtain ⟨_, z2, z3⟩ := size_of hb
 have hU := units_of hs
 have h1 := List.length_filter_le (fun u : TUnit => u.Side == d) s.Units
 have h2 := List.length_filter_le (pEnemy (idxs (pSeen b s d) b.Map.Terrain.length) d) s.Units
 have hSl := idxs_len (pSeen b s d) b.Map.Terrain.length
 have hst : (0 ≤ s.Turn ∧ s.Turn ≤ b.Rules.Turns) ∧ 0 ≤ s.Weather ∧ s.Weather ≤ 2 := by
  have h := hs
  unfold pState at h
  simp only [Bool.and_eq_true, pIn_iff] at h
  exact ⟨h.1, h.2.1⟩
 refine text_eq hb q ⟨hd.1, Int.lt_of_le_of_lt hd.2 (by decide)⟩ ⟨hst.1.1, ?_⟩ ⟨hst.2.1, ?_⟩ ⟨?_, fun x hx => ?_⟩ ⟨?_, fun u hu => ?_⟩ ⟨?_, fun u hu => ?_⟩
 ·show s.Turn < 100; omega
 ·show s.Weather < 100; omega
 ·show (idxs _ _).length ≤ 1048576
  omega
 ·obtain ⟨k, h1, _, rfl⟩ := idxs_mem.1 hx
  omega
 ·show (List.filter _ _).length ≤ 12
  omega
 ·exact unit_mem hs u (List.mem_filter.1 hu).1
 ·show (srt _).length ≤ 12
  rw [srt_len]; omega
 ·exact unit_mem hs u (List.mem_filter.1 (srt_mem _ u hu)).1
def Sp (c : UInt8) : Prop := c = 32 ∨ c = 10
theorem cut_eq : ∀ {x y : List UInt8} {c c' : UInt8} {r r' : List UInt8}, (∀ a ∈ x, ¬ Sp a) → (∀ a ∈ y, ¬ Sp a) → Sp c → Sp c' → x ++ c :: r = y ++ c' :: r' → x = y ∧ c = c' ∧ r = r'
 | [], [], c, c', r, r', _, _, _, _, h => by
  simp only [List.nil_append, List.cons.injEq] at h; exact ⟨rfl, h.1, h.2⟩
 | [], b :: y, c, c', r, r', _, hy, hc, _, h => by
  simp only [List.nil_append, List.cons_append, List.cons.injEq] at h
  exact absurd (h.1 ▸ hc) (hy b (by simp))
 | a :: x, [], c, c', r, r', hx, _, _, hc', h => by
  simp only [List.nil_append, List.cons_append, List.cons.injEq] at h
  exact absurd (h.1.symm ▸ hc') (hx a (by simp))
 | a :: x, b :: y, c, c', r, r', hx, hy, hc, hc', h => by
  simp only [List.cons_append, List.cons.injEq] at h
  obtain ⟨e1, e2, e3⟩ := cut_eq (fun z hz => hx z (by simp [hz])) (fun z hz => hy z (by simp [hz])) hc hc' h.2
  exact ⟨by rw [h.1, e1], e2, e3⟩
def val (l : List UInt8) : Nat := l.foldl (fun a c => 10 * a + (c.toNat - 48)) 0
theorem num_ok : ((List.range 100).all fun n => (num n).all (fun c => decide (48 ≤ c.toNat ∧ c.toNat ≤ 57)) && decide (val (num n) = n)) = true := by kernel_rfl
theorem num_dig {n : Nat} (h : n < 100) : (∀ a ∈ num n, 48 ≤ a.toNat ∧ a.toNat ≤ 57) ∧ val (num n) = n := by
 have := List.all_eq_true.1 num_ok n (List.mem_range.2 h)
 simp only [Bool.and_eq_true, List.all_eq_true, decide_eq_true_eq] at this
 exact this
theorem num_sp {n : Nat} (h : n < 100) : ∀ a ∈ num n, ¬ Sp a := fun a ha hs => by
 have := (num_dig h).1 a ha
 rcases hs with rfl | rfl <;> exact absurd this (by decide)
theorem num_inj {n m : Nat} (h : n < 100) (h' : m < 100) (e : num n = num m) : n = m := by
 rw [← (num_dig h).2, e, (num_dig h').2]
theorem place_sp {i : Int} (h : i < 100) : ∀ a ∈ place i, ¬ Sp a := by
 unfold place
 split
 ·intro a ha hs
  rw [List.mem_singleton] at ha
  subst ha
  rcases hs with h | h <;> exact absurd h (by decide)
 ·exact num_sp (by omega)
theorem place_inj {i j : Int} (hi : -1 ≤ i ∧ i < 100) (hj : -1 ≤ j ∧ j < 100) (e : place i = place j) : i = j := by
 have no : ∀ n : Nat, n < 100 → num n = [45] → False := fun n hn he => by
  have := (num_dig hn).1 45 (by rw [he]; simp)
  exact absurd this (by decide)
 unfold place at e
 split at e <;> split at e
 ·omega
 ·exact (no _ (by omega) e.symm).elim
 ·exact (no _ (by omega) e).elim
 ·have := num_inj (by omega) (by omega) e
  omega
theorem name_sp {s : List UInt8} (hl : s.length ≤ maxLen) (h : pName s = true) : ∀ a ∈ s, ¬ Sp a := by
 have h0 := (name_eq s hl).1
 rw [h] at h0
 unfold X.s_rName at h0
 rw [run_allN s.length (fun k => !(decide ((((s.getD k 0).toNat : Nat) : Int) < 97)) && !(decide ((((s.getD k 0).toNat : Nat) : Int) > 122))) (.inr false) (.inl ()) ?_ ?_] at h0
 ·intro a ha hs
  cases hA : allFrom s.length 0 (fun k => !(decide ((((s.getD k 0).toNat : Nat) : Int) < 97)) && !(decide ((((s.getD k 0).toNat : Nat) : Int) > 122))) with
  | false => rw [hA] at h0; cases h0
  | true =>
   rw [allFrom_iff] at hA
   obtain ⟨i, hi, rfl⟩ := List.getElem_of_mem ha
   have := hA i (by omega) (by omega)
   have hg : s.getD i 0 = s[i] := by simp [List.getD, hi]
   rw [hg] at this
   rcases hs with hs | hs <;> (rw [hs] at this; exact absurd this (by decide))
 ·intro k hk
  have h1 : 0 ≤ (k : Int) ∧ (k : Int) < (s.length : Int) := by omega
  simp only [lt_cast hk, cond_true, if_pos h1, W_up hk hl, Int.toNat_natCast]
  cases decide ((((s.getD k 0).toNat : Nat) : Int) < 97) <;> cases decide ((((s.getD k 0).toNat : Nat) : Int) > 122) <;> rfl
 ·simp only [nlt_self, cond_false]
theorem uline_norm (b : TBoard) (w : List UInt8) (u : TUnit) (r : List UInt8) : uline b w u ++ r = w ++ 32 :: ((b.Rules.Kinds.getD u.Kind.toNat zTKind).Name ++ 32 :: (place u.At ++ 32 :: (num u.Steps.toNat ++ 10 :: r))) := by
 unfold uline; simp only [List.append_assoc, List.cons_append, List.nil_append]
theorem uline_inj {b : TBoard} (hb : pBoard b = true) (q : smTBoard b) {w w' : List UInt8} (hw : ∀ a ∈ w, ¬ Sp a) (hw' : ∀ a ∈ w', ¬ Sp a) {u u' : TUnit} (hu : pUnit b u = true) (hu' : pUnit b u' = true) {r r' : List UInt8} (h : uline b w u ++ r = uline b w' u' ++ r') :
  w = w' ∧ (u.Side = u'.Side → u = u') ∧ r = r' := by
 have hm := mL
 obtain ⟨_, z2, z3⟩ := size_of hb
 have info : ∀ {u : TUnit}, pUnit b u = true → ∃ j : Nat, u.Kind = (j : Int) ∧ j < b.Rules.Kinds.length ∧ (0 ≤ u.Steps ∧ u.Steps < 100) ∧ (-1 ≤ u.At ∧ u.At < 100) := fun {u} hu => by
  obtain ⟨_, p2, p3, p4, p5, p6⟩ := pUnit_iff hu
  obtain ⟨j, hj⟩ := Int.eq_ofNat_of_zero_le p2
  have hjl : j < b.Rules.Kinds.length := by omega
  have hst := (kind_of hb hjl).2.2.2.2.2.1
  rw [hj, Int.toNat_natCast] at p5
  exact ⟨j, hj, hjl, ⟨p4, by omega⟩, by omega⟩
 obtain ⟨j, a1, a2, a3, a4⟩ := info hu
 obtain ⟨j', c1, c2, c3, c4⟩ := info hu'
 have nl : ∀ {j : Nat}, j < b.Rules.Kinds.length → (b.Rules.Kinds.getD j zTKind).Name.length ≤ maxLen := fun {j} hj => by
  exact Nat.le_trans (q.1.2.1.2 _ (getD_mem (z := zTKind) hj)).1 (by decide)
 rw [uline_norm, uline_norm, a1, c1, Int.toNat_natCast, Int.toNat_natCast] at h
 obtain ⟨e1, _, h⟩ := cut_eq hw hw' (.inl rfl) (.inl rfl) h
 obtain ⟨e2, _, h⟩ := cut_eq (name_sp (nl a2) (kname hb a2).1) (name_sp (nl c2) (kname hb c2).1) (.inl rfl) (.inl rfl) h
 obtain ⟨e3, _, h⟩ := cut_eq (place_sp a4.2) (place_sp c4.2) (.inl rfl) (.inl rfl) h
 obtain ⟨e4, _, h⟩ := cut_eq (num_sp (by omega)) (num_sp (by omega)) (.inr rfl) (.inr rfl) h
 have f2 : u.Kind = u'.Kind := by rw [a1, c1, ← (kname hb a2).2, ← (kname hb c2).2, e2]
 have f3 := place_inj a4 c4 e3
 have f4 : u.Steps = u'.Steps := by
  have := num_inj (by omega) (by omega) e4
  omega
 refine ⟨e1, fun hs => ?_, h⟩
 obtain ⟨s1, s2, s3, s4⟩ := u
 obtain ⟨t1, t2, t3, t4⟩ := u'
 dsimp only at hs f2 f3 f4
 subst hs f2 f3 f4
 rfl
theorem flat_inj {b : TBoard} (hb : pBoard b = true) (q : smTBoard b) {w : List UInt8} (hw : ∀ a ∈ w, ¬ Sp a) {d : Int} : ∀ (us us' : List TUnit), (∀ u ∈ us, pUnit b u = true ∧ u.Side = d) → (∀ u ∈ us', pUnit b u = true ∧ u.Side = d) → us.flatMap (uline b w) = us'.flatMap (uline b w) → us = us'
 | [], [], _, _, _ => rfl
 | [], u :: r, _, _, h => by
  rw [List.flatMap_nil, List.flatMap_cons, uline_norm] at h
  exact absurd (congrArg List.length h) (by simp)
 | u :: r, [], _, _, h => by
  rw [List.flatMap_nil, List.flatMap_cons, uline_norm] at h
  exact absurd (congrArg List.length h) (by simp)
 | u :: r, u' :: r', h1, h2, h => by
  rw [List.flatMap_cons, List.flatMap_cons] at h
  obtain ⟨_, e2, e3⟩ := uline_inj hb q hw hw (h1 u (by simp)).1 (h2 u' (by simp)).1 h
  rw [e2 ((h1 u (by simp)).2.trans (h2 u' (by simp)).2.symm), flat_inj hb q hw r r' (fun x hx => h1 x (by simp [hx])) (fun x hx => h2 x (by simp [hx])) e3]
theorem wOwn : ∀ a ∈ ([111, 119, 110] : List UInt8), ¬ Sp a := by unfold Sp; decide
theorem wEn : ∀ a ∈ ([101, 110, 101, 109, 121] : List UInt8), ¬ Sp a := by unfold Sp; decide
theorem lines_inj {b : TBoard} (hb : pBoard b = true) (q : smTBoard b) {d e : Int} {es es' : List TUnit} (he : ∀ u ∈ es, pUnit b u = true ∧ u.Side = e) (he' : ∀ u ∈ es', pUnit b u = true ∧ u.Side = e) : ∀ (us us' : List TUnit), (∀ u ∈ us, pUnit b u = true ∧ u.Side = d) → (∀ u ∈ us', pUnit b u = true ∧ u.Side = d) →
  us.flatMap (uline b [111, 119, 110]) ++ es.flatMap (uline b [101, 110, 101, 109, 121]) = us'.flatMap (uline b [111, 119, 110]) ++ es'.flatMap (uline b [101, 110, 101, 109, 121]) → us = us' ∧ es = es'
 | [], [], _, _, h => ⟨rfl, flat_inj hb q wEn es es' he he' (by simpa using h)⟩
 | [], u :: r, _, h2, h => by
  rw [List.flatMap_nil, List.flatMap_cons, List.nil_append, List.append_assoc] at h
  match es, he, h with
  | [], _, h => rw [List.flatMap_nil, uline_norm] at h; exact absurd (congrArg List.length h) (by simp)
  | x :: es2, he, h =>
   rw [List.flatMap_cons] at h
   have := (uline_inj hb q wEn wOwn (he x (by simp)).1 (h2 u (by simp)).1 h).1
   exact absurd this (by decide)
 | u :: r, [], h1, _, h => by
  rw [List.flatMap_nil, List.flatMap_cons, List.nil_append, List.append_assoc] at h
  match es', he', h with
  | [], _, h => rw [List.flatMap_nil, uline_norm] at h; exact absurd (congrArg List.length h) (by simp)
  | x :: es2, he', h =>
   rw [List.flatMap_cons] at h
   have := (uline_inj hb q wOwn wEn (h1 u (by simp)).1 (he' x (by simp)).1 h).1
   exact absurd this (by decide)
 | u :: r, u' :: r', h1, h2, h => by
  rw [List.flatMap_cons, List.flatMap_cons, List.append_assoc, List.append_assoc] at h
  obtain ⟨_, e2, e3⟩ := uline_inj hb q wOwn wOwn (h1 u (by simp)).1 (h2 u' (by simp)).1 h
  obtain ⟨f1, f2⟩ := lines_inj hb q he he' r r' (fun x hx => h1 x (by simp [hx])) (fun x hx => h2 x (by simp [hx])) e3
  exact ⟨by rw [e2 ((h1 u (by simp)).2.trans (h2 u' (by simp)).2.symm), f1], f2⟩
theorem seen_first (l : List Int) (r : List UInt8) : ∃ c t, Sp c ∧ (l.flatMap fun n => 32 :: num n.toNat) ++ 10 :: r = c :: t := by
 cases l with
 | nil => exact ⟨10, r, .inr rfl, rfl⟩
 | cons n l => exact ⟨32, _, .inl rfl, by rw [List.flatMap_cons, List.cons_append, List.cons_append]⟩
theorem seen_inj : ∀ (l l' : List Int) {r r' : List UInt8}, (∀ x ∈ l, 0 ≤ x ∧ x < 100) → (∀ x ∈ l', 0 ≤ x ∧ x < 100) → (l.flatMap fun n => 32 :: num n.toNat) ++ 10 :: r = (l'.flatMap fun n => 32 :: num n.toNat) ++ 10 :: r' → l = l' ∧ r = r'
 | [], [], r, r', _, _, h => by simpa using h
 | [], n :: l', r, r', _, _, h => by
  rw [List.flatMap_nil, List.flatMap_cons] at h
  simp only [List.nil_append, List.cons_append, List.cons.injEq] at h
  exact absurd h.1 (by decide)
 | n :: l, [], r, r', _, _, h => by
  rw [List.flatMap_nil, List.flatMap_cons] at h
  simp only [List.nil_append, List.cons_append, List.cons.injEq] at h
  exact absurd h.1 (by decide)
 | n :: l, n' :: l', r, r', h1, h2, h => by
  have b1 := h1 n (by simp)
  have b2 := h2 n' (by simp)
  rw [List.flatMap_cons, List.flatMap_cons] at h
  simp only [List.cons_append, List.cons.injEq, true_and, List.append_assoc] at h
  obtain ⟨c, t, hc, ec⟩ := seen_first l r
  obtain ⟨c', t', hc', ec'⟩ := seen_first l' r'
  rw [ec, ec'] at h
  obtain ⟨e1, e2, e3⟩ := cut_eq (num_sp (by omega)) (num_sp (by omega)) hc hc' h
  have e4 := num_inj (by omega) (by omega) e1
  rw [e2, e3, ← ec'] at ec
  obtain ⟨f1, f2⟩ := seen_inj l l' (fun x hx => h1 x (by simp [hx])) (fun x hx => h2 x (by simp [hx])) ec
  exact ⟨by rw [f1, show n = n' by omega], f2⟩
theorem text_norm (b : TBoard) (v : TView) : text b v = (words [115, 105, 100, 101] [v.Side] ++ [32, 116, 117, 114, 110, 32]) ++ (num v.Turn.toNat ++ 32 :: ([119, 101, 97, 116, 104, 101, 114, 32] ++ (num v.Weather.toNat ++ 10 :: ([115, 101, 101, 110] ++ ((v.Seen.flatMap fun n => 32 :: num n.toNat) ++ 10 :: (v.Own.flatMap (uline b [111, 119, 110]) ++ v.Enemies.flatMap (uline b [101, 110, 101, 109, 121]))))))) := by
 unfold text words
 simp only [List.flatMap_cons, List.flatMap_nil, List.append_assoc, List.cons_append, List.nil_append, List.append_nil]
structure VOk (b : TBoard) (d e : Int) (v : TView) : Prop where
 s : v.Side = d
 t : 0 ≤ v.Turn ∧ v.Turn < 100
 w : 0 ≤ v.Weather ∧ v.Weather < 100
 n : ∀ x ∈ v.Seen, 0 ≤ x ∧ x < 100
 o : ∀ u ∈ v.Own, pUnit b u = true ∧ u.Side = d
 e : ∀ u ∈ v.Enemies, pUnit b u = true ∧ u.Side = e
theorem text_inj {b : TBoard} (hb : pBoard b = true) (q : smTBoard b) {d e : Int} {v v' : TView} (hv : VOk b d e v) (hv' : VOk b d e v') (h : text b v = text b v') : v = v' := by
 rw [text_norm, text_norm, hv.s, hv'.s] at h
 have h := List.append_cancel_left h
 have t1 := hv.t
 have t2 := hv'.t
 have w1 := hv.w
 have w2 := hv'.w
 obtain ⟨e1, _, h⟩ := cut_eq (num_sp (by omega)) (num_sp (by omega)) (.inl rfl) (.inl rfl) h
 have h := List.append_cancel_left h
 obtain ⟨e2, _, h⟩ := cut_eq (num_sp (by omega)) (num_sp (by omega)) (.inr rfl) (.inr rfl) h
 have h := List.append_cancel_left h
 obtain ⟨e3, h⟩ := seen_inj _ _ hv.n hv'.n h
 obtain ⟨e4, e5⟩ := lines_inj hb q hv.e hv'.e _ _ hv.o hv'.o h
 have f1 := num_inj (by omega) (by omega) e1
 have f2 := num_inj (by omega) (by omega) e2
 have s1 := hv.s
 have s2 := hv'.s
 obtain ⟨a1, a2, a3, a4, a5, a6⟩ := v
 obtain ⟨c1, c2, c3, c4, c5, c6⟩ := v'
 dsimp only at *
 rw [show a1 = c1 by omega, show a2 = c2 by omega, show a3 = c3 by omega, e3, e4, e5]
theorem okS_sm {s : List UInt8} (h : okS s) : smS s := Nat.le_trans h (by decide)
theorem okL_sm {α : Type} {ok sm : α → Prop} (hs : ∀ x, ok x → sm x) {xs : List α} (h : okL ok xs) : smL sm xs := ⟨Nat.le_trans h.1 (by decide), fun x hx => hs x (h.2 x hx)⟩
theorem okLI_sm {xs : List Int} (h : okLI xs) : smLI xs := okL_sm (fun _ _ => trivial) h
theorem okTerrain_sm (x : TTerrain) (h : okTTerrain x) : smTTerrain x := ⟨okS_sm h.1, okLI_sm h.2.1, trivial, trivial, trivial, trivial⟩
theorem okKind_sm (x : TKind) (h : okTKind x) : smTKind x := ⟨okS_sm h.1, trivial, trivial, trivial, trivial, trivial, trivial⟩
theorem okRules_sm {x : TRules} (h : okTRules x) : smTRules x := ⟨okL_sm okTerrain_sm h.1, okL_sm okKind_sm h.2.1, trivial, trivial, trivial, trivial, trivial, trivial⟩
theorem okMap_sm {x : TMap} (h : okTMap x) : smTMap x := ⟨trivial, trivial, okLI_sm h.2.2.1, okLI_sm h.2.2.2.1, okLI_sm h.2.2.2.2.1, trivial⟩
theorem okBoard_sm {x : TBoard} (h : okTBoard x) : smTBoard x := ⟨okRules_sm h.1, okMap_sm h.2.1, trivial⟩
theorem okState_sm {x : TState} (h : okTState x) : smTState x := ⟨trivial, trivial, okL_sm (fun _ _ => ⟨trivial, trivial, trivial, trivial, trivial⟩) h.2.2.1, trivial⟩
theorem vok {b : TBoard} (hb : pBoard b = true) {s : TState} (hs : pState b s = true) {d : Int} (hd : 0 ≤ d ∧ d ≤ 1) : VOk b d (1 - d) (vOf b s d) := by
 have hT := (kinds_of hb).2.2.2.2.2
 obtain ⟨_, z2, z3⟩ := size_of hb
 have hst : (0 ≤ s.Turn ∧ s.Turn ≤ b.Rules.Turns) ∧ 0 ≤ s.Weather ∧ s.Weather ≤ 2 := by
  have h := hs
  unfold pState at h
  simp only [Bool.and_eq_true, pIn_iff] at h
  exact ⟨h.1, h.2.1⟩
 refine ⟨rfl, ⟨hst.1.1, ?_⟩, ⟨hst.2.1, ?_⟩, fun x hx => ?_, fun u hu => ?_, fun u hu => ?_⟩
 ·show s.Turn < 100; omega
 ·show s.Weather < 100; omega
 ·obtain ⟨k, h1, _, rfl⟩ := idxs_mem.1 hx
  omega
 ·obtain ⟨h1, h2⟩ := List.mem_filter.1 hu
  exact ⟨unit_mem hs u h1, by simpa using h2⟩
 ·obtain ⟨h1, h2⟩ := List.mem_filter.1 (srt_mem _ u hu)
  have h3 := unit_mem hs u h1
  refine ⟨h3, ?_⟩
  have h4 := (pUnit_iff h3).1
  unfold pEnemy at h2
  simp only [Bool.and_eq_true, Bool.not_eq_true', beq_eq_false_iff_ne, ne_eq] at h2
  have h5 := h2.1
  omega
theorem alike_eq {b : TBoard} (q : smTBoard b) (s t : TState) (qs : smTState s) (qt : smTState t) (d : Int) : ∃ w : Bool × Bool, X.s_LooksAlike b s t d = some w ∧ X.i_LooksAlike b s t d = some w ∧ (w.2 = true → ∃ r1 r2 : List UInt8, X.i_ReportOf b s d = some (r1, true) ∧ X.i_ReportOf b t d = some (r2, true) ∧ (w.1 = true ↔ r1 = r2)) := by
 have hm := mL
 unfold X.s_LooksAlike X.i_LooksAlike X.i_ReportOf
 rw [(side_eq q s qs d).1, (side_eq q s qs d).2, (side_eq q t qt d).2]
 simp only [obs]
 cases hf : (pBoard b && pState b s) && pIn d 0 1
 ·exact ⟨_, rfl, rfl, fun h => by cases h⟩
 simp only [Bool.and_eq_true, pIn_iff] at hf
 obtain ⟨⟨hb, hs⟩, h1, h2⟩ := hf
 have hd : pIn d 0 1 = true := pIn_iff.2 ⟨h1, h2⟩
 rw [(fits_eq q t qt).1, (state_eq hb q t qt).2, hb, hd]
 simp only [obs, Bool.true_and, Bool.and_true, Bool.not_true, cond_false]
 cases ht : pState b t
 ·exact ⟨_, rfl, rfl, fun h => by cases h⟩
 have hU := units_of hs
 obtain ⟨z1, z2, z3⟩ := size_of hb
 have l1 := List.length_filter_le (fun u : TUnit => u.Side == d) s.Units
 have l2 := List.length_filter_le (pEnemy (idxs (pSeen b s d) b.Map.Terrain.length) d) s.Units
 have l3 := idxs_len (pSeen b s d) b.Map.Terrain.length
 obtain ⟨w, e1, e2, e3⟩ := same_iff (a0 := vOf b s d) (a1 := vOf b t d) (show (idxs _ _).length ≤ maxLen by omega) (show (List.filter _ _).length ≤ maxLen by omega) (show (srt _).length ≤ maxLen by rw [srt_len]; omega)
 simp only [Bool.not_true, cond_false, (viewOf_eq hb q hs qs d).1, (viewOf_eq hb q hs qs d).2, (viewOf_eq hb q ht qt d).1, (viewOf_eq hb q ht qt d).2, obs, e1, e2, text_vOf hb q hs ⟨h1, h2⟩, text_vOf hb q ht ⟨h1, h2⟩]
 refine ⟨_, rfl, rfl, fun _ => ⟨_, _, rfl, rfl, e3.trans ⟨fun e => by rw [e], fun e => text_inj hb q (vok hb hs ⟨h1, h2⟩) (vok hb ht ⟨h1, h2⟩) e⟩⟩⟩
theorem law (a0 : TBoard) (a1 a2 : TState) (a3 : Int) (q0 : okTBoard a0) (q1 : okTState a1) (q2 : okTState a2) (k3 : okI a3) : X.l_FnUnseenMoves a0 a1 a2 a3 = some true := by
 have w0 : smTBoard a0 := okBoard_sm q0
 have w1 : smTState a1 := okState_sm q1
 have w2 : smTState a2 := okState_sm q2
 obtain ⟨w, e1, e2, h⟩ := alike_eq w0 a1 a2 w1 w2 a3
 unfold X.l_FnUnseenMoves
 rw [e1, e2]
 simp only [obs]
 obtain ⟨x, y⟩ := w
 cases y
 ·simp
 ·obtain ⟨r1, r2, f1, f2, f3⟩ := h rfl
  have f3' : x = (r1 == r2) := by
   rw [Bool.eq_iff_iff, beq_iff_eq]; exact f3
  simp [f1, f2, f3']
end Go.Proofs.YtjlabdoeiphegaaGreatDoor.X0
