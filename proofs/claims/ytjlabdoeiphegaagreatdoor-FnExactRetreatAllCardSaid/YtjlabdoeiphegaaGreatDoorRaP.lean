/- The plain law behind FnExactRetreatAll, for arguments that a machine can hold. -/
import Derived.Test.YtjlabdoeiphegaaGreatDoorRaWc
import Derived.Test.YtjlabdoeiphegaaGreatDoorAmCore3
set_option linter.unusedVariables false
set_option linter.unusedSimpArgs false
set_option maxRecDepth 100000
namespace Go.Proofs.YtjlabdoeiphegaaGreatDoor.X0
open Go Go.Proofs.YtjlabdoeiphegaaGreatDoor.Ab
theorem obs {α β : Type} (a : α) (f : α → Option β) : (some a).bind f = f a := rfl
abbrev okLI (x : (List Int)) : Prop := okL okI x
abbrev smLI (x : (List Int)) : Prop := smL smI x
theorem l_szIntS_sz (x : (List Int)) (h : okLI x) : SzOk X.l_szIntS smLI x := szS_ok h.1 fun y _ => trivI y
theorem l_toIntS_eq (x : (List Int)) (h : smLI x) : X.l_toIntS x = some x := (toL_eq (z := zI) (f := some) h.1 fun _ _ => rfl : _)
theorem l_eqIntS_eq (x : (List Int)) (h : smLI x) : X.l_eqIntS x x = some true := (eqL_self (z := zI) (f := fun a b => some (a == b)) h.1 fun x _ => by simp : _)
abbrev okTTerrain (x : TTerrain) : Prop := okS x.Name ∧ okLI x.Cost ∧ okI x.Shift ∧ okI x.Height ∧ okB x.Blocks ∧ True
abbrev smTTerrain (x : TTerrain) : Prop := smS x.Name ∧ smLI x.Cost ∧ smI x.Shift ∧ smI x.Height ∧ smB x.Blocks ∧ True
theorem l_szTerrain_sz (x : TTerrain) (h : okTTerrain x) : SzOk X.l_szTerrain smTTerrain x := by
 intro n hn
 unfold X.l_szTerrain
 obtain ⟨r1, e1, l1, f1⟩ := len_cases (xs := x.Name) (h.1) hn
 rw [e1]
 refine szr_bif f1 l1 fun g1 q1 => ?_
 refine szr_step (l_szIntS_sz x.Cost (h.2.1) r1 g1) g1 fun r2 g2 q2 => ?_
 exact szr_last g2 ⟨q1, q2, trivI x.Shift, trivI x.Height, trivB x.Blocks, trivial⟩
theorem l_toTerrain_eq (x : TTerrain) (h : smTTerrain x) : X.l_toTerrain x = some x := by
 unfold X.l_toTerrain
 rw [l_toIntS_eq x.Cost (h.2.1)]; rfl
theorem l_eqTerrain_eq (x : TTerrain) (h : smTTerrain x) : X.l_eqTerrain x x = some true := by
 unfold X.l_eqTerrain
 simp [l_eqIntS_eq x.Cost (h.2.1)]
abbrev okLTTerrain (x : (List TTerrain)) : Prop := okL okTTerrain x
abbrev smLTTerrain (x : (List TTerrain)) : Prop := smL smTTerrain x
theorem l_szTerrainS_sz (x : (List TTerrain)) (h : okLTTerrain x) : SzOk X.l_szTerrainS smLTTerrain x := szL_ok (z := zTTerrain) (f := X.l_szTerrain) h.1 fun y hy => l_szTerrain_sz y (h.2 y hy)
theorem l_toTerrainS_eq (x : (List TTerrain)) (h : smLTTerrain x) : X.l_toTerrainS x = some x := toL_eq (z := zTTerrain) (f := X.l_toTerrain) h.1 fun y hy => l_toTerrain_eq y (h.2 y hy)
theorem l_eqTerrainS_eq (x : (List TTerrain)) (h : smLTTerrain x) : X.l_eqTerrainS x x = some true := eqL_self (z := zTTerrain) (f := X.l_eqTerrain) h.1 fun y hy => l_eqTerrain_eq y (h.2 y hy)
abbrev okTKind (x : TKind) : Prop := okS x.Name ∧ okI x.Strength ∧ okI x.Moves ∧ okI x.Steps ∧ okB x.Zone ∧ okI x.View ∧ True
abbrev smTKind (x : TKind) : Prop := smS x.Name ∧ smI x.Strength ∧ smI x.Moves ∧ smI x.Steps ∧ smB x.Zone ∧ smI x.View ∧ True
theorem l_szKind_sz (x : TKind) (h : okTKind x) : SzOk X.l_szKind smTKind x := by
 intro n hn
 unfold X.l_szKind
 obtain ⟨r1, e1, l1, f1⟩ := len_cases (xs := x.Name) (h.1) hn
 rw [e1]
 refine szr_bif f1 l1 fun g1 q1 => ?_
 exact szr_last g1 ⟨q1, trivI x.Strength, trivI x.Moves, trivI x.Steps, trivB x.Zone, trivI x.View, trivial⟩
theorem l_toKind_eq (x : TKind) (h : smTKind x) : X.l_toKind x = some x := by
 unfold X.l_toKind
 rfl
theorem l_eqKind_eq (x : TKind) (h : smTKind x) : X.l_eqKind x x = some true := by
 unfold X.l_eqKind
 simp []
abbrev okLTKind (x : (List TKind)) : Prop := okL okTKind x
abbrev smLTKind (x : (List TKind)) : Prop := smL smTKind x
theorem l_szKindS_sz (x : (List TKind)) (h : okLTKind x) : SzOk X.l_szKindS smLTKind x := szL_ok (z := zTKind) (f := X.l_szKind) h.1 fun y hy => l_szKind_sz y (h.2 y hy)
theorem l_toKindS_eq (x : (List TKind)) (h : smLTKind x) : X.l_toKindS x = some x := toL_eq (z := zTKind) (f := X.l_toKind) h.1 fun y hy => l_toKind_eq y (h.2 y hy)
theorem l_eqKindS_eq (x : (List TKind)) (h : smLTKind x) : X.l_eqKindS x x = some true := eqL_self (z := zTKind) (f := X.l_eqKind) h.1 fun y hy => l_eqKind_eq y (h.2 y hy)
abbrev okTRules (x : TRules) : Prop := okLTTerrain x.Terrains ∧ okLTKind x.Kinds ∧ okI x.Stack ∧ okI x.River ∧ okI x.Road ∧ okI x.Supply ∧ okI x.Turns ∧ True
abbrev smTRules (x : TRules) : Prop := smLTTerrain x.Terrains ∧ smLTKind x.Kinds ∧ smI x.Stack ∧ smI x.River ∧ smI x.Road ∧ smI x.Supply ∧ smI x.Turns ∧ True
theorem l_szRules_sz (x : TRules) (h : okTRules x) : SzOk X.l_szRules smTRules x := by
 intro n hn
 unfold X.l_szRules
 refine szr_step (l_szTerrainS_sz x.Terrains (h.1) n hn) hn fun r1 g1 q1 => ?_
 refine szr_step (l_szKindS_sz x.Kinds (h.2.1) r1 g1) g1 fun r2 g2 q2 => ?_
 exact szr_last g2 ⟨q1, q2, trivI x.Stack, trivI x.River, trivI x.Road, trivI x.Supply, trivI x.Turns, trivial⟩
theorem l_toRules_eq (x : TRules) (h : smTRules x) : X.l_toRules x = some x := by
 unfold X.l_toRules
 simp only [l_toTerrainS_eq x.Terrains (h.1), l_toKindS_eq x.Kinds (h.2.1), obs]
theorem l_eqRules_eq (x : TRules) (h : smTRules x) : X.l_eqRules x x = some true := by
 unfold X.l_eqRules
 simp [l_eqTerrainS_eq x.Terrains (h.1), l_eqKindS_eq x.Kinds (h.2.1)]
abbrev okTMap (x : TMap) : Prop := okI x.Width ∧ okI x.Height ∧ okLI x.Terrain ∧ okLI x.Rivers ∧ okLI x.Roads ∧ True
abbrev smTMap (x : TMap) : Prop := smI x.Width ∧ smI x.Height ∧ smLI x.Terrain ∧ smLI x.Rivers ∧ smLI x.Roads ∧ True
theorem l_szMap_sz (x : TMap) (h : okTMap x) : SzOk X.l_szMap smTMap x := by
 intro n hn
 unfold X.l_szMap
 refine szr_step (l_szIntS_sz x.Terrain (h.2.2.1) n hn) hn fun r1 g1 q1 => ?_
 refine szr_step (l_szIntS_sz x.Rivers (h.2.2.2.1) r1 g1) g1 fun r2 g2 q2 => ?_
 refine szr_step (l_szIntS_sz x.Roads (h.2.2.2.2.1) r2 g2) g2 fun r3 g3 q3 => ?_
 exact szr_last g3 ⟨trivI x.Width, trivI x.Height, q1, q2, q3, trivial⟩
theorem l_toMap_eq (x : TMap) (h : smTMap x) : X.l_toMap x = some x := by
 unfold X.l_toMap
 simp only [l_toIntS_eq x.Terrain (h.2.2.1), l_toIntS_eq x.Rivers (h.2.2.2.1), l_toIntS_eq x.Roads (h.2.2.2.2.1), obs]
theorem l_eqMap_eq (x : TMap) (h : smTMap x) : X.l_eqMap x x = some true := by
 unfold X.l_eqMap
 simp [l_eqIntS_eq x.Terrain (h.2.2.1), l_eqIntS_eq x.Rivers (h.2.2.2.1), l_eqIntS_eq x.Roads (h.2.2.2.2.1)]
abbrev okTBoard (x : TBoard) : Prop := okTRules x.Rules ∧ okTMap x.Map ∧ True
abbrev smTBoard (x : TBoard) : Prop := smTRules x.Rules ∧ smTMap x.Map ∧ True
theorem l_szBoard_sz (x : TBoard) (h : okTBoard x) : SzOk X.l_szBoard smTBoard x := by
 intro n hn
 unfold X.l_szBoard
 refine szr_step (l_szRules_sz x.Rules (h.1) n hn) hn fun r1 g1 q1 => ?_
 refine szr_step (l_szMap_sz x.Map (h.2.1) r1 g1) g1 fun r2 g2 q2 => ?_
 exact szr_last g2 ⟨q1, q2, trivial⟩
theorem l_toBoard_eq (x : TBoard) (h : smTBoard x) : X.l_toBoard x = some x := by
 unfold X.l_toBoard
 simp only [l_toRules_eq x.Rules (h.1), l_toMap_eq x.Map (h.2.1), obs]
theorem l_eqBoard_eq (x : TBoard) (h : smTBoard x) : X.l_eqBoard x x = some true := by
 unfold X.l_eqBoard
 simp [l_eqRules_eq x.Rules (h.1), l_eqMap_eq x.Map (h.2.1)]
abbrev okTUnit (x : TUnit) : Prop := okI x.Side ∧ okI x.Kind ∧ okI x.At ∧ okI x.Steps ∧ True
abbrev smTUnit (x : TUnit) : Prop := smI x.Side ∧ smI x.Kind ∧ smI x.At ∧ smI x.Steps ∧ True
theorem trivTUnit (x : TUnit) : smTUnit x := ⟨trivI x.Side, trivI x.Kind, trivI x.At, trivI x.Steps, trivial⟩
theorem l_toUnit_eq (x : TUnit) (h : smTUnit x) : X.l_toUnit x = some x := by
 unfold X.l_toUnit
 rfl
theorem l_eqUnit_eq (x : TUnit) (h : smTUnit x) : X.l_eqUnit x x = some true := by
 unfold X.l_eqUnit
 simp []
abbrev okLTUnit (x : (List TUnit)) : Prop := okL okTUnit x
abbrev smLTUnit (x : (List TUnit)) : Prop := smL smTUnit x
theorem l_szUnitS_sz (x : (List TUnit)) (h : okLTUnit x) : SzOk X.l_szUnitS smLTUnit x := szS_ok h.1 fun y _ => trivTUnit y
theorem l_toUnitS_eq (x : (List TUnit)) (h : smLTUnit x) : X.l_toUnitS x = some x := toL_eq (z := zTUnit) (f := X.l_toUnit) h.1 fun y hy => l_toUnit_eq y (h.2 y hy)
theorem l_eqUnitS_eq (x : (List TUnit)) (h : smLTUnit x) : X.l_eqUnitS x x = some true := eqL_self (z := zTUnit) (f := X.l_eqUnit) h.1 fun y hy => l_eqUnit_eq y (h.2 y hy)
abbrev okTState (x : TState) : Prop := okI x.Turn ∧ okI x.Weather ∧ okLTUnit x.Units ∧ True
abbrev smTState (x : TState) : Prop := smI x.Turn ∧ smI x.Weather ∧ smLTUnit x.Units ∧ True
theorem l_szState_sz (x : TState) (h : okTState x) : SzOk X.l_szState smTState x := by
 intro n hn
 unfold X.l_szState
 refine szr_step (l_szUnitS_sz x.Units (h.2.2.1) n hn) hn fun r1 g1 q1 => ?_
 exact szr_last g1 ⟨trivI x.Turn, trivI x.Weather, q1, trivial⟩
theorem l_toState_eq (x : TState) (h : smTState x) : X.l_toState x = some x := by
 unfold X.l_toState
 rw [l_toUnitS_eq x.Units (h.2.2.1)]; rfl
theorem l_eqState_eq (x : TState) (h : smTState x) : X.l_eqState x x = some true := by
 unfold X.l_eqState
 simp [l_eqUnitS_eq x.Units (h.2.2.1)]
end Go.Proofs.YtjlabdoeiphegaaGreatDoor.X0

set_option maxRecDepth 100000
namespace Go.Proofs.YtjlabdoeiphegaaGreatDoor.X0
open Go Go.Proofs.YtjlabdoeiphegaaGreatDoor.Ab
theorem s_l1In_eq (n lo hi : Int) : X.s_l1In n lo hi = some (decide (lo ≤ n) && decide (n ≤ hi)) := by
 unfold X.s_l1In
 by_cases h : lo ≤ n
 ·simp [h]
 ·simp [h]
theorem i_inRange_eq (n lo hi : Int) : X.i_inRange n lo hi = some (decide (lo ≤ n) && decide (n ≤ hi)) := by
 unfold X.i_inRange
 by_cases h : lo ≤ n
 ·simp [h]
 ·simp [h]
theorem s_l1All_eq (xs : List Int) (lo hi : Int) (hl : xs.length ≤ SM) : X.s_l1All xs lo hi = some (xs.all fun x => decide (lo ≤ x) && decide (x ≤ hi)) := by
 unfold SM at hl
 unfold X.s_l1All
 rw [run_all xs (fun x => decide (lo ≤ x) && decide (x ≤ hi)) (.inr false) (.inl ()) rfl ?_ ?_]
 ·cases xs.all fun x => decide (lo ≤ x) && decide (x ≤ hi) <;> rfl
 ·intro k hk
  have hk' : (k : Int) < xs.length := by omega
  simp only [hk', decide_true, cond_true, at_nat hk, obs, s_l1In_eq, W_up hk (show xs.length ≤ maxLen from Nat.le_trans hl (by decide))]
  cases (decide (lo ≤ xs[k]) && decide (xs[k] ≤ hi)) <;> simp
 ·simp
theorem contains_int (xs : List Int) (x : Int) (hl : xs.length ≤ maxLen) : X.g_Contains_int xs x = some (xs.any fun v => x == v) := (hasF_eq (z := zI) (f := fun v => some (x == v)) (p := fun v => x == v) hl (fun _ _ => rfl) : _)
def pIn (n lo hi : Int) : Bool := decide (lo ≤ n) && decide (n ≤ hi)
theorem s_in (n lo hi : Int) : X.s_l1In n lo hi = some (pIn n lo hi) := s_l1In_eq n lo hi
theorem i_in (n lo hi : Int) : X.i_inRange n lo hi = some (pIn n lo hi) := i_inRange_eq n lo hi
theorem pIn_iff {n lo hi : Int} : pIn n lo hi = true ↔ lo ≤ n ∧ n ≤ hi := by simp [pIn]
theorem mL : maxLen = 9223372036854775807 := by decide
theorem s_all (xs : List Int) (lo hi : Int) (hl : xs.length ≤ SM) : X.s_l1All xs lo hi = some (xs.all fun x => pIn x lo hi) := s_l1All_eq xs lo hi hl
noncomputable def pName (s : List UInt8) : Bool := (X.s_rName s).getD false
theorem name_eq (s : List UInt8) (h : s.length ≤ maxLen) : X.s_rName s = some (pName s) ∧ X.i_isName s = some (pName s) := by
 have e : X.i_isName s = X.s_rName s := by
  unfold X.i_isName X.s_rName
  simp only [i_in, s_in]
 have hs : ∃ b, X.s_rName s = some b := by
  unfold X.s_rName
  rw [run_allN s.length (fun k => !(decide ((((s.getD k 0).toNat : Nat) : Int) < 97)) && !(decide ((((s.getD k 0).toNat : Nat) : Int) > 122))) (.inr false) (.inl ()) ?_ ?_]
  ·cases allFrom s.length 0 _
   ·exact ⟨_, rfl⟩
   ·simp only [cond_true, Sum.elim_inl, s_in, obs]; exact ⟨_, rfl⟩
  ·intro k hk
   have h1 : 0 ≤ (k : Int) ∧ (k : Int) < (s.length : Int) := by omega
   simp only [lt_cast hk, cond_true, if_pos h1, W_up hk h, Int.toNat_natCast]
   cases decide ((((s.getD k 0).toNat : Nat) : Int) < 97) <;> cases decide ((((s.getD k 0).toNat : Nat) : Int) > 122) <;> rfl
  ·simp only [nlt_self, cond_false]
 obtain ⟨b, hb⟩ := hs
 have hp : X.s_rName s = some (pName s) := by unfold pName; rw [hb]; rfl
 exact ⟨hp, e.trans hp⟩
noncomputable def pTI (xs : List TTerrain) (s : List UInt8) : Int := (X.s_rTerrain xs s).getD 0
noncomputable def pKI (xs : List TKind) (s : List UInt8) : Int := (X.s_rKind xs s).getD 0
theorem ti_eq (xs : List TTerrain) (s : List UInt8) (h : xs.length ≤ maxLen) : X.s_rTerrain xs s = some (pTI xs s) ∧ X.i_terrainIndex xs s = some (pTI xs s) := by
 have e : X.s_rTerrain xs s = idxF zTTerrain (fun v => some (v.Name == s)) xs := rfl
 obtain ⟨i, h1, _⟩ := idxF_ok (z := zTTerrain) (f := fun v => some (v.Name == s)) (p := fun v => v.Name == s) (xs := xs) h (fun _ _ => rfl)
 have hp : X.s_rTerrain xs s = some (pTI xs s) := by unfold pTI; rw [e, h1]; rfl
 refine ⟨hp, ?_⟩
 have e2 : X.i_terrainIndex xs s = (idxF zTTerrain (fun v => some (v.Name == s)) xs).bind some := rfl
 rw [e2, ← e, hp]; rfl
theorem ki_eq (xs : List TKind) (s : List UInt8) (h : xs.length ≤ maxLen) : X.s_rKind xs s = some (pKI xs s) ∧ X.i_kindIndex xs s = some (pKI xs s) := by
 have e : X.s_rKind xs s = idxF zTKind (fun v => some (v.Name == s)) xs := rfl
 obtain ⟨i, h1, _⟩ := idxF_ok (z := zTKind) (f := fun v => some (v.Name == s)) (p := fun v => v.Name == s) (xs := xs) h (fun _ _ => rfl)
 have hp : X.s_rKind xs s = some (pKI xs s) := by unfold pKI; rw [e, h1]; rfl
 refine ⟨hp, ?_⟩
 have e2 : X.i_kindIndex xs s = (idxF zTKind (fun v => some (v.Name == s)) xs).bind some := rfl
 rw [e2, ← e, hp]; rfl
noncomputable def qT (r : TRules) (k : Nat) : Bool :=
 let t := r.Terrains.getD k zTTerrain
 pName t.Name && ((pTI r.Terrains t.Name == (k : Int)) && (((t.Cost.length : Int) == (r.Kinds.length : Int)) && ((t.Cost.all fun x => pIn x 0 9) && (pIn t.Shift (-3) 3 && pIn t.Height 0 3))))
noncomputable def qK (r : TRules) (k : Nat) : Bool :=
 let t := r.Kinds.getD k zTKind
 pName t.Name && ((pKI r.Kinds t.Name == (k : Int)) && (pIn t.Strength 1 9 && (pIn t.Moves 0 9 && (pIn t.Steps 1 4 && pIn t.View 0 4))))
noncomputable def pRules (r : TRules) : Bool :=
 pIn (r.Terrains.length : Int) 1 6 && (pIn (r.Kinds.length : Int) 1 4 && (allFrom r.Terrains.length 0 (qT r) && (allFrom r.Kinds.length 0 (qK r) && (pIn r.Stack 1 4 && (pIn r.River 0 9 && (pIn r.Road 1 9 && (pIn r.Supply 0 20 && pIn r.Turns 1 30)))))))
theorem costs_eq (xs : List Int) (h : xs.length ≤ SM) : X.g_ContainsFunc_int xs (fun q0 => X.i_goodTerrain_1 q0) = some (!(xs.all fun x => pIn x 0 9)) := by
 have hm := mL
 have := hasF_eq (z := zI) (f := fun q0 => X.i_goodTerrain_1 q0) (p := fun x => !(pIn x 0 9)) (xs := xs) (by unfold SM at h; omega) (fun x _ => by unfold X.i_goodTerrain_1; rw [i_in]; rfl)
 rw [List.not_all_eq_any_not]
 exact this
theorem getD_mem {α : Type} {xs : List α} {k : Nat} {z : α} (h : k < xs.length) : xs.getD k z ∈ xs := by
 have : xs.getD k z = xs[k] := by simp [List.getD, h]
 rw [this]; exact List.getElem_mem h
theorem rules_eq (r : TRules) (q : smTRules r) : X.s_rGood r = some (pRules r) ∧ X.i_IsRules r = some (pRules r) := by
 have hm := mL
 have hT : r.Terrains.length ≤ maxLen := by have := q.1.1; unfold SM at this; omega
 have hK : r.Kinds.length ≤ maxLen := by have := q.2.1.1; unfold SM at this; omega
 have hTn : ∀ k, k < r.Terrains.length → (r.Terrains.getD k zTTerrain).Name.length ≤ maxLen ∧ (r.Terrains.getD k zTTerrain).Cost.length ≤ SM := fun k hk => by
  have := q.1.2 _ (getD_mem (z := zTTerrain) hk)
  exact ⟨by have := this.1; unfold smS SM at this; omega, this.2.1.1⟩
 have hKn : ∀ k, k < r.Kinds.length → (r.Kinds.getD k zTKind).Name.length ≤ maxLen := fun k hk => by
  have := (q.2.1.2 _ (getD_mem (z := zTKind) hk)).1
  unfold smS SM at this; omega
 constructor
 ·unfold X.s_rGood pRules
  simp only [s_in, obs, bif_not]
  cases pIn (r.Terrains.length : Int) 1 6
  ·rfl
  cases pIn (r.Kinds.length : Int) 1 4
  ·rfl
  simp only [cond_true, Bool.true_and]
  rw [run_allN r.Terrains.length (qT r) (.inr false) (.inl ()) ?_ ?_]
  ·cases allFrom r.Terrains.length 0 (qT r)
   ·rfl
   simp only [cond_true, Sum.elim_inl, Bool.true_and]
   rw [run_allN r.Kinds.length (qK r) (.inr false) (.inl ()) ?_ ?_]
   ·cases allFrom r.Kinds.length 0 (qK r)
    ·rfl
    simp only [cond_true, Sum.elim_inl, Bool.true_and]
    cases pIn r.Stack 1 4 <;> cases pIn r.River 0 9 <;> cases pIn r.Road 1 9 <;> cases pIn r.Supply 0 20 <;> rfl
   ·intro k hk
    simp only [lt_cast hk, cond_true, at_getD hk, obs, (name_eq _ (hKn k hk)).1, (ki_eq _ _ hK).1, W_up hk hK, qK]
    cases pName (r.Kinds.getD k zTKind).Name
    ·rfl
    cases h : pKI r.Kinds (r.Kinds.getD k zTKind).Name == (k : Int)
    ·simp only [bne, h]; rfl
    simp only [bne, h, Bool.not_true, cond_false, cond_true, Bool.true_and]
    cases pIn (r.Kinds.getD k zTKind).Strength 1 9 <;> cases pIn (r.Kinds.getD k zTKind).Moves 0 9 <;> cases pIn (r.Kinds.getD k zTKind).Steps 1 4 <;> cases pIn (r.Kinds.getD k zTKind).View 0 4 <;> rfl
   ·simp only [nlt_self, cond_false]
  ·intro k hk
   simp only [lt_cast hk, cond_true, at_getD hk, obs, (name_eq _ (hTn k hk).1).1, (ti_eq _ _ hT).1, s_all _ _ _ (hTn k hk).2, W_up hk hT, qT]
   cases pName (r.Terrains.getD k zTTerrain).Name
   ·rfl
   cases h : pTI r.Terrains (r.Terrains.getD k zTTerrain).Name == (k : Int)
   ·simp only [bne, h]; rfl
   cases h2 : ((r.Terrains.getD k zTTerrain).Cost.length : Int) == (r.Kinds.length : Int)
   ·simp only [bne, h, h2]; rfl
   simp only [bne, h, h2, Bool.not_true, cond_false, cond_true, Bool.true_and]
   cases ((r.Terrains.getD k zTTerrain).Cost.all fun x => pIn x 0 9) <;> cases pIn (r.Terrains.getD k zTTerrain).Shift (-3) 3 <;> cases pIn (r.Terrains.getD k zTTerrain).Height 0 3 <;> rfl
  ·simp only [nlt_self, cond_false]
 ·unfold X.i_IsRules pRules
  simp only [i_in, obs, bif_not]
  cases pIn (r.Terrains.length : Int) 1 6
  ·rfl
  cases pIn (r.Kinds.length : Int) 1 4
  ·rfl
  simp only [cond_true, Bool.true_and]
  rw [run_allN r.Terrains.length (qT r) (.inr false) (.inl ()) ?_ ?_]
  ·cases allFrom r.Terrains.length 0 (qT r)
   ·rfl
   simp only [cond_true, Sum.elim_inl, Bool.true_and]
   rw [run_allN r.Kinds.length (qK r) (.inr false) (.inl ()) ?_ ?_]
   ·cases allFrom r.Kinds.length 0 (qK r)
    ·rfl
    simp only [cond_true, Sum.elim_inl, Bool.true_and]
    cases pIn r.Stack 1 4 <;> cases pIn r.River 0 9 <;> cases pIn r.Road 1 9 <;> cases pIn r.Supply 0 20 <;> rfl
   ·intro k hk
    simp only [lt_cast hk, cond_true, at_getD hk, obs, X.i_goodKind, i_in, (name_eq _ (hKn k hk)).2, (ki_eq _ _ hK).2, W_up hk hK, qK]
    cases pName (r.Kinds.getD k zTKind).Name
    ·rfl
    cases h : pKI r.Kinds (r.Kinds.getD k zTKind).Name == (k : Int) <;> simp only [bne, h] <;>
    cases pIn (r.Kinds.getD k zTKind).Strength 1 9 <;> cases pIn (r.Kinds.getD k zTKind).Moves 0 9 <;> cases pIn (r.Kinds.getD k zTKind).Steps 1 4 <;> cases pIn (r.Kinds.getD k zTKind).View 0 4 <;> rfl
   ·simp only [nlt_self, cond_false]
  ·intro k hk
   simp only [lt_cast hk, cond_true, at_getD hk, obs, X.i_goodTerrain, i_in, (name_eq _ (hTn k hk).1).2, (ti_eq _ _ hT).2, costs_eq _ (hTn k hk).2, W_up hk hT, qT]
   cases pName (r.Terrains.getD k zTTerrain).Name
   ·rfl
   cases h2 : ((r.Terrains.getD k zTTerrain).Cost.length : Int) == (r.Kinds.length : Int)
   ·simp only [bne, h2]; cases (pTI r.Terrains (r.Terrains.getD k zTTerrain).Name == (k : Int)) <;> rfl
   cases h : pTI r.Terrains (r.Terrains.getD k zTTerrain).Name == (k : Int) <;> simp only [bne, h, h2, Bool.not_true, cond_false, cond_true, Bool.true_and] <;>
   cases ((r.Terrains.getD k zTTerrain).Cost.all fun x => pIn x 0 9) <;> cases pIn (r.Terrains.getD k zTTerrain).Shift (-3) 3 <;> cases pIn (r.Terrains.getD k zTTerrain).Height 0 3 <;> rfl
  ·simp only [nlt_self, cond_false]
def dQ : List Int := [1, 1, 0, -1, -1, 0]
def dR : List Int := [0, -1, -1, 0, 1, 1]
def okSides (m : TMap) : Prop := 1 ≤ m.Width ∧ m.Width ≤ 10 ∧ 1 ≤ m.Height ∧ m.Height ≤ 10
def pIdx (m : TMap) (a b : Int) : Int := bif pIn a 0 (m.Width - 1) && pIn b 0 (m.Height - 1) then b * m.Width + a else -1
def pNext (m : TMap) (i : Int) (d : Int) : Int := pIdx m (i % m.Width + dQ.getD d.toNat 0) (i / m.Width + dR.getD d.toNat 0)
theorem size_eq (m : TMap) (h : okSides m) : W (m.Width * m.Height) = m.Width * m.Height ∧ 1 ≤ m.Width * m.Height ∧ m.Width * m.Height ≤ 100 := by
 obtain ⟨h1, h2, h3, h4⟩ := h
 have a : 1 * 1 ≤ m.Width * m.Height := Int.mul_le_mul h1 h3 (by omega) (by omega)
 have b : m.Width * m.Height ≤ 10 * 10 := Int.mul_le_mul h2 h4 (by omega) (by omega)
 exact ⟨W_of (by omega), by omega, by omega⟩
theorem tmod_nn {a b : Int} (ha : 0 ≤ a) (hb : 1 ≤ b) : Int.tmod a b = a % b := Int.tmod_eq_emod_of_nonneg ha
theorem tdiv_nn {a b : Int} (ha : 0 ≤ a) : Int.tdiv a b = a / b := Int.tdiv_eq_ediv_of_nonneg ha
theorem idx_eq (m : TMap) (h : okSides m) (a b : Int) : X.s_mIndex m ⟨a, b⟩ = some (pIdx m a b) ∧ X.i_indexOf m ⟨a, b⟩ = some (pIdx m a b) := by
 have hw := h
 obtain ⟨h1, h2, h3, h4⟩ := h
 unfold X.s_mIndex X.i_indexOf X.i_isIndex pIdx
 simp only [s_in, i_in, obs]
 rw [W_of (n := m.Width - 1) (by omega), W_of (n := m.Height - 1) (by omega)]
 cases ha : pIn a 0 (m.Width - 1)
 ·exact ⟨rfl, rfl⟩
 cases hb : pIn b 0 (m.Height - 1)
 ·exact ⟨rfl, rfl⟩
 simp only [Bool.not_true, cond_false, Bool.and_self, cond_true]
 rw [pIn_iff] at ha hb
 have e1 : 0 * 1 ≤ b * m.Width := Int.mul_le_mul (by omega) (by omega) (by omega) (by omega)
 have e2 : b * m.Width ≤ 10 * 10 := Int.mul_le_mul (by omega) (by omega) (by omega) (by omega)
 rw [W_of (n := b * m.Width) (by omega), W_of (by omega)]
 exact ⟨rfl, rfl⟩
theorem pIdx_lt {m : TMap} (h : okSides m) {a b : Int} : pIdx m a b = -1 ∨ (0 ≤ pIdx m a b ∧ pIdx m a b < m.Width * m.Height) := by
 obtain ⟨h1, h2, h3, h4⟩ := h
 unfold pIdx
 cases ha : pIn a 0 (m.Width - 1) && pIn b 0 (m.Height - 1)
 ·exact .inl rfl
 ·simp only [Bool.and_eq_true, pIn_iff] at ha
  right
  simp only [cond_true]
  have e1 : 0 * 1 ≤ b * m.Width := Int.mul_le_mul (by omega) (by omega) (by omega) (by omega)
  have e2 : b * m.Width ≤ (m.Height - 1) * m.Width := Int.mul_le_mul_of_nonneg_right (by omega) (by omega)
  have e3 : (m.Height - 1) * m.Width = m.Width * m.Height - m.Width := by rw [Int.sub_mul, Int.mul_comm m.Height, Int.one_mul]
  omega
theorem dirs_getD (d : Nat) (h : d < 6) : dirs.getD d zTHex = ⟨dQ.getD d 0, dR.getD d 0⟩ ∧ -1 ≤ dQ.getD d 0 ∧ dQ.getD d 0 ≤ 1 ∧ -1 ≤ dR.getD d 0 ∧ dR.getD d 0 ≤ 1 := by
 match d, h with
 | 0, _ => exact ⟨rfl, by decide⟩
 | 1, _ => exact ⟨rfl, by decide⟩
 | 2, _ => exact ⟨rfl, by decide⟩
 | 3, _ => exact ⟨rfl, by decide⟩
 | 4, _ => exact ⟨rfl, by decide⟩
 | 5, _ => exact ⟨rfl, by decide⟩
theorem next_eq (m : TMap) (h : okSides m) (i d : Int) (hi : 0 ≤ i ∧ i < 4611686018427387904) (hd : 0 ≤ d ∧ d < 6) : X.s_mNext m i d = some (pNext m i d) ∧ X.i_nextTo m i d = some (pNext m i d) := by
 have hw := h
 obtain ⟨h1, h2, h3, h4⟩ := h
 obtain ⟨k, rfl⟩ := Int.eq_ofNat_of_zero_le hd.1
 have hk : k < 6 := by omega
 obtain ⟨g0, g1, g2, g3, g4⟩ := dirs_getD k hk
 have hne : m.Width ≠ 0 := by omega
 have hm1 : 0 ≤ i % m.Width := Int.emod_nonneg _ hne
 have hm2 : i % m.Width < m.Width := Int.emod_lt_of_pos _ (by omega)
 have hd1 : 0 ≤ i / m.Width := Int.ediv_nonneg hi.1 (by omega)
 have hd2 : i / m.Width ≤ i := Int.ediv_le_self _ hi.1
 have e : pNext m i (k : Int) = pIdx m (i % m.Width + dQ.getD k 0) (i / m.Width + dR.getD k 0) := rfl
 constructor
 ·unfold X.s_mNext X.s_mHex X.s_hStep
  rw [if_pos hne, if_pos hne]
  simp only [obs]
  have hl1 : 0 ≤ (k : Int) ∧ (k : Int) < (([1, 1, 0, -1, -1, 0] : List Int).length : Int) := ⟨by omega, by simp; omega⟩
  have hl2 : 0 ≤ (k : Int) ∧ (k : Int) < (([0, -1, -1, 0, 1, 1] : List Int).length : Int) := ⟨by omega, by simp; omega⟩
  rw [if_pos hl1, if_pos hl2]
  simp only [obs, Int.toNat_natCast]
  rw [tmod_nn hi.1 h1, tdiv_nn hi.1, W_of (n := i / m.Width) (by omega)]
  change ((X.s_mIndex m (THex.mk (W (i % m.Width + dQ.getD k 0)) (W (i / m.Width + dR.getD k 0)))).bind fun v5 => some v5) = _
  rw [W_of (n := i % m.Width + dQ.getD k 0) (by omega), W_of (n := i / m.Width + dR.getD k 0) (by omega), (idx_eq m hw _ _).1, e]; rfl
 ·unfold X.i_nextTo X.i_hexOf X.i_stepBy
  rw [if_pos hne, if_pos hne]
  simp only [obs]
  rw [tmod_nn hi.1 h1, tdiv_nn hi.1, W_of (n := i / m.Width) (by omega)]
  rw [at_getD (z := zTHex) (xs := dirs) (k := k) hk, g0]
  simp only [obs, Int.one_mul]
  rw [W_of (n := dQ.getD k 0) (by omega), W_of (n := dR.getD k 0) (by omega)]
  rw [W_of (n := i % m.Width + dQ.getD k 0) (by omega), W_of (n := i / m.Width + dR.getD k 0) (by omega), (idx_eq m hw _ _).2, e]; rfl
def pEdge (m : TMap) (e : Int) : Bool := pIn e 0 (3 * (m.Width * m.Height) - 1) && decide (0 ≤ pNext m (e / 3) (e % 3))
def pIncr (l : List Int) : Bool := allFrom (l.length - 1) 1 fun k => decide (l.getD (k - 1) 0 < l.getD k 0)
def pEdges (m : TMap) (l : List Int) : Bool := l.all (pEdge m) && pIncr l
theorem isEdge_eq (m : TMap) (h : okSides m) (e : Int) : X.i_isEdge m e = some (pEdge m e) := by
 obtain ⟨h5, h6, h7⟩ := size_eq m h
 have hw := h
 obtain ⟨h1, h2, h3, h4⟩ := h
 unfold X.i_isEdge pEdge
 have e3 : W ((W ((W (3 * m.Width)) * m.Height)) - 1) = 3 * (m.Width * m.Height) - 1 := by
  rw [W_of (n := 3 * m.Width) (by omega), Int.mul_assoc, W_of (n := 3 * (m.Width * m.Height)) (by omega), W_of (by omega)]
 rw [e3]
 simp only [i_in, obs]
 cases hp : pIn e 0 (3 * (m.Width * m.Height) - 1)
 ·rfl
 ·rw [pIn_iff] at hp
  simp only [cond_true, Bool.true_and]
  have q1 : Int.tdiv e 3 = e / 3 := tdiv_nn hp.1
  have q2 : Int.tmod e 3 = e % 3 := tmod_nn hp.1 (by omega)
  rw [q1, q2, W_of (n := e / 3) (by omega), (next_eq m hw (e / 3) (e % 3) (by omega) (by omega)).2]
  simp
theorem s_edge (m : TMap) (h : okSides m) (e : Int) : ((X.s_mSize m).bind fun v73 => (X.s_l1In e 0 (W ((W (3 * v73)) - 1)))) = some (pIn e 0 (3 * (m.Width * m.Height) - 1)) ∧
  (pIn e 0 (3 * (m.Width * m.Height) - 1) = true → X.s_mNext m (W (Int.tdiv e 3)) (Int.tmod e 3) = some (pNext m (e / 3) (e % 3))) := by
 obtain ⟨h5, h6, h7⟩ := size_eq m h
 unfold X.s_mSize
 simp only [obs, s_in]
 rw [h5, W_of (n := 3 * (m.Width * m.Height)) (by omega), W_of (by omega)]
 refine ⟨rfl, fun hp => ?_⟩
 rw [pIn_iff] at hp
 have q1 : Int.tdiv e 3 = e / 3 := tdiv_nn hp.1
 have q2 : Int.tmod e 3 = e % 3 := tmod_nn hp.1 (by omega)
 rw [q1, q2, W_of (n := e / 3) (by omega)]
 exact (next_eq m h (e / 3) (e % 3) (by omega) (by omega)).1
theorem incr_eq (l : List Int) (h : l.length ≤ SM) : X.i_increasing l = some (pIncr l) := by
 have hm := mL
 have h' := h
 unfold SM at h'
 unfold X.i_increasing pIncr
 by_cases h0 : l.length = 0
 ·rw [loop_eq, h0]; rfl
 ·have := loop_allFrom (body := (fun (x16 : Int) => ((bif (decide (x16 < (l.length : Int))) then ((at' zI l (W (x16 - 1))).bind fun v19 => ((at' zI l x16).bind fun v21 => (bif (decide (v19 ≥ v21)) then some (Sum.inr (Sum.inr false)) else some (Sum.inl (W (x16 + 1)))))) else some (Sum.inr (Sum.inl ()))) : Option (Int ⊕ (Unit ⊕ Bool)))))
   (fun k => decide (l.getD (k - 1) 0 < l.getD k 0)) (.inr false) (.inl ()) (l.length - 1) 1 (fun j h1 h2 => by
    have hj : j < l.length := by omega
    have e1 : W ((j : Int) - 1) = ((j - 1 : Nat) : Int) := by rw [W_of (by omega)]; omega
    simp only [lt_cast hj, cond_true, e1, at_getD (show j - 1 < l.length by omega), at_getD hj, obs, W_up hj (show l.length ≤ maxLen by omega)]
    show _ = some (bif decide (l.getD (j - 1) zI < l.getD j zI) then _ else _)
    by_cases e : l.getD (j - 1) zI < l.getD j zI
    ·have e' : ¬ l.getD (j - 1) zI ≥ l.getD j zI := by omega
     simp only [e, e', decide_true, decide_false, cond_true, cond_false]
    ·have e' : l.getD (j - 1) zI ≥ l.getD j zI := by omega
     simp only [e, e', decide_true, decide_false, cond_true, cond_false]) (by
    have : 1 + (l.length - 1) = l.length := by omega
    rw [this]; simp only [nlt_self, cond_false])
  rw [show ((1 : Nat) : Int) = 1 from rfl] at this
  rw [this]
  cases allFrom (l.length - 1) 1 fun k => decide (l.getD (k - 1) 0 < l.getD k 0) <;> rfl
theorem rising_eq (l : List Int) (lo hi : Int) (h : l.length ≤ SM) : X.s_l1Rising l lo hi = some (allFrom l.length 0 fun k => pIn (l.getD k 0) lo hi && (decide (k = 0) || decide (l.getD (k - 1) 0 < l.getD k 0))) := by
 have hm := mL
 have h' := h
 unfold SM at h'
 unfold X.s_l1Rising
 rw [run_allN l.length (fun k => pIn (l.getD k 0) lo hi && (decide (k = 0) || decide (l.getD (k - 1) 0 < l.getD k 0))) (.inr false) (.inl ()) ?_ ?_]
 ·cases allFrom l.length 0 _ <;> rfl
 ·intro k hk
  simp only [lt_cast hk, cond_true, at_getD hk, obs, s_in, W_up hk (show l.length ≤ maxLen by omega)]
  show _ = some (bif pIn (l.getD k zI) lo hi && (decide (k = 0) || decide (l.getD (k - 1) zI < l.getD k zI)) then _ else _)
  cases pIn (l.getD k zI) lo hi
  ·rfl
  simp only [Bool.not_true, cond_false, Bool.true_and]
  by_cases h0 : k = 0
  ·subst h0; simp
  ·have e0 : (k : Int) > 0 := by omega
   have e1 : W ((k : Int) - 1) = ((k - 1 : Nat) : Int) := by rw [W_of (by omega)]; omega
   simp only [e0, decide_true, cond_true, e1, at_getD (show k - 1 < l.length by omega), obs, h0, decide_false, Bool.false_or]
   by_cases e : l.getD (k - 1) zI < l.getD k zI
   ·have e' : ¬ l.getD (k - 1) zI ≥ l.getD k zI := by omega
    simp only [e, e', decide_true, decide_false, cond_true, cond_false]
   ·have e' : l.getD (k - 1) zI ≥ l.getD k zI := by omega
    simp only [e, e', decide_true, decide_false, cond_true, cond_false]
 ·simp only [nlt_self, cond_false]
theorem rising_incr (l : List Int) (lo hi : Int) (h : ∀ k, k < l.length → pIn (l.getD k 0) lo hi = true) : (allFrom l.length 0 fun k => pIn (l.getD k 0) lo hi && (decide (k = 0) || decide (l.getD (k - 1) 0 < l.getD k 0))) = pIncr l := by
 rw [Bool.eq_iff_iff]
 unfold pIncr
 rw [allFrom_iff, allFrom_iff]
 constructor
 ·intro g j h1 h2
  have := g j (by omega) (by omega)
  simp only [Bool.and_eq_true, Bool.or_eq_true, decide_eq_true_eq] at this ⊢
  rcases this.2 with e | e
  ·omega
  ·exact e
 ·intro g j _ h2
  simp only [Bool.and_eq_true, Bool.or_eq_true, decide_eq_true_eq]
  refine ⟨h j (by omega), ?_⟩
  by_cases e : j = 0
  ·exact .inl e
  ·have := g j (by omega) (by omega)
   exact .inr (by simpa using this)
theorem edges_eq (m : TMap) (h : okSides m) (l : List Int) (hl : l.length ≤ SM) : X.s_mEdges m l = some (pEdges m l) := by
 have hm := mL
 have hl' := hl
 unfold SM at hl'
 obtain ⟨h5, h6, h7⟩ := size_eq m h
 have e3 : W ((W (3 * (W (m.Width * m.Height)))) - 1) = 3 * (m.Width * m.Height) - 1 := by rw [h5, W_of (n := 3 * (m.Width * m.Height)) (by omega), W_of (by omega)]
 unfold X.s_mEdges pEdges
 rw [run_all l (pEdge m) (.inr false) (.inl ()) rfl ?_ ?_]
 ·cases ha : l.all (pEdge m)
  ·rfl
  ·simp only [cond_true, Sum.elim_inl, X.s_mSize, obs, Bool.true_and, e3, rising_eq l _ _ hl]
   rw [rising_incr]
   intro k hk
   have := List.all_eq_true.1 ha _ (getD_mem (z := 0) hk)
   unfold pEdge at this
   rw [Bool.and_eq_true] at this
   exact this.1
 ·intro k hk
  simp only [lt_cast hk, cond_true, at_nat hk, obs, X.s_mSize, e3, s_in, W_up hk (show l.length ≤ maxLen by omega)]
  unfold pEdge
  cases hp : pIn l[k] 0 (3 * (m.Width * m.Height) - 1)
  ·rfl
  ·simp only [Bool.not_true, cond_false, (s_edge m h l[k]).2 hp, obs, Bool.true_and]
   by_cases e : pNext m (l[k] / 3) (l[k] % 3) < 0
   ·have e' : ¬ 0 ≤ pNext m (l[k] / 3) (l[k] % 3) := by omega
    simp only [e, e', decide_true, decide_false, cond_true, cond_false]
   ·have e' : 0 ≤ pNext m (l[k] / 3) (l[k] % 3) := by omega
    simp only [e, e', decide_true, decide_false, cond_true, cond_false]
 ·simp only [nlt_self, cond_false]
def pMap (m : TMap) : Bool :=
 pIn m.Width 1 10 && (pIn m.Height 1 10 && (((m.Terrain.length : Int) == m.Width * m.Height) && ((m.Terrain.all fun x => pIn x 0 5) && (pEdges m m.Rivers && pEdges m m.Roads))))
theorem map_eq (m : TMap) (q : smTMap m) : X.s_mGood m = some (pMap m) ∧ X.i_IsMap m = some (pMap m) := by
 have hm := mL
 have hT : m.Terrain.length ≤ maxLen := by have := q.2.2.1.1; unfold SM at this; omega
 have ed : ∀ l : List Int, l.length ≤ SM → okSides m → ∀ {γ : Type} (f : Unit ⊕ Bool → Option γ), ((loop (fun (x167 : Int) => ((bif (decide (x167 < (l.length : Int))) then ((at' zI l x167).bind fun v170 => ((X.i_isEdge m v170).bind fun v172 => (bif (!v172) then some (Sum.inr (Sum.inr false)) else some (Sum.inl (W (x167 + 1)))))) else some (Sum.inr (Sum.inl ()))) : Option (Int ⊕ (Unit ⊕ Bool)))) 0).bind f) = f (bif l.all (pEdge m) then .inl () else .inr false) := by
  intro l hl hs γ f
  have hl' := hl
  unfold SM at hl'
  rw [run_all l (pEdge m) (.inr false) (.inl ()) rfl ?_ ?_]
  ·intro k hk
   simp only [lt_cast hk, cond_true, at_nat hk, obs, isEdge_eq m hs, W_up hk (show l.length ≤ maxLen by omega)]
   cases pEdge m l[k] <;> rfl
  ·simp only [nlt_self, cond_false]
 unfold X.s_mGood X.i_IsMap pMap
 simp only [s_in, i_in, obs]
 cases h1 : pIn m.Width 1 10
 ·exact ⟨rfl, rfl⟩
 cases h2 : pIn m.Height 1 10
 ·exact ⟨rfl, rfl⟩
 rw [pIn_iff] at h1 h2
 have hs : okSides m := ⟨h1.1, h1.2, h2.1, h2.2⟩
 obtain ⟨h5, h6, h7⟩ := size_eq m hs
 simp only [Bool.not_true, cond_false, cond_true, Bool.true_and, X.s_mSize, obs, h5]
 cases h3 : (m.Terrain.length : Int) == m.Width * m.Height
 ·refine ⟨rfl, ?_⟩
  simp only [bne, h3]; rfl
 simp only [bne, h3, Bool.not_true, cond_false, cond_true, Bool.true_and]
 rw [s_all _ _ _ q.2.2.1.1]
 rw [run_all m.Terrain (fun x => pIn x 0 5) (.inr false) (.inl ()) rfl ?_ ?_]
 ·cases ht : (m.Terrain.all fun x => pIn x 0 5)
  ·exact ⟨rfl, rfl⟩
  simp only [cond_true, Sum.elim_inl, obs, Bool.true_and, edges_eq m hs _ q.2.2.2.1.1, edges_eq m hs _ q.2.2.2.2.1.1]
  refine ⟨by cases pEdges m m.Rivers <;> rfl, ?_⟩
  rw [run_allN 2 (fun k => pIncr (([m.Rivers, m.Roads] : List (List Int)).getD k zLI) && (([m.Rivers, m.Roads] : List (List Int)).getD k zLI).all (pEdge m)) (.inr false) (.inl ()) ?_ ?_]
  ·simp only [allFrom, pEdges, Bool.and_true]
   show _ = some ((m.Rivers.all (pEdge m) && pIncr m.Rivers) && (m.Roads.all (pEdge m) && pIncr m.Roads))
   change Sum.elim _ _ (bif ((pIncr m.Rivers && m.Rivers.all (pEdge m)) && (pIncr m.Roads && m.Roads.all (pEdge m))) then _ else _) = _
   cases pIncr m.Rivers <;> cases m.Rivers.all (pEdge m) <;> cases pIncr m.Roads <;> cases m.Roads.all (pEdge m) <;> rfl
  ·intro k hk
   have g1 : (([m.Rivers, m.Roads] : List (List Int)).getD k zLI).length ≤ SM := by
    rcases (show k = 0 ∨ k = 1 by omega) with rfl | rfl
    ·exact q.2.2.2.1.1
    ·exact q.2.2.2.2.1.1
   have g2 : 0 ≤ (k : Int) ∧ (k : Int) < (([m.Rivers, m.Roads] : List (List Int)).length : Int) := ⟨by omega, by simp; omega⟩
   rw [show decide ((k : Int) < (([m.Rivers, m.Roads] : List (List Int)).length : Int)) = true from decide_eq_true g2.2]
   simp only [cond_true]
   rw [if_pos g2]
   simp only [Int.toNat_natCast]
   rw [incr_eq _ g1]
   simp only [obs]
   cases pIncr (([m.Rivers, m.Roads] : List (List Int)).getD k zLI)
   ·rfl
   simp only [Bool.not_true, cond_false, Bool.true_and]
   rw [ed _ g1 hs]
   have : W ((k : Int) + 1) = ((k + 1 : Nat) : Int) := by rw [W_of (by omega)]; omega
   rw [this]
   cases (([m.Rivers, m.Roads] : List (List Int)).getD k zLI).all (pEdge m) <;> rfl
  ·rfl
 ·intro k hk
  have e6 : W ((6 : Int) - 1) = 5 := rfl
  simp only [lt_cast hk, cond_true, at_nat hk, obs, X.i_isIndex, i_in, e6, W_up hk hT]
  cases pIn m.Terrain[k] 0 5 <;> rfl
 ·simp only [nlt_self, cond_false]
noncomputable def pBoard (b : TBoard) : Bool := pRules b.Rules && (pMap b.Map && b.Map.Terrain.all fun x => pIn x 0 ((b.Rules.Terrains.length : Int) - 1))
theorem board_eq (b : TBoard) (q : smTBoard b) : X.s_bGood b = some (pBoard b) ∧ X.i_IsBoard b = some (pBoard b) := by
 have hm := mL
 have hl := q.2.1.2.2.1.1
 have hl' := hl
 unfold SM at hl'
 have hn := q.1.1.1
 unfold SM at hn
 unfold X.s_bGood X.i_IsBoard pBoard
 rw [(rules_eq _ q.1).1, (rules_eq _ q.1).2, (map_eq _ q.2.1).1, (map_eq _ q.2.1).2]
 simp only [obs]
 cases pRules b.Rules
 ·exact ⟨rfl, rfl⟩
 cases hmap : pMap b.Map
 ·exact ⟨rfl, rfl⟩
 simp only [Bool.not_true, cond_false, cond_true, Bool.true_and]
 rw [W_of (n := (b.Rules.Terrains.length : Int) - 1) (by omega), s_all _ _ _ hl]
 refine ⟨rfl, ?_⟩
 have hc : X.g_ContainsFunc_int b.Map.Terrain (fun q0 => X.i_IsBoard_1 q0 b) = some (b.Map.Terrain.any fun x => decide (x ≥ (b.Rules.Terrains.length : Int))) :=
  (hasF_eq (z := zI) (f := fun q0 => X.i_IsBoard_1 q0 b) (p := fun x => decide (x ≥ (b.Rules.Terrains.length : Int))) (by omega) (fun x _ => rfl) : _)
 rw [hc]
 simp only [obs, Option.some.injEq]
 unfold pMap at hmap
 simp only [Bool.and_eq_true] at hmap
 have h0 := hmap.2.2.2.1
 rw [Bool.eq_iff_iff]
 simp only [Bool.not_eq_true', List.any_eq_false, List.all_eq_true, decide_eq_true_eq]
 constructor
 ·intro h x hx
  have h1 := h x hx
  have h2 := List.all_eq_true.1 h0 x hx
  rw [pIn_iff] at h2 ⊢
  omega
 ·intro h x hx
  have h1 := h x hx
  rw [pIn_iff] at h1
  omega
theorem sides_of {b : TBoard} (h : pBoard b = true) : okSides b.Map ∧ ((b.Map.Terrain.length : Int) = b.Map.Width * b.Map.Height) := by
 unfold pBoard at h
 simp only [Bool.and_eq_true] at h
 have h1 := h.2.1
 unfold pMap at h1
 simp only [Bool.and_eq_true, pIn_iff, beq_iff_eq] at h1
 exact ⟨⟨h1.1.1, h1.1.2, h1.2.1.1, h1.2.1.2⟩, h1.2.2.1⟩
theorem size_of {b : TBoard} (h : pBoard b = true) : X.s_mSize b.Map = some (b.Map.Terrain.length : Int) ∧ 1 ≤ (b.Map.Terrain.length : Int) ∧ (b.Map.Terrain.length : Int) ≤ 100 := by
 obtain ⟨hs, hl⟩ := sides_of h
 obtain ⟨h1, h2, h3⟩ := size_eq _ hs
 unfold X.s_mSize
 rw [h1, hl]
 exact ⟨rfl, h2, h3⟩
theorem i_idx (i n : Int) (hn : 0 ≤ n ∧ n ≤ (SM : Int)) : X.i_isIndex i n = some (pIn i 0 (n - 1)) := by
 unfold X.i_isIndex
 unfold SM at hn
 rw [W_of (by omega), i_in]; rfl
theorem pNext_lt {m : TMap} (h : okSides m) (i d : Int) : pNext m i d = -1 ∨ (0 ≤ pNext m i d ∧ pNext m i d < m.Width * m.Height) := pIdx_lt h
theorem rising_split (l : List Int) (lo hi : Int) : (allFrom l.length 0 fun k => pIn (l.getD k 0) lo hi && (decide (k = 0) || decide (l.getD (k - 1) 0 < l.getD k 0))) = (pIncr l && l.all fun x => pIn x lo hi) := by
 cases h : l.all fun x => pIn x lo hi
 ·rw [Bool.and_false]
  cases g : allFrom l.length 0 fun k => pIn (l.getD k 0) lo hi && (decide (k = 0) || decide (l.getD (k - 1) 0 < l.getD k 0))
  ·rfl
  ·rw [allFrom_iff] at g
   have : (l.all fun x => pIn x lo hi) = true := List.all_eq_true.2 fun x hx => by
    obtain ⟨j, hj, rfl⟩ := List.getElem_of_mem hx
    have := g j (by omega) (by omega)
    rw [Bool.and_eq_true] at this
    simpa [List.getD, hj] using this.1
   rw [h] at this; cases this
 ·rw [Bool.and_true, rising_incr]
  intro k hk
  exact List.all_eq_true.1 h _ (getD_mem hk)
def terr (b : TBoard) (i : Nat) : TTerrain := b.Rules.Terrains.getD (b.Map.Terrain.getD i zI).toNat zTTerrain
def pCost (b : TBoard) (kind i : Nat) : Int := (terr b i).Cost.getD kind zI
theorem kinds_of {b : TBoard} (h : pBoard b = true) : 1 ≤ b.Rules.Kinds.length ∧ b.Rules.Kinds.length ≤ 4 ∧ 1 ≤ b.Rules.Terrains.length ∧ b.Rules.Terrains.length ≤ 6 ∧ (1 ≤ b.Rules.Stack ∧ b.Rules.Stack ≤ 4) ∧ (1 ≤ b.Rules.Turns ∧ b.Rules.Turns ≤ 30) := by
 unfold pBoard pRules at h
 simp only [Bool.and_eq_true, pIn_iff] at h
 omega
theorem kind_of {b : TBoard} (h : pBoard b = true) {k : Nat} (hk : k < b.Rules.Kinds.length) : 1 ≤ (b.Rules.Kinds.getD k zTKind).Strength ∧ (b.Rules.Kinds.getD k zTKind).Strength ≤ 9 ∧ 0 ≤ (b.Rules.Kinds.getD k zTKind).Moves ∧ (b.Rules.Kinds.getD k zTKind).Moves ≤ 9 ∧
  1 ≤ (b.Rules.Kinds.getD k zTKind).Steps ∧ (b.Rules.Kinds.getD k zTKind).Steps ≤ 4 ∧ 0 ≤ (b.Rules.Kinds.getD k zTKind).View ∧ (b.Rules.Kinds.getD k zTKind).View ≤ 4 := by
 unfold pBoard pRules at h
 simp only [Bool.and_eq_true, allFrom_iff] at h
 have := h.1.2.2.2.1 k (by omega) (by omega)
 unfold qK at this
 simp only [Bool.and_eq_true, pIn_iff] at this
 omega
theorem terr_of {b : TBoard} (h : pBoard b = true) {i : Nat} (hi : i < b.Map.Terrain.length) : 0 ≤ b.Map.Terrain.getD i zI ∧ b.Map.Terrain.getD i zI < (b.Rules.Terrains.length : Int) := by
 unfold pBoard at h
 simp only [Bool.and_eq_true, List.all_eq_true, pIn_iff] at h
 have := h.2.2 _ (getD_mem (z := zI) hi)
 omega
theorem costs_of {b : TBoard} (h : pBoard b = true) {t : Nat} (ht : t < b.Rules.Terrains.length) : (b.Rules.Terrains.getD t zTTerrain).Cost.length = b.Rules.Kinds.length ∧ (∀ x ∈ (b.Rules.Terrains.getD t zTTerrain).Cost, 0 ≤ x ∧ x ≤ 9) ∧
  0 ≤ (b.Rules.Terrains.getD t zTTerrain).Height ∧ (b.Rules.Terrains.getD t zTTerrain).Height ≤ 3 ∧ -3 ≤ (b.Rules.Terrains.getD t zTTerrain).Shift ∧ (b.Rules.Terrains.getD t zTTerrain).Shift ≤ 3 := by
 unfold pBoard pRules at h
 simp only [Bool.and_eq_true, allFrom_iff] at h
 have := h.1.2.2.1 t (by omega) (by omega)
 unfold qT at this
 simp only [Bool.and_eq_true, pIn_iff, List.all_eq_true, beq_iff_eq] at this
 refine ⟨by omega, fun x hx => this.2.2.2.1 x hx, by omega, by omega, by omega, by omega⟩
theorem terr_eq {b : TBoard} (h : pBoard b = true) {i : Nat} (hi : i < b.Map.Terrain.length) : X.s_bTerrain b (i : Int) = some (terr b i) ∧ X.i_terrainAt b (i : Int) = some (terr b i) := by
 obtain ⟨h1, h2⟩ := terr_of h hi
 obtain ⟨t, ht⟩ := Int.eq_ofNat_of_zero_le h1
 have ht2 : t < b.Rules.Terrains.length := by omega
 unfold X.s_bTerrain X.i_terrainAt terr
 simp only [at_getD hi, obs, ht, at_getD ht2, Int.toNat_natCast, and_self]
theorem cost_eq {b : TBoard} (h : pBoard b = true) {k i : Nat} (hk : k < b.Rules.Kinds.length) (hi : i < b.Map.Terrain.length) :
  X.s_bCost b (k : Int) (i : Int) = some (pCost b k i) ∧ X.i_enterCost b (k : Int) (i : Int) = some (pCost b k i) ∧ 0 ≤ pCost b k i ∧ pCost b k i ≤ 9 := by
 obtain ⟨h1, h2⟩ := terr_of h hi
 obtain ⟨t, ht⟩ := Int.eq_ofNat_of_zero_le h1
 have ht2 : t < b.Rules.Terrains.length := by omega
 obtain ⟨c1, c2, _⟩ := costs_of h ht2
 have hk2 : k < (terr b i).Cost.length := by
  unfold terr
  rw [ht, Int.toNat_natCast, c1]; exact hk
 have hc : 0 ≤ pCost b k i ∧ pCost b k i ≤ 9 := by
  unfold pCost
  refine c2 _ ?_
  have := getD_mem (z := zI) hk2
  unfold terr at this ⊢
  rw [ht, Int.toNat_natCast] at this ⊢
  exact this
 unfold X.s_bCost X.i_enterCost
 rw [(terr_eq h hi).1, (terr_eq h hi).2]
 simp only [obs, at_getD hk2]
 exact ⟨rfl, rfl, hc⟩
def pUnit (b : TBoard) (u : TUnit) : Bool :=
 pIn u.Side 0 1 && (pIn u.Kind 0 ((b.Rules.Kinds.length : Int) - 1) && (pIn u.Steps 0 (b.Rules.Kinds.getD u.Kind.toNat zTKind).Steps &&
  ((u.At == -1) || (decide (u.Steps > 0) && (pIn u.At 0 ((b.Map.Terrain.length : Int) - 1) && decide (pCost b u.Kind.toNat u.At.toNat > 0))))))
theorem pUnit_iff {b : TBoard} {u : TUnit} (h : pUnit b u = true) : (u.Side = 0 ∨ u.Side = 1) ∧ 0 ≤ u.Kind ∧ u.Kind < (b.Rules.Kinds.length : Int) ∧ 0 ≤ u.Steps ∧ u.Steps ≤ (b.Rules.Kinds.getD u.Kind.toNat zTKind).Steps ∧
  (u.At = -1 ∨ (0 < u.Steps ∧ 0 ≤ u.At ∧ u.At < (b.Map.Terrain.length : Int) ∧ 0 < pCost b u.Kind.toNat u.At.toNat)) := by
 unfold pUnit at h
 simp only [Bool.and_eq_true, Bool.or_eq_true, pIn_iff, beq_iff_eq, decide_eq_true_eq] at h
 omega
theorem unit_eq {b : TBoard} (h : pBoard b = true) (u : TUnit) : X.s_sUnit b u = some (pUnit b u) ∧ X.i_goodUnit b u = some (pUnit b u) := by
 obtain ⟨g1, g2, _, _⟩ := kinds_of h
 obtain ⟨s1, s2, s3⟩ := size_of h
 unfold X.s_sUnit X.i_goodUnit pUnit X.i_isSide
 simp only [s_in, i_in, obs, i_idx _ _ (show 0 ≤ (b.Rules.Kinds.length : Int) ∧ (b.Rules.Kinds.length : Int) ≤ (SM : Int) by unfold SM; omega), W_of (n := (b.Rules.Kinds.length : Int) - 1) (by omega)]
 cases pIn u.Side 0 1
 ·exact ⟨rfl, rfl⟩
 cases hk : pIn u.Kind 0 ((b.Rules.Kinds.length : Int) - 1)
 ·exact ⟨rfl, rfl⟩
 rw [pIn_iff] at hk
 obtain ⟨k, ek⟩ := Int.eq_ofNat_of_zero_le hk.1
 have hk2 : k < b.Rules.Kinds.length := by omega
 simp only [Bool.not_true, cond_false, Bool.true_and, ek, at_getD hk2, obs, Int.toNat_natCast]
 cases pIn u.Steps 0 (b.Rules.Kinds.getD k zTKind).Steps
 ·exact ⟨rfl, rfl⟩
 cases ha : u.At == -1
 case true => exact ⟨rfl, rfl⟩
 simp only [Bool.not_true, cond_false, Bool.true_and, Bool.false_or]
 cases hst : decide (u.Steps > 0)
 ·exact ⟨rfl, rfl⟩
 simp only [cond_true, s1, X.i_sizeOf, obs, i_idx _ _ (show 0 ≤ (b.Map.Terrain.length : Int) ∧ (b.Map.Terrain.length : Int) ≤ (SM : Int) by unfold SM; omega), W_of (n := (b.Map.Terrain.length : Int) - 1) (by omega), Bool.true_and]
 cases hp : pIn u.At 0 ((b.Map.Terrain.length : Int) - 1)
 ·exact ⟨rfl, rfl⟩
 rw [pIn_iff] at hp
 obtain ⟨i, ei⟩ := Int.eq_ofNat_of_zero_le hp.1
 have hi : i < b.Map.Terrain.length := by omega
 obtain ⟨c1, c2, c3, _⟩ := cost_eq h hk2 hi
 simp only [cond_true, ei, c1, c2, obs, Bool.true_and, Int.toNat_natCast]
 refine ⟨trivial, ?_⟩
 congr 1
 rw [Bool.eq_iff_iff]
 simp only [bne_iff_ne, ne_eq, decide_eq_true_eq]
 omega
theorem limN {n : Nat} (h : n ≤ SM) : n + 1 ≤ LIM := by unfold SM at h; unfold LIM; omega
def pHere (us : List TUnit) (a s : Int) (k : Nat) : Bool := ((us.getD k zTUnit).At == a) && ((us.getD k zTUnit).Side == s)
theorem sAt_eq (s : TState) (a d : Int) (h : s.Units.length ≤ SM) : X.s_sAt s a d = some (idxs (pHere s.Units a d) s.Units.length) := by
 have hm := mL
 have h' := h
 unfold SM at h'
 unfold X.s_sAt
 rw [run_idxs s.Units.length (pHere s.Units a d) (fun k l => ((k : Int), l)) (fun l => l) (by rfl) ?_ ?_]
 ·intro j l hj hl
  have e : (l ++ ([(j : Int)] : List Int)).length ≤ LIM := by simp; have := limN (n := l.length) (by unfold SM; omega); omega
  simp only [lt_cast hj, cond_true, at_getD hj, obs, W_up hj (show s.Units.length ≤ maxLen by omega), if_pos e, pHere]
  cases ((s.Units.getD j zTUnit).At == a) <;> cases ((s.Units.getD j zTUnit).Side == d) <;> rfl
 ·intro l; simp only [nlt_self, cond_false]
def cnt (us : List TUnit) (a s : Int) (k : Nat) : Nat := (idxs (pHere us a s) k).length
theorem cnt_succ (us : List TUnit) (a s : Int) (k : Nat) : cnt us a s (k + 1) = bif pHere us a s k then cnt us a s k + 1 else cnt us a s k := by
 unfold cnt
 rw [idxs_succ]
 cases pHere us a s k <;> simp
def grid (n : Nat) (us : List TUnit) (k : Nat) : List A2_I := (List.range n).map fun i : Nat => ⟨(cnt us (i : Int) 0 k : Int), (cnt us (i : Int) 1 k : Int)⟩
theorem grid_zero (n : Nat) (us : List TUnit) : List.replicate n zA2_I = grid n us 0 := by
 unfold grid cnt
 simp only [idxs_zero, List.length_nil]
 apply List.ext_getElem
 ·simp
 ·intro i h1 h2; simp [zA2_I, zI]
theorem grid_get {n : Nat} {us : List TUnit} {k i : Nat} (h : i < n) : (grid n us k).getD i zA2_I = ⟨(cnt us (i : Int) 0 k : Int), (cnt us (i : Int) 1 k : Int)⟩ := by
 unfold grid
 simp [List.getD, h]
theorem grid_len {n : Nat} {us : List TUnit} {k : Nat} : (grid n us k).length = n := by simp [grid]
theorem grid_skip {n : Nat} {us : List TUnit} {k : Nat} (h : (us.getD k zTUnit).At < 0) : grid n us (k + 1) = grid n us k := by
 unfold grid
 apply List.map_congr_left
 intro i _
 rw [cnt_succ, cnt_succ]
 have : ∀ s, pHere us (i : Int) s k = false := fun s => by
  unfold pHere
  have : ((us.getD k zTUnit).At == (i : Int)) = false := beq_eq_false_iff_ne.2 (by omega)
  rw [this]; rfl
 rw [this, this]; rfl
theorem grid_set {n : Nat} {us : List TUnit} {k a : Nat} (h : (us.getD k zTUnit).At = (a : Int)) (ha : a < n) :
  (grid n us k).set a ⟨(cnt us (a : Int) 0 (k + 1) : Int), (cnt us (a : Int) 1 (k + 1) : Int)⟩ = grid n us (k + 1) := by
 apply List.ext_getElem
 ·simp [grid]
 ·intro i h1 h2
  rw [List.getElem_set]
  by_cases e : a = i
  ·subst e; simp [grid]
  ·simp only [e, if_false]
   simp only [grid, List.getElem_map, List.getElem_range]
   have : ∀ s, pHere us (i : Int) s k = false := fun s => by
    unfold pHere
    have : ((us.getD k zTUnit).At == (i : Int)) = false := beq_eq_false_iff_ne.2 (by rw [h]; omega)
    rw [this]; rfl
   rw [cnt_succ, cnt_succ, this, this]; rfl
def pPlace (b : TBoard) (us : List TUnit) (k m : Nat) : Bool :=
 decide ((us.getD k zTUnit).At < 0) || (decide (cnt us (us.getD k zTUnit).At (1 - (us.getD k zTUnit).Side) m = 0) && decide ((cnt us (us.getD k zTUnit).At (us.getD k zTUnit).Side m : Int) ≤ b.Rules.Stack))
def pState (b : TBoard) (s : TState) : Bool :=
 pIn s.Turn 0 b.Rules.Turns && (pIn s.Weather 0 2 && (!(decide ((s.Units.length : Int) > 12)) && (allFrom s.Units.length 0 (fun k => pUnit b (s.Units.getD k zTUnit)) && allFrom s.Units.length 0 (fun k => pPlace b s.Units k s.Units.length))))
theorem place_eq (b : TBoard) (us : List TUnit) (hu : ∀ k, k < us.length → (us.getD k zTUnit).Side = 0 ∨ (us.getD k zTUnit).Side = 1) :
  allFrom us.length 0 (fun k => pPlace b us k (k + 1)) = allFrom us.length 0 (fun k => pPlace b us k us.length) := by
 rw [Bool.eq_iff_iff, allFrom_iff, allFrom_iff]
 unfold pPlace
 simp only [Bool.or_eq_true, Bool.and_eq_true, decide_eq_true_eq, Nat.zero_add]
 constructor
 ·intro h j _ hj
  by_cases ha : (us.getD j zTUnit).At < 0
  ·exact .inl ha
  right
  constructor
  ·unfold cnt
   rw [idxs_nil]
   intro i hi
   cases hp : pHere us (us.getD j zTUnit).At (1 - (us.getD j zTUnit).Side) i with
   | false => rfl
   | true =>
    exfalso
    unfold pHere at hp
    simp only [Bool.and_eq_true, beq_iff_eq] at hp
    by_cases hij : i < j
    ·rcases h j (by omega) hj with g | ⟨g, _⟩
     ·exact ha g
     ·unfold cnt at g
      rw [idxs_nil] at g
      have := g i (by omega)
      unfold pHere at this
      rw [hp.1, hp.2] at this
      simp at this
    ·have hij' : i ≠ j := by
      intro e; subst e
      have := hu i hi
      omega
     rcases h i (by omega) hi with g | ⟨g, _⟩
     ·omega
     ·unfold cnt at g
      rw [idxs_nil] at g
      have := g j (by omega)
      unfold pHere at this
      have e2 : 1 - (us.getD i zTUnit).Side = (us.getD j zTUnit).Side := by have := hu j hj; omega
      rw [hp.1, e2] at this
      simp at this
  ·
   have key : ∀ m, m ≤ us.length → j < m → (cnt us (us.getD j zTUnit).At (us.getD j zTUnit).Side m : Int) ≤ b.Rules.Stack := by
    intro m
    induction m with
    | zero => intro _ h2; omega
    | succ m ih =>
     intro h1 h2
     rw [cnt_succ]
     cases hp : pHere us (us.getD j zTUnit).At (us.getD j zTUnit).Side m with
     | true =>
      have hp' := hp
      unfold pHere at hp
      simp only [Bool.and_eq_true, beq_iff_eq] at hp
      rcases h m (by omega) (by omega) with g | ⟨_, g⟩
      ·omega
      ·rw [hp.1, hp.2, cnt_succ, hp'] at g
       exact g
     | false =>
      simp only [cond_false]
      by_cases e : j = m
      ·subst e
       unfold pHere at hp
       simp at hp
      ·exact ih (by omega) (by omega)
   exact key us.length (Nat.le_refl _) hj
 ·intro h j h0 hj
  rcases h j h0 hj with g | ⟨g1, g2⟩
  ·exact .inl g
  ·right
   constructor
   ·have := idxs_mono (p := pHere us (us.getD j zTUnit).At (1 - (us.getD j zTUnit).Side)) (show j + 1 ≤ us.length by omega)
    unfold cnt at g1 ⊢
    omega
   ·have := idxs_mono (p := pHere us (us.getD j zTUnit).At (us.getD j zTUnit).Side) (show j + 1 ≤ us.length by omega)
    unfold cnt at g2 ⊢
    omega
theorem grid_round {n : Nat} {us : List TUnit} {k a : Nat} (hk : us.length ≤ SM) (hk2 : k < us.length) (ha : (us.getD k zTUnit).At = (a : Int)) (han : a < n) :
  ((us.getD k zTUnit).Side = 0 → (grid n us k).set a (A2_I.mk (W (((grid n us k).getD a zA2_I).a0 + 1)) (((grid n us k).getD a zA2_I).a1)) = grid n us (k + 1)) ∧
  ((us.getD k zTUnit).Side = 1 → (grid n us k).set a (A2_I.mk (((grid n us k).getD a zA2_I).a0) (W (((grid n us k).getD a zA2_I).a1 + 1))) = grid n us (k + 1)) := by
 unfold SM at hk
 have l0 : cnt us (a : Int) 0 k ≤ k := idxs_len _ k
 have l1 : cnt us (a : Int) 1 k ≤ k := idxs_len _ k
 constructor
 ·intro hs
  rw [grid_get han, ← grid_set ha han]
  have p0 : pHere us (a : Int) 0 k = true := by unfold pHere; rw [ha, hs]; simp
  have p1 : pHere us (a : Int) 1 k = false := by unfold pHere; rw [hs]; simp
  rw [cnt_succ, cnt_succ, p0, p1]
  simp only [cond_true, cond_false]
  rw [W_of (by omega)]
  rfl
 ·intro hs
  rw [grid_get han, ← grid_set ha han]
  have p0 : pHere us (a : Int) 0 k = false := by unfold pHere; rw [hs]; simp
  have p1 : pHere us (a : Int) 1 k = true := by unfold pHere; rw [ha, hs]; simp
  rw [cnt_succ, cnt_succ, p0, p1]
  simp only [cond_true, cond_false]
  rw [W_of (n := (cnt us (a : Int) 1 k : Int) + 1) (by omega)]
  rfl
theorem state_eq {b : TBoard} (h : pBoard b = true) (q : smTBoard b) (s : TState) (qs : smTState s) : X.s_sGood b s = some (pState b s) ∧ X.i_goodState b s = some (pState b s) := by
 have hm := mL
 obtain ⟨g1, g2, _, _, g3, _⟩ := kinds_of h
 obtain ⟨s1, s2, s3⟩ := size_of h
 have hU := qs.2.2.1.1
 have hU' := hU
 unfold SM at hU'
 constructor
 ·unfold X.s_sGood pState
  rw [(board_eq b q).1, h]
  simp only [obs, Bool.not_true, cond_false, s_in]
  cases pIn s.Turn 0 b.Rules.Turns
  ·rfl
  cases pIn s.Weather 0 2
  ·rfl
  cases decide ((s.Units.length : Int) > 12)
  case true => rfl
  simp only [Bool.not_true, Bool.not_false, cond_false, Bool.true_and]
  rw [run_allN s.Units.length (fun k => pUnit b (s.Units.getD k zTUnit)) (.inr false) (.inl ()) ?_ ?_]
  ·cases hall : allFrom s.Units.length 0 (fun k => pUnit b (s.Units.getD k zTUnit))
   ·rfl
   simp only [cond_true, Sum.elim_inl, Bool.true_and]
   rw [run_allN s.Units.length (fun k => pPlace b s.Units k s.Units.length) (.inr false) (.inl ()) ?_ ?_]
   ·cases allFrom s.Units.length 0 (fun k => pPlace b s.Units k s.Units.length) <;> rfl
   ·intro k hk
    have hu := pUnit_iff ((allFrom_iff _ _).1 hall k (by omega) (by omega))
    have e1 : W (1 - (s.Units.getD k zTUnit).Side) = 1 - (s.Units.getD k zTUnit).Side := W_of (by omega)
    simp only [lt_cast hk, cond_true, at_getD hk, obs, W_up hk (show s.Units.length ≤ maxLen by omega), e1, sAt_eq s _ _ hU]
    unfold pPlace
    by_cases hA : (s.Units.getD k zTUnit).At < 0
    ·have hA' : ¬ (s.Units.getD k zTUnit).At ≥ 0 := by omega
     simp only [hA, hA', decide_true, decide_false, cond_false, Bool.true_or, cond_true]
    ·have hA' : (s.Units.getD k zTUnit).At ≥ 0 := by omega
     simp only [hA, hA', decide_true, decide_false, cond_true, Bool.false_or]
     change (bif decide ((cnt s.Units (s.Units.getD k zTUnit).At (1 - (s.Units.getD k zTUnit).Side) s.Units.length : Int) > 0) then _ else bif decide ((cnt s.Units (s.Units.getD k zTUnit).At (s.Units.getD k zTUnit).Side s.Units.length : Int) > b.Rules.Stack) then _ else _) = _
     by_cases c1 : cnt s.Units (s.Units.getD k zTUnit).At (1 - (s.Units.getD k zTUnit).Side) s.Units.length = 0
     ·have c1' : ¬ (cnt s.Units (s.Units.getD k zTUnit).At (1 - (s.Units.getD k zTUnit).Side) s.Units.length : Int) > 0 := by omega
      simp only [c1', decide_false, cond_false]
      simp only [c1, decide_true, Bool.true_and]
      by_cases c2 : (cnt s.Units (s.Units.getD k zTUnit).At (s.Units.getD k zTUnit).Side s.Units.length : Int) ≤ b.Rules.Stack
      ·have c2' : ¬ (cnt s.Units (s.Units.getD k zTUnit).At (s.Units.getD k zTUnit).Side s.Units.length : Int) > b.Rules.Stack := by omega
       simp only [c2, c2', decide_true, decide_false, cond_true, cond_false]
      ·have c2' : (cnt s.Units (s.Units.getD k zTUnit).At (s.Units.getD k zTUnit).Side s.Units.length : Int) > b.Rules.Stack := by omega
       simp only [c2, c2', decide_true, decide_false, cond_true, cond_false]
     ·have c1' : (cnt s.Units (s.Units.getD k zTUnit).At (1 - (s.Units.getD k zTUnit).Side) s.Units.length : Int) > 0 := by omega
      simp only [c1, c1', decide_true, decide_false, cond_true, cond_false, Bool.false_and]
   ·simp only [nlt_self, cond_false]
  ·intro k hk
   simp only [lt_cast hk, cond_true, at_getD hk, obs, (unit_eq h _).1, W_up hk (show s.Units.length ≤ maxLen by omega)]
   cases pUnit b (s.Units.getD k zTUnit) <;> rfl
  ·simp only [nlt_self, cond_false]
 ·have hq : allFrom s.Units.length 0 (fun k => pUnit b (s.Units.getD k zTUnit) && pPlace b s.Units k (k + 1)) =
    (allFrom s.Units.length 0 (fun k => pUnit b (s.Units.getD k zTUnit)) && allFrom s.Units.length 0 (fun k => pPlace b s.Units k s.Units.length)) := by
   rw [allFrom_and]
   cases hall : allFrom s.Units.length 0 (fun k => pUnit b (s.Units.getD k zTUnit))
   ·rfl
   ·rw [place_eq]
    intro k hk
    exact (pUnit_iff ((allFrom_iff _ _).1 hall k (by omega) (by omega))).1
  unfold X.i_goodState pState
  rw [← hq]
  simp only [i_in, obs, X.i_sizeOf]
  cases pIn s.Turn 0 b.Rules.Turns
  ·rfl
  cases pIn s.Weather 0 2
  ·rfl
  cases decide ((s.Units.length : Int) > 12)
  case true => rfl
  simp only [Bool.not_true, Bool.not_false, cond_false, Bool.true_and]
  have hlim : 0 ≤ (b.Map.Terrain.length : Int) ∧ (b.Map.Terrain.length : Int).toNat ≤ LIM := by unfold LIM; omega
  rw [if_pos hlim, Int.toNat_natCast]
  rw [run_allSt s.Units.length (fun k => pUnit b (s.Units.getD k zTUnit) && pPlace b s.Units k (k + 1)) (fun k => ((k : Int), grid b.Map.Terrain.length s.Units k)) (.inr false) (.inl ()) (by rw [grid_zero]; rfl) ?_ ?_]
  ·cases allFrom s.Units.length 0 (fun k => pUnit b (s.Units.getD k zTUnit) && pPlace b s.Units k (k + 1)) <;> rfl
  ·intro k hk
   simp only [lt_cast hk, cond_true, at_getD hk, obs, (unit_eq h _).2, W_up hk (show s.Units.length ≤ maxLen by omega)]
   cases hu : pUnit b (s.Units.getD k zTUnit)
   ·rfl
   simp only [Bool.not_true, cond_false, Bool.true_and]
   obtain ⟨hside, _, _, _, _, hat⟩ := pUnit_iff hu
   rcases hat with hat | ⟨_, hat0, hat1, _⟩
   ·have hA : (s.Units.getD k zTUnit).At < 0 := by omega
    simp only [hA, decide_true, cond_true, pPlace, Bool.true_or, grid_skip hA]
   ·have hA : ¬ (s.Units.getD k zTUnit).At < 0 := by omega
    obtain ⟨a, ha⟩ := Int.eq_ofNat_of_zero_le hat0
    have han : a < b.Map.Terrain.length := by omega
    obtain ⟨r0, r1⟩ := grid_round hU hk ha han
    simp only [pPlace, hA, decide_false, cond_false, Bool.false_or]
    rw [if_pos ⟨hat0, by rw [grid_len]; exact hat1⟩]
    have w1 : W (1 - 0) = 1 := rfl
    have w0 : W (1 - 1) = 0 := rfl
    have n10 : ¬ ((1 : Int) = ((0 : Nat) : Int)) := by decide
    have e00 : (0 : Int) = ((0 : Nat) : Int) := rfl
    have e11 : (1 : Int) = ((1 : Nat) : Int) := rfl
    have n01 : ¬ ((0 : Int) = ((1 : Nat) : Int)) := by decide
    rcases hside with hs | hs
    ·have r0 := r0 hs
     rw [ha, Int.toNat_natCast, r0, hs, w1, if_pos e00, if_neg n10, if_pos e11, grid_get han]
     by_cases c1 : cnt s.Units (a : Int) 1 (k + 1) = 0
     ·have c1' : ¬ (cnt s.Units (a : Int) 1 (k + 1) : Int) > 0 := by omega
      have e10 : (1 : Int) - 0 = 1 := rfl
      simp only [decide_eq_false c1', e10, decide_eq_true c1, cond_false, Bool.true_and]
      by_cases c2 : (cnt s.Units (a : Int) 0 (k + 1) : Int) ≤ b.Rules.Stack
      ·have c2' : ¬ (cnt s.Units (a : Int) 0 (k + 1) : Int) > b.Rules.Stack := by omega
       simp only [c2, c2', decide_true, decide_false, cond_true, cond_false]
      ·have c2' : (cnt s.Units (a : Int) 0 (k + 1) : Int) > b.Rules.Stack := by omega
       simp only [c2, c2', decide_true, decide_false, cond_true, cond_false]
     ·have c1' : (cnt s.Units (a : Int) 1 (k + 1) : Int) > 0 := by omega
      have e10 : (1 : Int) - 0 = 1 := rfl
      simp only [decide_eq_true c1', cond_true, e10, decide_eq_false c1, Bool.false_and, cond_false]
    ·have r1 := r1 hs
     rw [ha, Int.toNat_natCast, r1, hs, w0, if_neg n10, if_pos e11, if_pos e00, grid_get han]
     by_cases c1 : cnt s.Units (a : Int) 0 (k + 1) = 0
     ·have c1' : ¬ (cnt s.Units (a : Int) 0 (k + 1) : Int) > 0 := by omega
      have e10 : (1 : Int) - 1 = 0 := rfl
      simp only [decide_eq_false c1', e10, decide_eq_true c1, cond_false, Bool.true_and]
      by_cases c2 : (cnt s.Units (a : Int) 1 (k + 1) : Int) ≤ b.Rules.Stack
      ·have c2' : ¬ (cnt s.Units (a : Int) 1 (k + 1) : Int) > b.Rules.Stack := by omega
       simp only [c2, c2', decide_true, decide_false, cond_true, cond_false]
      ·have c2' : (cnt s.Units (a : Int) 1 (k + 1) : Int) > b.Rules.Stack := by omega
       simp only [c2, c2', decide_true, decide_false, cond_true, cond_false]
     ·have c1' : (cnt s.Units (a : Int) 0 (k + 1) : Int) > 0 := by omega
      have e10 : (1 : Int) - 1 = 0 := rfl
      simp only [decide_eq_true c1', cond_true, e10, decide_eq_false c1, Bool.false_and, cond_false]
  ·simp only [nlt_self, cond_false]
theorem s_fits_eq {b : TBoard} (q : smTBoard b) (s : TState) (qs : smTState s) : X.s_sGood b s = some (pBoard b && pState b s) := by
 cases h : pBoard b
 ·unfold X.s_sGood
  rw [(board_eq b q).1, h]
  rfl
 ·rw [(state_eq h q s qs).1]
  rfl
theorem i_fits_eq {b : TBoard} (q : smTBoard b) (s : TState) (qs : smTState s) : X.i_fits b s = some (pBoard b && pState b s) := by
 unfold X.i_fits
 cases h : pBoard b
 ·rw [(board_eq b q).2, h]
  rfl
 ·rw [(state_eq h q s qs).2, (board_eq b q).2, h]
  rfl
theorem fits_eq {b : TBoard} (q : smTBoard b) (s : TState) (qs : smTState s) : X.s_sGood b s = some (pBoard b && pState b s) ∧ X.i_fits b s = some (pBoard b && pState b s) := ⟨s_fits_eq q s qs, i_fits_eq q s qs⟩
theorem unit_of {b : TBoard} {s : TState} (h : pState b s = true) {k : Nat} (hk : k < s.Units.length) : pUnit b (s.Units.getD k zTUnit) = true := by
 unfold pState at h
 simp only [Bool.and_eq_true, allFrom_iff] at h
 exact h.2.2.2.1 k (by omega) (by omega)
theorem units_of {b : TBoard} {s : TState} (h : pState b s = true) : s.Units.length ≤ 12 := by
 unfold pState at h
 simp only [Bool.and_eq_true, Bool.not_eq_true', decide_eq_false_iff_not] at h
 have := h.2.2.1
 omega
theorem has_eq (l : List Int) (x : Int) (h : l.length ≤ maxLen) : X.s_l1Has l x = some (l.any fun v => v == x) := by
 unfold X.s_l1Has
 rw [run_all l (fun v => !(v == x)) (.inr true) (.inl ()) rfl ?_ ?_]
 ·rw [List.any_eq_not_all_not]
  cases l.all fun v => !(v == x) <;> rfl
 ·intro k hk
  simp only [lt_cast hk, cond_true, at_nat hk, obs, W_up hk h]
  cases l[k] == x <;> rfl
 ·simp only [nlt_self, cond_false]
theorem any_comm (l : List Int) (e : Int) : (l.any fun v => e == v) = l.any fun v => v == e := by
 congr 1
 funext x
 rw [Bool.eq_iff_iff]; simp only [beq_iff_eq]; exact eq_comm
theorem Wp {z : Int} (h : 0 ≤ z) (k : z ≤ 4611686018427387904) : W (z + 1) = z + 1 := W_of (by omega)
theorem mark_loop {β : Type} {f : Int → Option β} (n b : Nat) {body : Int × Int → Option ((Int × Int) ⊕ Int)} (hn : n ≤ SM) (hb : b ≤ 2097152)
  (hstep : ∀ (i : Nat) (q : Int), i < n → 0 ≤ q → q ≤ 2305843009213693000 → ∃ q' : Int, body (q, (i : Int)) = some (.inl (q', ((i + 1 : Nat) : Int))) ∧ q ≤ q' ∧ q' ≤ q + b)
  (hend : ∀ q, body (q, (n : Int)) = some (.inr q)) (k : Int) (h0 : 0 ≤ k) (hk : k ≤ 1152921504606846976) : ∃ k' : Int, (loop body (k, 0)).bind f = f k' ∧ k ≤ k' ∧ k' ≤ k + 2199023255552 := by
 unfold SM at hn
 have hbb : n * b ≤ 1048576 * 2097152 := Nat.mul_le_mul hn hb
 have key := loop_ind (body := body) (fun x : Int × Int => ∃ i : Nat, x.2 = (i : Int) ∧ i ≤ n ∧ k ≤ x.1 ∧ x.1 ≤ k + ((i * b : Nat) : Int)) (fun x => n - x.2.toNat) (fun r => k ≤ r ∧ r ≤ k + ((n * b : Nat) : Int)) (s := (k, 0)) ?_ ⟨0, rfl, by omega, Int.le_refl _, by simp⟩
 ·obtain ⟨r, h1, h2, h3⟩ := key
  exact ⟨r, by rw [h1]; rfl, h2, by omega⟩
 ·rintro ⟨q, x⟩ ⟨i, rfl, hi, h1, h2⟩
  have hib : i * b ≤ n * b := Nat.mul_le_mul_right b hi
  simp only at h1 h2
  by_cases h : i < n
  ·obtain ⟨q', e, g1, g2⟩ := hstep i q h (by omega) (by omega)
   have e2 : (i + 1) * b = i * b + b := Nat.succ_mul i b
   exact .inl ⟨_, e, ⟨i + 1, rfl, by omega, by simp only; omega, by simp only; omega⟩, by simp only; omega⟩
  ·have : i = n := by omega
   subst this
   exact .inr ⟨_, hend q, h1, h2⟩
def Mk (f : Int → Option Int) : Prop := ∀ k : Int, 0 ≤ k → k ≤ 1152921504606846976 → ∃ k' : Int, f k = some k' ∧ k ≤ k' ∧ k' ≤ k + 2199023255552
theorem mkInt_L {xs : List Int} (h : xs.length ≤ SM) (k : Int) (h0 : 0 ≤ k) (hk : k ≤ 2305843009213693952) : X.l_markIntS_L xs k = some (k + xs.length) := by
 unfold SM at h
 unfold X.l_markIntS_L
 have key := loop_ind (body := (fun (x10 : (Int × Int)) => ((bif (decide (x10.2 < (xs.length : Int))) then ((at' zI xs x10.2).bind fun v13 => some (Sum.inl ((W (x10.1 + 1)), (W (x10.2 + 1))))) else some (Sum.inr x10.1)) : Option ((Int × Int) ⊕ Int))))
  (fun x : Int × Int => ∃ i : Nat, x.2 = (i : Int) ∧ i ≤ xs.length ∧ x.1 = k + i) (fun x => xs.length - x.2.toNat) (fun r => r = k + xs.length) (s := (k, 0)) ?_ ⟨0, rfl, by omega, by simp⟩
 ·obtain ⟨r, h1, h2⟩ := key
  rw [h1, h2]; rfl
 ·rintro ⟨q, x⟩ ⟨i, rfl, hi, e⟩
  simp only at e
  subst e
  by_cases h : i < xs.length
  ·refine .inl ⟨(k + ((i + 1 : Nat) : Int), ((i + 1 : Nat) : Int)), ?_, ⟨i + 1, rfl, by omega, rfl⟩, by simp only; omega⟩
   simp only [lt_cast h, cond_true, at_getD h, obs]
   rw [Wp (by omega) (by omega), Wp (by omega) (by omega)]
   congr 3 <;> omega
  ·have : i = xs.length := by omega
   subst this
   exact .inr ⟨_, by simp only [nlt_self, cond_false], rfl⟩
theorem u8_digit {x : Int} (h : 0 ≤ x ∧ x < 10) : ([IntKind.u8.wrap (W (48 + x))] : List Int).all inU8 = true := by
 rw [W_of (by omega)]
 have : IntKind.u8.wrap (48 + x) = 48 + x := by simp only [IntKind.wrap]; simp [IntKind.signed, IntKind.bits]; omega
 rw [this]
 simp only [List.all_cons, List.all_nil, Bool.and_true, inU8]
 exact decide_eq_true (by omega)
theorem markText_ok (k : Int) (h0 : 0 ≤ k) (hk : k ≤ 4611686018427387904) : ∃ s, X.l_markText k = some s := by
 have hm : maxLen = 9223372036854775807 := by decide
 unfold X.l_markText
 by_cases hz : k ≤ 0
 ·simp [hz]
 ·simp only [decide_eq_false hz, cond_false]
  have key := loop_ind (body := (fun (x12 : (Int × (List UInt8))) => ((bif (decide (x12.1 > 0)) then (if ([(IntKind.u8.wrap (W (48 + (Int.tmod x12.1 10))))] : List Int).all inU8 = true then (if (bytesOf ([(IntKind.u8.wrap (W (48 + (Int.tmod x12.1 10))))] : List Int)).length + x12.2.length ≤ maxLen then some (Sum.inl ((W (Int.tdiv x12.1 10)), ((bytesOf ([(IntKind.u8.wrap (W (48 + (Int.tmod x12.1 10))))] : List Int)) ++ x12.2))) else none) else none) else some (Sum.inr x12.2)) : Option ((Int × (List UInt8)) ⊕ (List UInt8)))))
   (fun x => 0 ≤ x.1 ∧ x.1 + (x.2.length : Int) ≤ k) (fun x => x.1.toNat) (fun r => (r.length : Int) ≤ k) (s := (k, [])) ?_ ⟨h0, by simp⟩
  ·obtain ⟨r, h1, h2⟩ := key
   rw [h1]
   refine ⟨_, if_pos ?_⟩
   simp only [List.length_cons, List.length_nil]; omega
  ·rintro ⟨q, l⟩ ⟨a1, a2⟩
   simp only at a1 a2
   by_cases hq : q > 0
   ·have hr := Int.tmod_eq_emod_of_nonneg (b := 10) a1
    have hd : Int.tdiv q 10 = q / 10 := Int.tdiv_eq_ediv_of_nonneg a1
    refine .inl ⟨(W (Int.tdiv q 10), bytesOf ([(IntKind.u8.wrap (W (48 + (Int.tmod q 10))))] : List Int) ++ l), ?_, ⟨?_, ?_⟩, ?_⟩
    ·simp only [decide_eq_true hq, cond_true]
     rw [if_pos (u8_digit (by omega)), if_pos (by rw [bytesOf_len]; simp only [List.length_cons, List.length_nil]; omega)]
    ·simp only; rw [W_of (by omega)]; omega
    ·simp only [List.length_append, bytesOf_len, List.length_cons, List.length_nil]; rw [W_of (by omega)]; omega
    ·simp only; rw [W_of (by omega)]; omega
   ·exact .inr ⟨l, by simp only [decide_eq_false hq, cond_false], (by omega : (l.length : Int) ≤ k)⟩
theorem mkTerrainS_L {xs : List TTerrain} (h : smLTTerrain xs) : Mk (X.l_markTerrainS_L xs) := fun k h0 hk => by
 have hs := h.1
 unfold SM at hs
 unfold X.l_markTerrainS_L
 refine mark_loop (f := fun y => some y) xs.length 1048580 h.1 (by omega) (fun i q hi hq0 hq => ?_) (fun q => by simp only [nlt_self, cond_false]) k h0 hk
 obtain ⟨s, hs'⟩ := markText_ok q hq0 (by omega)
 have hc : (xs.getD i zTTerrain).Cost.length ≤ SM := by
  have e : xs.getD i zTTerrain = xs[i] := by simp [List.getD, hi]
  rw [e]; exact (h.2 xs[i] (List.getElem_mem hi)).2.1.1
 have hc' := hc
 unfold SM at hc'
 simp only [lt_cast hi, cond_true, at_getD hi, hs', obs]
 rw [Wp hq0 (by omega), mkInt_L hc (q + 1) (by omega) (by omega)]
 simp only [obs]
 simp (disch := omega) only [Wp]
 exact ⟨_, rfl, by omega, by omega⟩
theorem mkKindS_L {xs : List TKind} (h : smLTKind xs) : Mk (X.l_markKindS_L xs) := fun k h0 hk => by
 have hs := h.1
 unfold SM at hs
 unfold X.l_markKindS_L
 refine mark_loop (f := fun y => some y) xs.length 6 h.1 (by omega) (fun i q hi hq0 hq => ?_) (fun q => by simp only [nlt_self, cond_false]) k h0 hk
 obtain ⟨s, hs'⟩ := markText_ok q hq0 (by omega)
 simp only [lt_cast hi, cond_true, at_getD hi, hs', obs]
 simp (disch := omega) only [Wp]
 exact ⟨_, rfl, by omega, by omega⟩
theorem mkRules_L {x : TRules} (h : smTRules x) (k : Int) (h0 : 0 ≤ k) (hk : k ≤ 1099511627776000) : ∃ k' : Int, X.l_markRules_L x k = some k' ∧ k ≤ k' ∧ k' ≤ k + 4398046511104 := by
 obtain ⟨a, e1, b1, c1⟩ := mkTerrainS_L (xs := x.Terrains) (by have := h; simp only [smTRules] at this; exact ⟨this.1.1, this.1.2⟩) k h0 (by omega)
 obtain ⟨d, e2, b2, c2⟩ := mkKindS_L (xs := x.Kinds) (by have := h; simp only [smTRules] at this; exact ⟨this.2.1.1, this.2.1.2⟩) a (by omega) (by omega)
 unfold X.l_markRules_L
 rw [e1, obs, e2]
 exact ⟨_, rfl, by omega, by omega⟩
theorem mkMap_L {x : TMap} (h : smTMap x) (k : Int) (h0 : 0 ≤ k) (hk : k ≤ 1099511627776000) : ∃ k' : Int, X.l_markMap_L x k = some k' ∧ k ≤ k' ∧ k' ≤ k + 4398046511104 := by
 have h' := h
 simp only [smTMap] at h'
 have q1 := h'.2.2.1.1
 have q2 := h'.2.2.2.1.1
 have q3 := h'.2.2.2.2.1.1
 unfold X.l_markMap_L
 unfold SM at q1 q2 q3
 rw [mkInt_L h'.2.2.1.1 k h0 (by omega), obs, mkInt_L h'.2.2.2.1.1 _ (by omega) (by omega), obs, mkInt_L h'.2.2.2.2.1.1 _ (by omega) (by omega), obs]
 exact ⟨_, rfl, by omega, by omega⟩
theorem mkBoard_L {x : TBoard} (h : smTBoard x) (k : Int) (h0 : 0 ≤ k) (hk : k ≤ 549755813888000) : ∃ k' : Int, X.l_markBoard_L x k = some k' ∧ k ≤ k' ∧ k' ≤ k + 8796093022208 := by
 obtain ⟨a, e1, b1, c1⟩ := mkRules_L (x := x.Rules) h.1 k h0 (by omega)
 obtain ⟨d, e2, b2, c2⟩ := mkMap_L (x := x.Map) h.2.1 a (by omega) (by omega)
 unfold X.l_markBoard_L
 rw [e1, obs, e2]
 exact ⟨_, rfl, by omega, by omega⟩
theorem mkUnitRow_L {xs : List TUnit} (h : xs.length ≤ SM) : Mk (X.l_markUnitS_L xs) := fun k h0 hk => by
 have hs := h
 unfold SM at hs
 unfold X.l_markUnitS_L
 refine mark_loop (f := fun y => some y) xs.length 4 h (by omega) (fun i q hi hq0 hq => ?_) (fun q => by simp only [nlt_self, cond_false]) k h0 hk
 simp only [lt_cast hi, cond_true, at_getD hi, obs]
 simp (disch := omega) only [Wp]
 exact ⟨_, rfl, by omega, by omega⟩
theorem mkState_L0 {x : TState} (h : smTState x) (k : Int) (h0 : 0 ≤ k) (hk : k ≤ 1152921504606846976) : ∃ k' : Int, X.l_markState_L x k = some k' ∧ k ≤ k' ∧ k' ≤ k + 8796093022208 := by
 obtain ⟨a, e1, b1, c1⟩ := mkUnitRow_L (xs := x.Units) h.2.2.1.1 k h0 (by omega)
 unfold X.l_markState_L
 rw [e1]
 exact ⟨_, rfl, by omega, by omega⟩
theorem mkState_L {x : TState} (h : smTState x) (k : Int) (h0 : 0 ≤ k) (hk : k ≤ 549755813888000) : ∃ k' : Int, X.l_markState_L x k = some k' ∧ k ≤ k' ∧ k' ≤ k + 8796093022208 := mkState_L0 h k h0 (by omega)
def mkF {α : Type} (g : Int → α) (c : Nat) (k : Int) (n : Nat) : List α := (List.range n).map fun i : Nat => g (k + ((c * i : Nat) : Int))
theorem mkF_len {α : Type} (g : Int → α) (c : Nat) (k : Int) (n : Nat) : (mkF g c k n).length = n := by simp [mkF]
theorem mkF_get {α : Type} (g : Int → α) (c : Nat) (k : Int) {n i : Nat} (h : i < n) (z : α) : (mkF g c k n).getD i z = g (k + ((c * i : Nat) : Int)) := by simp [mkF, List.getD, h]
theorem getD_set {α : Type} {l : List α} {i : Nat} {a z : α} (h : i < l.length) : (l.set i a).getD i z = a := by simp [List.getD, h]
theorem mark_rows {α : Type} (g : Int → α) {c : Nat} {xs : List α} {body : Int × Int × List α → Option ((Int × Int × List α) ⊕ (Int × List α))} (h : xs.length ≤ SM) (hc : c ≤ 8)
  (hstep : ∀ (q : Int) (i : Nat) (l : List α), i < l.length → l.length ≤ SM → 0 ≤ q → q ≤ 2305843009213693952 → body (q, (i : Int), l) = some (.inl (q + (c : Int), ((i + 1 : Nat) : Int), l.set i (g q))))
  (hend : ∀ (q : Int) (l : List α), body (q, (l.length : Int), l) = some (.inr (q, l))) (k : Int) (h0 : 0 ≤ k) (hk : k ≤ 1152921504606846976) :
  loop body (k, 0, xs) = some (k + ((c * xs.length : Nat) : Int), mkF g c k xs.length) := by
 have hS := h
 unfold SM at h
 have hm : c * xs.length ≤ 8 * 1048576 := Nat.mul_le_mul hc h
 have key := loop_ind (body := body) (fun x => ∃ i : Nat, x.2.1 = (i : Int) ∧ i ≤ xs.length ∧ x.1 = k + ((c * i : Nat) : Int) ∧ x.2.2 = mkF g c k i ++ xs.drop i) (fun x => xs.length - x.2.1.toNat)
  (fun r => r = (k + ((c * xs.length : Nat) : Int), mkF g c k xs.length)) (s := (k, 0, xs)) ?_ ⟨0, rfl, by omega, by simp, by simp [mkF]⟩
 ·obtain ⟨r, h1, h2⟩ := key
  rw [h1, h2]
 ·rintro ⟨q, x, l⟩ ⟨i, rfl, hi, e1, e2⟩
  simp only at e1 e2
  subst e1 e2
  have hlen : (mkF g c k i ++ xs.drop i).length = xs.length := by rw [List.length_append, mkF_len, List.length_drop]; omega
  by_cases h1 : i < xs.length
  ·have hci : c * i ≤ c * xs.length := Nat.mul_le_mul_left c hi
   have hcs : c * (i + 1) = c * i + c := Nat.mul_succ c i
   refine .inl ⟨(k + ((c * (i + 1) : Nat) : Int), ((i + 1 : Nat) : Int), mkF g c k (i + 1) ++ xs.drop (i + 1)), ?_, ⟨i + 1, rfl, by omega, rfl, rfl⟩, by simp only [Int.toNat_natCast]; omega⟩
   rw [hstep _ i _ (by rw [hlen]; exact h1) (by rw [hlen]; exact hS) (by omega) (by omega)]
   have e3 : (mkF g c k i ++ xs.drop i).set i (g (k + ((c * i : Nat) : Int))) = mkF g c k (i + 1) ++ xs.drop (i + 1) := by
    rw [List.set_append_right _ _ (by rw [mkF_len]; omega), mkF_len, Nat.sub_self, List.drop_eq_getElem_cons h1, List.set_cons_zero]
    simp [mkF, List.range_succ]
   rw [e3]
   congr 3
   omega
  ·have : i = xs.length := by omega
   subst this
   refine .inr ⟨_, ?_, rfl⟩
   have := hend (k + ((c * xs.length : Nat) : Int)) (mkF g c k xs.length ++ xs.drop xs.length)
   rw [hlen] at this
   rw [this]
   simp
theorem held_rows {c n : Nat} {k : Int} {body : Int × Int → Option ((Int × Int) ⊕ (Int ⊕ Int))} (h : n ≤ SM) (hc : c ≤ 8) (h0 : 0 ≤ k) (hk : k ≤ 1152921504606846976)
  (hstep : ∀ (i : Nat) (q : Int), i < n → q = k + ((c * i : Nat) : Int) → 0 ≤ q → q ≤ 2305843009213693952 → body (q, (i : Int)) = some (.inl (q + (c : Int), ((i + 1 : Nat) : Int))))
  (hend : ∀ q, body (q, (n : Int)) = some (.inr (.inl q))) : loop body (k, 0) = some (.inl (k + ((c * n : Nat) : Int))) := by
 unfold SM at h
 have hm : c * n ≤ 8 * 1048576 := Nat.mul_le_mul hc h
 have key := loop_ind (body := body) (fun x => ∃ i : Nat, x.2 = (i : Int) ∧ i ≤ n ∧ x.1 = k + ((c * i : Nat) : Int)) (fun x => n - x.2.toNat) (fun r => r = .inl (k + ((c * n : Nat) : Int))) (s := (k, 0)) ?_ ⟨0, rfl, by omega, by simp⟩
 ·obtain ⟨r, h1, h2⟩ := key
  rw [h1, h2]
 ·rintro ⟨q, x⟩ ⟨i, rfl, hi, e⟩
  simp only at e
  by_cases h1 : i < n
  ·have hci : c * i ≤ c * n := Nat.mul_le_mul_left c hi
   have hcs : c * (i + 1) = c * i + c := Nat.mul_succ c i
   refine .inl ⟨_, hstep i q h1 e (by omega) (by omega), ⟨i + 1, rfl, by omega, by simp only; omega⟩, by simp only [Int.toNat_natCast]; omega⟩
  ·have : i = n := by omega
   subst this
   exact .inr ⟨_, hend q, by rw [e]⟩
theorem mhUnitS {xs : List TUnit} (h : xs.length ≤ SM) (k : Int) (h0 : 0 ≤ k) (hk : k ≤ 1152921504606846976) : ∃ (r : Int) (ys : List TUnit), X.l_markUnitS_Mod xs k = some (r, ys) ∧ ys.length = xs.length ∧ X.l_heldUnitS ys k = some r ∧ k ≤ r ∧ r ≤ k + 8388608 := by
 have hn := h
 unfold SM at hn
 refine ⟨k + ((4 * xs.length : Nat) : Int), mkF (fun q => TUnit.mk q (q + 1) (q + 2) (q + 3)) 4 k xs.length, ?_, mkF_len _ _ _ _, ?_, by omega, by omega⟩
 ·unfold X.l_markUnitS_Mod
  rw [mark_rows (fun q => TUnit.mk q (q + 1) (q + 2) (q + 3)) (c := 4) h (by omega) ?_ ?_ k h0 hk]
  ·rfl
  ·intro q i l hi hl q0 q1
   unfold SM at hl
   have w1 : W (q + 1) = q + 1 := W_of (by omega)
   have w2 : W (q + 1 + 1) = q + 2 := by rw [W_of (by omega)]; omega
   have w3 : W (q + 2 + 1) = q + 3 := by rw [W_of (by omega)]; omega
   have w4 : W (q + 3 + 1) = q + 4 := by rw [W_of (by omega)]; omega
   have w5 : W ((i : Int) + 1) = ((i + 1 : Nat) : Int) := by rw [W_of (by omega)]; omega
   simp only [lt_cast hi, cond_true, Int.toNat_natCast, obs, List.set_set, getD_set hi, w1, w2, w3, w4, w5]
   exact if_pos ⟨by omega, by omega⟩
  ·intro q l; simp only [nlt_self, cond_false]
 ·unfold X.l_heldUnitS
  rw [held_rows (c := 4) (n := xs.length) h (by omega) h0 hk ?_ ?_]
  ·rfl
  ·intro i q hi e q0 q1
   have w1 : W (q + 1) = q + 1 := W_of (by omega)
   have w2 : W (q + 1 + 1) = q + 2 := by rw [W_of (by omega)]; omega
   have w3 : W (q + 2 + 1) = q + 3 := by rw [W_of (by omega)]; omega
   have w4 : W (q + 3 + 1) = q + 4 := by rw [W_of (by omega)]; omega
   have w5 : W ((i : Int) + 1) = ((i + 1 : Nat) : Int) := by rw [W_of (by omega)]; omega
   simp only [mkF_len, lt_cast hi, cond_true]
   rw [at_getD (by rw [mkF_len]; exact hi), mkF_get _ _ _ hi, ← e]
   simp only [obs, w1, w2, w3, w4, w5, bne_self_eq_false, cond_false]
   rfl
  ·intro q; simp only [mkF_len, nlt_self, cond_false]
theorem mhState {x : TState} (h : smTState x) (k : Int) (h0 : 0 ≤ k) (hk : k ≤ 1152921504606846976) : ∃ (r : Int) (y : TState), X.l_markState_Mod x k = some (r, y) ∧ y.Units.length = x.Units.length ∧ X.l_heldState ⟨x.Turn, x.Weather, y.Units⟩ k = some r ∧ k ≤ r ∧ r ≤ k + 8388608 := by
 obtain ⟨r, ys, e1, e2, e3, e4, e5⟩ := mhUnitS h.2.2.1.1 k h0 hk
 refine ⟨r, ⟨x.Turn, x.Weather, ys⟩, ?_, e2, ?_, e4, e5⟩
 ·unfold X.l_markState_Mod; rw [e1, obs, if_pos e2]
 ·unfold X.l_heldState; rw [e3, obs, decide_eq_false (by omega)]; rfl
def pHex (m : TMap) (i : Int) : THex := ⟨i % m.Width, i / m.Width⟩
theorem hexAt_eq {m : TMap} (h : okSides m) {i : Int} (hi : 0 ≤ i ∧ i < m.Width * m.Height) : X.s_mHex m i = some (pHex m i) ∧ X.i_hexOf m i = some (pHex m i) ∧ (0 ≤ (pHex m i).Q ∧ (pHex m i).Q < 10) ∧ (0 ≤ (pHex m i).R ∧ (pHex m i).R < 10) := by
 obtain ⟨h5, h6, h7⟩ := size_eq m h
 obtain ⟨h1, h2, h3, h4⟩ := h
 have hne : m.Width ≠ 0 := by omega
 have hm1 : 0 ≤ i % m.Width := Int.emod_nonneg _ hne
 have hm2 : i % m.Width < m.Width := Int.emod_lt_of_pos _ (by omega)
 have hd1 : 0 ≤ i / m.Width := Int.ediv_nonneg hi.1 (by omega)
 have hd2 : i / m.Width < m.Height := Int.ediv_lt_of_lt_mul (by omega) (by rw [Int.mul_comm]; exact hi.2)
 unfold X.s_mHex X.i_hexOf pHex
 rw [if_pos hne, if_pos hne, tmod_nn hi.1 h1, tdiv_nn hi.1, W_of (n := i / m.Width) (by omega)]
 exact ⟨rfl, rfl, ⟨hm1, by show i % m.Width < 10; omega⟩, ⟨hd1, by show i / m.Width < 10; omega⟩⟩
def pAbs (x : Int) : Int := if x < 0 then -x else x
theorem abs_eq (x : Int) (h : -4611686018427387904 < x ∧ x < 4611686018427387904) : X.s_l1Abs x = some (pAbs x) ∧ X.i_absOf x = some (pAbs x) := by
 unfold X.s_l1Abs X.i_absOf X.s_l1Most pAbs
 rw [W_of (n := 0 - x) (by omega)]
 by_cases hx : x < 0
 ·have : ¬ x > 0 - x := by omega
  rw [if_pos hx, decide_eq_true hx, decide_eq_false this]
  have e : 0 - x = -x := by omega
  rw [e]; exact ⟨rfl, rfl⟩
 ·rw [if_neg hx, decide_eq_false hx]
  by_cases h2 : x > 0 - x
  ·rw [decide_eq_true h2]; exact ⟨rfl, rfl⟩
  ·rw [decide_eq_false h2]
   have e : 0 - x = x := by omega
   rw [e]; exact ⟨rfl, rfl⟩
def pDist (a b : THex) : Int := (pAbs (b.Q - a.Q) + pAbs (b.R - a.R) + pAbs (b.Q - a.Q + (b.R - a.R))) / 2
theorem dist_eq {a b : THex} (ha : (-100 ≤ a.Q ∧ a.Q < 100) ∧ (-100 ≤ a.R ∧ a.R < 100)) (hb : (-100 ≤ b.Q ∧ b.Q < 100) ∧ (-100 ≤ b.R ∧ b.R < 100)) : X.s_hDistance a b = some (pDist a b) ∧ X.i_distance a b = some (pDist a b) ∧ 0 ≤ pDist a b ∧ pDist a b ≤ 1000 := by
 have b1 : 0 ≤ pAbs (b.Q - a.Q) ∧ pAbs (b.Q - a.Q) ≤ 200 := by unfold pAbs; split <;> omega
 have b2 : 0 ≤ pAbs (b.R - a.R) ∧ pAbs (b.R - a.R) ≤ 200 := by unfold pAbs; split <;> omega
 have b3 : 0 ≤ pAbs (b.Q - a.Q + (b.R - a.R)) ∧ pAbs (b.Q - a.Q + (b.R - a.R)) ≤ 400 := by unfold pAbs; split <;> omega
 unfold X.s_hDistance X.i_distance pDist
 rw [W_of (n := b.Q - a.Q) (by omega), W_of (n := b.R - a.R) (by omega), W_of (n := b.Q - a.Q + (b.R - a.R)) (by omega)]
 rw [(abs_eq _ (show -4611686018427387904 < b.Q - a.Q ∧ b.Q - a.Q < 4611686018427387904 by omega)).1, (abs_eq _ (show -4611686018427387904 < b.Q - a.Q ∧ b.Q - a.Q < 4611686018427387904 by omega)).2,
  (abs_eq _ (show -4611686018427387904 < b.R - a.R ∧ b.R - a.R < 4611686018427387904 by omega)).1, (abs_eq _ (show -4611686018427387904 < b.R - a.R ∧ b.R - a.R < 4611686018427387904 by omega)).2,
  (abs_eq _ (show -4611686018427387904 < b.Q - a.Q + (b.R - a.R) ∧ b.Q - a.Q + (b.R - a.R) < 4611686018427387904 by omega)).1, (abs_eq _ (show -4611686018427387904 < b.Q - a.Q + (b.R - a.R) ∧ b.Q - a.Q + (b.R - a.R) < 4611686018427387904 by omega)).2]
 simp only [obs]
 rw [W_of (n := pAbs (b.Q - a.Q) + pAbs (b.R - a.R)) (by omega), W_of (n := pAbs (b.Q - a.Q) + pAbs (b.R - a.R) + pAbs (b.Q - a.Q + (b.R - a.R))) (by omega), tdiv_nn (by omega), W_of (by omega)]
 exact ⟨rfl, rfl, by omega, by omega⟩
theorem unitsAt_eq (s : TState) (a : Int) (h : s.Units.length ≤ SM) : X.i_unitsAt s a = some (idxs (fun k => (s.Units.getD k zTUnit).At == a) s.Units.length) := by
 have hm := mL
 have h' := h
 unfold SM at h'
 unfold X.i_unitsAt
 rw [run_idxs s.Units.length (fun k => (s.Units.getD k zTUnit).At == a) (fun k l => ((k : Int), l)) (fun l => l) (by rfl) ?_ ?_]
 ·intro j l hj hl
  have e : (l ++ ([(j : Int)] : List Int)).length ≤ LIM := by simp; have := limN (n := l.length) (by unfold SM; omega); omega
  simp only [lt_cast hj, cond_true, at_getD hj, obs, W_up hj (show s.Units.length ≤ maxLen by omega), if_pos e]
  cases ((s.Units.getD j zTUnit).At == a) <;> rfl
 ·intro l; simp only [nlt_self, cond_false]
def pLose (u : TUnit) : TUnit := if u.Steps ≤ 1 then ⟨u.Side, u.Kind, -1, 0⟩ else ⟨u.Side, u.Kind, u.At, u.Steps - 1⟩
theorem pLose_good {b : TBoard} {u : TUnit} (h : pUnit b u = true) : pUnit b (pLose u) = true := by
 have h1 := pUnit_iff h
 unfold pLose
 unfold pUnit at h ⊢
 simp only [Bool.and_eq_true, Bool.or_eq_true, pIn_iff, beq_iff_eq, decide_eq_true_eq] at h ⊢
 split
 ·exact ⟨by simp only; omega, by simp only; omega, by simp only; omega, .inl rfl⟩
 ·refine ⟨by simp only; omega, by simp only; omega, by simp only; omega, ?_⟩
  simp only
  rcases h.2.2.2 with h2 | h2
  ·exact .inl h2
  ·exact .inr ⟨by omega, h2.2⟩
theorem lose_eq {b : TBoard} (s : TState) {k : Nat} (hk : k < s.Units.length) (hu : pUnit b (s.Units.getD k zTUnit) = true) (hb : pBoard b = true) :
  X.s_sLose_Modd s (k : Int) 1 = some ⟨s.Turn, s.Weather, s.Units.set k (pLose (s.Units.getD k zTUnit))⟩ ∧ X.i_loseSteps_Modd s (k : Int) 1 = some ⟨s.Turn, s.Weather, s.Units.set k (pLose (s.Units.getD k zTUnit))⟩ := by
 have h1 := pUnit_iff hu
 obtain ⟨j, hj⟩ := Int.eq_ofNat_of_zero_le h1.2.1
 have h2 := kind_of hb (k := j) (by omega)
 rw [hj, Int.toNat_natCast] at h1
 unfold X.s_sLose_Modd X.i_loseSteps_Modd X.s_l1Most pLose
 have ew : W ((s.Units.getD k zTUnit).Steps - 1) = (s.Units.getD k zTUnit).Steps - 1 := W_of (by omega)
 simp only [Int.toNat_natCast, ew, if_pos (show 0 ≤ (k : Int) ∧ (k : Int) < (s.Units.length : Int) by omega), obs, getD_set hk, List.set_set]
 generalize s.Units.getD k zTUnit = u at *
 by_cases h0 : u.Steps ≤ 1
 ·by_cases h3 : (0 : Int) > u.Steps - 1
  ·simp only [decide_eq_true h3, cond_true, if_pos h3, if_pos h0, obs]
   first | rfl | exact ⟨rfl, rfl⟩ | trivial
  ·have h4 : u.Steps - 1 = 0 := by omega
   simp only [h4, if_pos h0]
   first | rfl | exact ⟨rfl, rfl⟩
 ·have h3 : ¬ (0 : Int) > u.Steps - 1 := by omega
  have h4 : (u.Steps - 1 == 0) = false := beq_eq_false_iff_ne.2 (by omega)
  simp only [decide_eq_false h3, cond_false, if_neg h3, if_neg h0, obs, h4, and_self]
structure GU (b : TBoard) (s : TState) : Prop where
 un : s.Units.length ≤ 12
 us : ∀ k, k < s.Units.length → pUnit b (s.Units.getD k zTUnit) = true
theorem GU.of {b : TBoard} {s : TState} (h : pState b s = true) : GU b s := ⟨units_of h, fun k hk => unit_of h hk⟩
def pEdgeOf (m : TMap) (i d : Int) : Int := bif decide (d < 3) then 3 * i + d else 3 * pNext m i d + d - 3
theorem edge_eq (m : TMap) (h : okSides m) (i d : Int) (hi : 0 ≤ i ∧ i < 100) (hd : 0 ≤ d ∧ d < 6) (hn : 0 ≤ pNext m i d) : X.s_mEdge m i d = some (pEdgeOf m i d) ∧ X.i_edgeOf m i d = some (pEdgeOf m i d) := by
 obtain ⟨h5, h6, h7⟩ := size_eq m h
 obtain ⟨e1, e2⟩ := next_eq m h i d (by omega) hd
 have hb := pNext_lt h i d
 unfold X.s_mEdge X.i_edgeOf pEdgeOf
 rw [e1, e2]
 have hn' : ¬ pNext m i d < 0 := by omega
 simp only [obs, decide_eq_false hn', cond_false]
 rw [W_of (n := 3 * i) (by omega), W_of (n := 3 * i + d) (by omega), W_of (n := 3 * pNext m i d) (by omega), W_of (n := 3 * pNext m i d + d) (by omega), W_of (n := 3 * pNext m i d + d - 3) (by omega)]
 cases decide (d < 3) <;> exact ⟨rfl, rfl⟩
noncomputable def pExerts (b : TBoard) (u : TUnit) (i : Int) : Bool := (X.i_controls b u i).getD false
theorem roads_of {b : TBoard} (q : smTBoard b) : b.Map.Rivers.length ≤ maxLen ∧ b.Map.Roads.length ≤ maxLen := by
 have h1 := q.2.1.2.2.2.1.1
 have h2 := q.2.1.2.2.2.2.1.1
 have := mL
 unfold SM at h1 h2
 omega
theorem exerts_eq {b : TBoard} (hb : pBoard b = true) (q : smTBoard b) {s : TState} (hs : GU b s) {k : Nat} (hk : k < s.Units.length) {i : Nat} (hi : i < b.Map.Terrain.length) :
  X.s_zExerts b s (k : Int) (i : Int) = some (pExerts b (s.Units.getD k zTUnit) (i : Int)) ∧ X.i_controls b (s.Units.getD k zTUnit) (i : Int) = some (pExerts b (s.Units.getD k zTUnit) (i : Int)) := by
 have hu := pUnit_iff (hs.us _ hk)
 obtain ⟨hsd, hl⟩ := sides_of hb
 obtain ⟨_, s2, s3⟩ := size_of hb
 obtain ⟨hr1, hr2⟩ := roads_of q
 have key : ∃ v, X.s_zExerts b s (k : Int) (i : Int) = some v ∧ X.i_controls b (s.Units.getD k zTUnit) (i : Int) = some v := by
  unfold X.s_zExerts X.i_controls
  rw [at_getD hk]
  simp only [obs]
  cases ha : decide ((s.Units.getD k zTUnit).At < 0)
  case true => exact ⟨_, rfl, rfl⟩
  rw [decide_eq_false_iff_not] at ha
  obtain ⟨a, hat⟩ := Int.eq_ofNat_of_zero_le (show 0 ≤ (s.Units.getD k zTUnit).At by omega)
  obtain ⟨j, hj⟩ := Int.eq_ofNat_of_zero_le hu.2.1
  have hjl : j < b.Rules.Kinds.length := by omega
  simp only [cond_false, hj, at_getD hjl, obs]
  cases (b.Rules.Kinds.getD j zTKind).Zone
  ·exact ⟨_, rfl, rfl⟩
  obtain ⟨c1, c2, _⟩ := cost_eq hb hjl hi
  simp only [Bool.not_true, cond_false, c1, c2, obs]
  cases pCost b j i == 0
  case true => exact ⟨_, rfl, rfl⟩
  simp only [cond_false, hat]
  have hal : (a : Int) < 100 := by omega
  have both := loop_both (b := (fun (x34 : Int) => ((bif (decide (x34 < 6)) then ((X.i_nextTo b.Map (a : Int) x34).bind fun v37 => (bif (v37 == (i : Int)) then ((X.i_edgeOf b.Map (a : Int) x34).bind fun v40 => ((X.i_crossesFreely b.Map v40).bind fun v42 => some (Sum.inr (Sum.inr v42)))) else some (Sum.inl (W (x34 + 1))))) else some (Sum.inr (Sum.inl ()))) : Option (Int ⊕ (Unit ⊕ Bool)))))
   (b' := (fun (x38 : Int) => ((bif (decide (x38 < 6)) then ((X.s_mNext b.Map (a : Int) x38).bind fun v41 => (bif (v41 == (i : Int)) then ((X.s_mRiver b.Map (a : Int) x38).bind fun v44 => (bif (!v44) then some (Sum.inr (Sum.inr true)) else ((X.s_mRoad b.Map (a : Int) x38).bind fun v47 => some (Sum.inr (Sum.inr v47))))) else some (Sum.inl (W (x38 + 1))))) else some (Sum.inr (Sum.inl ()))) : Option (Int ⊕ (Unit ⊕ Bool)))))
   (fun t => ∃ d : Nat, t = (d : Int) ∧ d ≤ 6) (fun t => 6 - t.toNat) (fun _ => True) (s := (0 : Int)) ?_ ⟨0, rfl, by omega⟩
  ·obtain ⟨y, y1, y2, _⟩ := both
   rw [y1, y2]
   cases y <;> exact ⟨_, rfl, rfl⟩
  ·rintro t ⟨d, ht, hd⟩
   subst ht
   by_cases h6 : d < 6
   ·have h6' : (d : Int) < 6 := by omega
    obtain ⟨e1, e2⟩ := next_eq b.Map hsd (a : Int) (d : Int) (by omega) (by omega)
    simp only [decide_eq_true h6', cond_true, e1, e2, obs, W_succ (show d < 4611686018427387904 by omega)]
    cases hn : pNext b.Map (a : Int) (d : Int) == (i : Int)
    ·exact ⟨rfl, .inl ⟨_, rfl, ⟨d + 1, rfl, by omega⟩, by simp only [Int.toNat_natCast]; omega⟩⟩
    ·have hn' : pNext b.Map (a : Int) (d : Int) = (i : Int) := by simpa using hn
     obtain ⟨g1, g2⟩ := edge_eq b.Map hsd (a : Int) (d : Int) (by omega) (by omega) (by omega)
     simp only [cond_true, X.s_mRiver, X.s_mRoad, X.i_crossesFreely, g1, g2, obs, has_eq _ _ hr1, has_eq _ _ hr2, contains_int _ _ hr1, contains_int _ _ hr2, any_comm]
     cases (b.Map.Rivers.any fun v => v == pEdgeOf b.Map (a : Int) (d : Int)) <;> exact ⟨rfl, .inr ⟨_, rfl, trivial⟩⟩
   ·have h6' : ¬ (d : Int) < 6 := by omega
    simp only [decide_eq_false h6', cond_false]
    exact ⟨trivial, .inr ⟨_, rfl, trivial⟩⟩
 obtain ⟨v, h1, h2⟩ := key
 have : pExerts b (s.Units.getD k zTUnit) (i : Int) = v := by unfold pExerts; rw [h2]; rfl
 rw [this]
 exact ⟨h1, h2⟩
noncomputable def pZone (b : TBoard) (s : TState) (d i : Int) : Bool := !(allFrom s.Units.length 0 fun k => !(((s.Units.getD k zTUnit).Side == d) && pExerts b (s.Units.getD k zTUnit) i))
theorem sources_eq {b : TBoard} (hb : pBoard b = true) (q : smTBoard b) {s : TState} (hs : GU b s) (d : Int) {i : Nat} (hi : i < b.Map.Terrain.length) :
  X.s_zSources b s d (i : Int) = some (idxs (fun k => ((s.Units.getD k zTUnit).Side == d) && pExerts b (s.Units.getD k zTUnit) (i : Int)) s.Units.length) := by
 have hm := mL
 have hU := hs.un
 unfold X.s_zSources
 rw [run_idxs s.Units.length (fun k => ((s.Units.getD k zTUnit).Side == d) && pExerts b (s.Units.getD k zTUnit) (i : Int)) (fun k l => ((k : Int), l)) (fun l => l) (by rfl) ?_ ?_]
 ·intro j l hj hl
  have e : (l ++ ([(j : Int)] : List Int)).length ≤ LIM := by simp; have := limN (n := l.length) (by unfold SM; omega); omega
  simp only [lt_cast hj, cond_true, at_getD hj, obs, (exerts_eq hb q hs hj hi).1, W_up hj (show s.Units.length ≤ maxLen by omega), if_pos e]
  cases ((s.Units.getD j zTUnit).Side == d) <;> cases pExerts b (s.Units.getD j zTUnit) (i : Int) <;> rfl
 ·intro l; simp only [nlt_self, cond_false]
theorem zone_eq {b : TBoard} (hb : pBoard b = true) (q : smTBoard b) {s : TState} (hs : GU b s) (d : Int) {i : Nat} (hi : i < b.Map.Terrain.length) :
  X.s_zIn b s (i : Int) d = some (pZone b s d (i : Int)) ∧ X.i_inZone b s d (i : Int) = some (pZone b s d (i : Int)) := by
 have hm := mL
 have hU := hs.un
 constructor
 ·unfold X.s_zIn pZone
  rw [sources_eq hb q hs d hi]
  simp only [obs, Option.some.injEq]
  cases h : allFrom s.Units.length 0 fun k => !(((s.Units.getD k zTUnit).Side == d) && pExerts b (s.Units.getD k zTUnit) (i : Int))
  ·have : (idxs (fun k => ((s.Units.getD k zTUnit).Side == d) && pExerts b (s.Units.getD k zTUnit) (i : Int)) s.Units.length).length ≠ 0 := fun h0 => by
    rw [idxs_nil] at h0
    have : (allFrom s.Units.length 0 fun k => !(((s.Units.getD k zTUnit).Side == d) && pExerts b (s.Units.getD k zTUnit) (i : Int))) = true := (allFrom_iff _ _).2 fun j _ hj => by rw [h0 j (by omega)]; rfl
    rw [h] at this; cases this
   simp only [Bool.not_false, decide_eq_true_eq]
   omega
  ·have : (idxs (fun k => ((s.Units.getD k zTUnit).Side == d) && pExerts b (s.Units.getD k zTUnit) (i : Int)) s.Units.length).length = 0 := by
    rw [idxs_nil]
    intro k hk
    have := (allFrom_iff _ _).1 h k (by omega) (by omega)
    rw [Bool.not_eq_true'] at this
    exact this
   rw [this]; rfl
 ·unfold X.i_inZone pZone
  rw [run_allN s.Units.length (fun k => !(((s.Units.getD k zTUnit).Side == d) && pExerts b (s.Units.getD k zTUnit) (i : Int))) (.inr true) (.inl ()) ?_ ?_]
  ·cases allFrom s.Units.length 0 _ <;> rfl
  ·intro k hk
   simp only [lt_cast hk, cond_true, at_getD hk, obs, (exerts_eq hb q hs hk hi).2, W_up hk (show s.Units.length ≤ maxLen by omega)]
   cases ((s.Units.getD k zTUnit).Side == d) <;> cases pExerts b (s.Units.getD k zTUnit) (i : Int) <;> rfl
  ·simp only [nlt_self, cond_false]
noncomputable def pOwn (s : TState) (i : Int) : Int := (X.i_ownerOf s i).getD (-1)
theorem own_eq {b : TBoard} {s : TState} (hs : GU b s) (i : Int) : X.i_ownerOf s i = some (pOwn s i) ∧ ((pOwn s i = -1 ∧ ∀ k, k < s.Units.length → ((s.Units.getD k zTUnit).At == i) = false) ∨ ∃ k, k < s.Units.length ∧ (s.Units.getD k zTUnit).At = i ∧ pOwn s i = (s.Units.getD k zTUnit).Side) := by
 have hm := mL
 have hU := hs.un
 have key : ∃ v : Int, X.i_ownerOf s i = some v ∧ ((v = -1 ∧ ∀ k, k < s.Units.length → ((s.Units.getD k zTUnit).At == i) = false) ∨ ∃ k, k < s.Units.length ∧ (s.Units.getD k zTUnit).At = i ∧ v = (s.Units.getD k zTUnit).Side) := by
  unfold X.i_ownerOf
  refine run_ind (fun o => ∃ v : Int, o = some v ∧ ((v = -1 ∧ ∀ k, k < s.Units.length → ((s.Units.getD k zTUnit).At == i) = false) ∨ ∃ k, k < s.Units.length ∧ (s.Units.getD k zTUnit).At = i ∧ v = (s.Units.getD k zTUnit).Side))
   (fun t => ∃ k : Nat, t = (k : Int) ∧ k ≤ s.Units.length ∧ ∀ j, j < k → ((s.Units.getD j zTUnit).At == i) = false) (fun t => s.Units.length - t.toNat)
   (fun r => match r with | .inl _ => ∀ k, k < s.Units.length → ((s.Units.getD k zTUnit).At == i) = false | .inr x => ∃ k, k < s.Units.length ∧ (s.Units.getD k zTUnit).At = i ∧ x = (s.Units.getD k zTUnit).Side) ⟨0, rfl, by omega, fun j hj => by omega⟩ ?_ (fun r hr => by
   cases r with
   | inl u => exact ⟨-1, rfl, .inl ⟨rfl, hr⟩⟩
   | inr x => exact ⟨x, rfl, .inr hr⟩)
  rintro t ⟨k, ht, hk, hb⟩
  subst ht
  by_cases h : k < s.Units.length
  ·simp only [lt_cast h, cond_true, at_getD h, obs, W_up h (show s.Units.length ≤ maxLen by omega)]
   cases he : (s.Units.getD k zTUnit).At == i
   ·refine .inl ⟨_, rfl, ⟨k + 1, rfl, by omega, fun j hj => ?_⟩, by simp only [Int.toNat_natCast]; omega⟩
    by_cases e : j = k
    ·subst e; exact he
    ·exact hb j (by omega)
   ·exact .inr ⟨.inr (s.Units.getD k zTUnit).Side, rfl, k, h, beq_iff_eq.1 he, rfl⟩
  ·have : k = s.Units.length := by omega
   subst this
   simp only [nlt_self, cond_false]
   exact .inr ⟨.inl (), rfl, hb⟩
 obtain ⟨v, h1, h2⟩ := key
 have : pOwn s i = v := by unfold pOwn; rw [h1]; rfl
 rw [this]
 exact ⟨h1, h2⟩
def hereAt (s : TState) (i : Int) : List Int := idxs (fun k => (s.Units.getD k zTUnit).At == i) s.Units.length
def ownOnly (s : TState) (d i : Int) : Bool := allFrom s.Units.length 0 fun k => !((s.Units.getD k zTUnit).At == i) || ((s.Units.getD k zTUnit).Side == d)
theorem own_none {b : TBoard} {s : TState} (hs : GU b s) {d : Int} (hd : d = 0 ∨ d = 1) (i : Int) : decide (((idxs (pHere s.Units i (1 - d)) s.Units.length).length : Int) > 0) = !(ownOnly s d i) := by
 cases h : ownOnly s d i
 ·rw [Bool.not_false, decide_eq_true_eq]
  have : (idxs (pHere s.Units i (1 - d)) s.Units.length).length ≠ 0 := fun h0 => by
   rw [idxs_nil] at h0
   have : ownOnly s d i = true := (allFrom_iff _ _).2 fun j _ hj => by
    have h1 := h0 j (by omega)
    have h2 := (pUnit_iff (hs.us j (by omega))).1
    unfold pHere at h1
    cases h3 : (s.Units.getD j zTUnit).At == i
    ·rfl
    ·rw [h3, Bool.true_and, beq_eq_false_iff_ne] at h1
     simp only [Bool.not_true, Bool.false_or, beq_iff_eq]
     omega
   rw [h] at this; cases this
  omega
 ·rw [Bool.not_true, decide_eq_false_iff_not]
  have : (idxs (pHere s.Units i (1 - d)) s.Units.length).length = 0 := by
   rw [idxs_nil]
   intro k hk
   have h1 := (allFrom_iff _ _).1 h k (by omega) (by omega)
   unfold pHere
   cases h3 : (s.Units.getD k zTUnit).At == i
   ·rfl
   ·rw [h3] at h1
    simp only [Bool.not_true, Bool.false_or, beq_iff_eq] at h1
    rw [Bool.true_and, beq_eq_false_iff_ne]
    omega
  omega
theorem own_here {s : TState} {d i : Int} (h : ownOnly s d i = true) : idxs (pHere s.Units i d) s.Units.length = hereAt s i := by
 unfold hereAt
 refine idxs_congr _ fun k hk => ?_
 have h1 := (allFrom_iff _ _).1 h k (by omega) (by omega)
 unfold pHere
 cases h3 : (s.Units.getD k zTUnit).At == i
 ·rfl
 ·rw [h3] at h1
  simp only [Bool.not_true, Bool.false_or] at h1
  rw [h1]; rfl
theorem here_mem {s : TState} {i x : Int} (h : x ∈ hereAt s i) : ∃ k : Nat, x = (k : Int) ∧ k < s.Units.length ∧ (s.Units.getD k zTUnit).At = i := by
 obtain ⟨k, h1, h2, h3⟩ := idxs_mem.1 h
 exact ⟨k, h3, h1, beq_iff_eq.1 h2⟩
theorem own_all {s : TState} {d i : Int} : (hereAt s i).all (fun k => !((s.Units.getD k.toNat zTUnit).Side != d)) = ownOnly s d i := by
 rw [Bool.eq_iff_iff, List.all_eq_true]
 unfold ownOnly
 rw [allFrom_iff]
 constructor
 ·intro h j _ hj
  cases h3 : (s.Units.getD j zTUnit).At == i
  ·rfl
  ·have := h (j : Int) (idxs_mem.2 ⟨j, by omega, h3, rfl⟩)
   simp only [Int.toNat_natCast, bne, Bool.not_not] at this
   rw [this]; rfl
 ·intro h x hx
  obtain ⟨k, rfl, h1, h2⟩ := here_mem hx
  have := h k (by omega) (by omega)
  rw [h2, beq_self_eq_true, Bool.not_true, Bool.false_or] at this
  simp only [Int.toNat_natCast, bne, Bool.not_not, this]
theorem here_len (s : TState) (i : Int) : (hereAt s i).length ≤ s.Units.length := idxs_len _ _
noncomputable def pFree (b : TBoard) (s : TState) (u : Nat) (i : Int) : Bool :=
 !(pCost b (s.Units.getD u zTUnit).Kind.toNat i.toNat == 0) && (ownOnly s (s.Units.getD u zTUnit).Side i && (((hereAt s i).any fun k => k != (u : Int)) || !(pZone b s (1 - (s.Units.getD u zTUnit).Side) i)))
theorem foldE_two {α : Type} {ρ : Type} (p q : α → Bool) (e : ρ) : ∀ (xs : List α) (a : Bool), foldE (fun (a : Bool) x => bif p x then .inr e else .inl (a || q x)) a xs = bif xs.all (fun x => !(p x)) then .inl (a || xs.any q) else .inr e
 | [], a => by simp [foldE]
 | x :: r, a => by
  unfold foldE
  cases h : p x
  ·simp only [cond_false, foldE_two p q e r, List.all_cons, h, Bool.not_false, Bool.true_and, List.any_cons, Bool.or_assoc]
  ·simp [h]
theorem back_eq {b : TBoard} (hb : pBoard b = true) (q : smTBoard b) {s : TState} (hs : GU b s) {u : Nat} (hu : u < s.Units.length) {i d : Nat} (hi : i < b.Map.Terrain.length) (hd : d < 6) :
  X.s_gBack b s (u : Int) (i : Int) (d : Int) = some (!(decide (pNext b.Map (i : Int) (d : Int) < 0)) && pFree b s u (pNext b.Map (i : Int) (d : Int))) ∧ X.i_canFallBack b s (u : Int) (pNext b.Map (i : Int) (d : Int)) = some (!(decide (pNext b.Map (i : Int) (d : Int) < 0)) && pFree b s u (pNext b.Map (i : Int) (d : Int))) := by
 have hm := mL
 have hU := hs.un
 have hx := pUnit_iff (hs.us u hu)
 obtain ⟨hsd, hl⟩ := sides_of hb
 obtain ⟨_, s2, s3⟩ := size_of hb
 have e1 := (next_eq b.Map hsd (i : Int) (d : Int) (by omega) (by omega)).1
 have hn := pNext_lt hsd (i : Int) (d : Int)
 unfold X.s_gBack X.i_canFallBack
 rw [at_getD hu, e1]
 simp only [obs]
 generalize pNext b.Map (i : Int) (d : Int) = t at hn ⊢
 cases ht : decide (t < 0)
 case true => exact ⟨rfl, rfl⟩
 rw [decide_eq_false_iff_not] at ht
 obtain ⟨k, hk⟩ := Int.eq_ofNat_of_zero_le (show 0 ≤ t by omega)
 have hkl : k < b.Map.Terrain.length := by omega
 obtain ⟨j, hj⟩ := Int.eq_ofNat_of_zero_le hx.2.1
 have hjl : j < b.Rules.Kinds.length := by omega
 subst hk
 obtain ⟨c1, c2, _⟩ := cost_eq hb hjl hkl
 have w1 : W (1 - (s.Units.getD u zTUnit).Side) = 1 - (s.Units.getD u zTUnit).Side := W_of (by omega)
 have hd01 := hx.1
 unfold pFree
 generalize hxx : s.Units.getD u zTUnit = x at hx hj hd01 w1 ⊢
 simp only [cond_false, hj, c1, c2, obs, w1, Int.toNat_natCast, Bool.not_false, Bool.true_and]
 cases hc : pCost b j k == 0
 case true => exact ⟨rfl, rfl⟩
 simp only [cond_false, sAt_eq s _ _ (show s.Units.length ≤ SM by unfold SM; omega), unitsAt_eq s _ (show s.Units.length ≤ SM by unfold SM; omega), obs, own_none hs hd01, (zone_eq hb q hs (1 - x.Side) hkl).1, (zone_eq hb q hs (1 - x.Side) hkl).2, Bool.not_false, Bool.true_and]
 have hh := here_len s (k : Int)
 constructor
 ·cases ho : ownOnly s x.Side (k : Int)
  ·rfl
  cases hz : pZone b s (1 - x.Side) (k : Int)
  ·simp only [Bool.not_true, Bool.not_false, cond_false, cond_true, Bool.or_true, Bool.true_and]
  rw [own_here ho]
  simp only [Bool.not_true, cond_false, Bool.or_false, Bool.true_and]
  rw [run_all (hereAt s (k : Int)) (fun v => !(v != (u : Int))) (.inr true) (.inl ()) rfl ?_ ?_]
  ·have : ((hereAt s (k : Int)).any fun v => v != (u : Int)) = !((hereAt s (k : Int)).all fun v => !(v != (u : Int))) := by simp [List.not_all_eq_any_not]
   rw [this]
   cases (hereAt s (k : Int)).all fun v => !(v != (u : Int)) <;> rfl
  ·intro n hn
   simp only [lt_cast hn, cond_true, at_nat hn, obs, W_up hn (show (hereAt s (k : Int)).length ≤ maxLen by omega)]
   cases ((hereAt s (k : Int))[n] != (u : Int)) <;> rfl
  ·simp only [nlt_self, cond_false]
 ·show (loop _ _).bind _ = _
  rw [run_each (ρ := Bool ⊕ Bool) (hereAt s (k : Int)) (fun n (a : Bool) => ((a, (n : Int)) : Bool × Int)) (fun _ _ => True) (fun (a : Bool) (v : Int) => (bif (s.Units.getD v.toNat zTUnit).Side != x.Side then Sum.inr (Sum.inr false) else Sum.inl (a || (v != (u : Int))) : Bool ⊕ (Bool ⊕ Bool))) Sum.inl false (by rfl) trivial ?_ ?_]
  ·rw [foldE_two (fun v => (s.Units.getD v.toNat zTUnit).Side != x.Side) (fun v => v != (u : Int))]
   rw [own_all]
   cases ho : ownOnly s x.Side (k : Int)
   ·rfl
   ·simp only [cond_true, Bool.false_or, Sum.elim_inl, Bool.true_and]
    cases (hereAt s (k : Int)).any fun v => v != (u : Int) <;> rfl
  ·intro n a hn _
   obtain ⟨m, g1, g2, g3⟩ := here_mem (List.getElem_mem hn)
   simp only [hereAt] at hn
   have hn' : n < (idxs (fun k_1 => (s.Units.getD k_1 zTUnit).At == (k : Int)) s.Units.length).length := hn
   simp only [lt_cast hn', cond_true]
   have e2 : at' zI (idxs (fun k_1 => (s.Units.getD k_1 zTUnit).At == (k : Int)) s.Units.length) (n : Int) = some (m : Int) := by rw [at_nat hn']; exact congrArg some g1
   rw [g1]
   simp only [e2, obs, at_getD g2, Int.toNat_natCast, W_up hn' (show (idxs (fun k_1 => (s.Units.getD k_1 zTUnit).At == (k : Int)) s.Units.length).length ≤ maxLen by have := here_len s (k : Int); unfold hereAt at this; omega)]
   cases (s.Units.getD m zTUnit).Side != x.Side
   ·simp only [cond_false]
    cases a <;> simp
   ·simp only [cond_true]
  ·intro a _
   show (bif decide ((((hereAt s (k : Int)).length : Nat) : Int) < (((hereAt s (k : Int)).length : Nat) : Int)) then _ else _) = _
   rw [nlt_self]; rfl
theorem room_eq {b : TBoard} (hb : pBoard b = true) {s : TState} (hs : GU b s) {d i : Int} (hd : d = 0 ∨ d = 1) (ho : ownOnly s d i = true) :
  X.s_gRoom b s d i = some (decide (((hereAt s i).length : Int) < b.Rules.Stack)) ∧ ∃ v, X.i_stackRoom b s d i = some v ∧ decide (v > 0) = decide (((hereAt s i).length : Int) < b.Rules.Stack) := by
 have hU := hs.un
 have hh := here_len s i
 have hst := (kinds_of hb).2.2.2.2.1
 have w1 : W (1 - d) = 1 - d := W_of (by omega)
 constructor
 ·unfold X.s_gRoom
  have h0 := own_none hs hd i
  rw [ho, Bool.not_true, decide_eq_false_iff_not] at h0
  have h1 : (((idxs (pHere s.Units i (1 - d)) s.Units.length).length : Int) == 0) = true := beq_iff_eq.2 (by omega)
  simp only [w1, sAt_eq s _ _ (show s.Units.length ≤ SM by unfold SM; omega), obs, h1, cond_true, own_here ho]
 ·unfold X.i_stackRoom
  obtain ⟨o1, o2⟩ := own_eq hs i
  rw [o1]
  have h2 : (pOwn s i == W (1 - d)) = false := by
   rw [w1, beq_eq_false_iff_ne]
   rcases o2 with ⟨o3, _⟩ | ⟨k, o3, o4, o5⟩
   ·omega
   ·have := (allFrom_iff _ _).1 ho k (by omega) (by omega)
    rw [o4, beq_self_eq_true, Bool.not_true, Bool.false_or, beq_iff_eq] at this
    omega
  simp only [obs, h2, cond_false, unitsAt_eq s _ (show s.Units.length ≤ SM by unfold SM; omega)]
  refine ⟨_, rfl, ?_⟩
  change (decide (W (b.Rules.Stack - ((hereAt s i).length : Int)) > 0)) = _
  rw [W_of (by omega), decide_eq_decide]
  omega
noncomputable def pOut (b : TBoard) (s : TState) (u : Nat) (i d : Nat) : Bool :=
 (!(decide (pNext b.Map (i : Int) (d : Int) < 0)) && pFree b s u (pNext b.Map (i : Int) (d : Int))) && (pDist (pHex b.Map (s.Units.getD u zTUnit).At) (pHex b.Map (pNext b.Map (i : Int) (d : Int))) == pDist (pHex b.Map (s.Units.getD u zTUnit).At) (pHex b.Map (i : Int)) + 1)
noncomputable def pPaths (b : TBoard) (s : TState) (u : Nat) : Nat → Nat → List Int → List (List Int)
 | 0, i, p => bif decide (((hereAt s (i : Int)).length : Int) < b.Rules.Stack) then [p] else []
 | n + 1, i, p => (List.range 6).flatMap fun d => bif pOut b s u i d then pPaths b s u n (pNext b.Map (i : Int) (d : Int)).toNat (p ++ [(d : Int)]) else []
theorem flat_le {α β : Type} {f : α → List β} {B : Nat} : ∀ l : List α, (∀ x ∈ l, (f x).length ≤ B) → (l.flatMap f).length ≤ B * l.length
 | [], _ => by simp
 | x :: r, h => by
  have h1 := h x (by simp)
  have h2 := flat_le r fun y hy => h y (by simp [hy])
  simp only [List.flatMap_cons, List.length_append, List.length_cons, Nat.mul_add, Nat.mul_one]
  omega
theorem paths_len (b : TBoard) (s : TState) (u : Nat) : ∀ (n i : Nat) (p : List Int), (pPaths b s u n i p).length ≤ 6 ^ n
 | 0, i, p => by unfold pPaths; cases decide (((hereAt s (i : Int)).length : Int) < b.Rules.Stack) <;> simp
 | n + 1, i, p => by
  unfold pPaths
  refine Nat.le_trans (flat_le (B := 6 ^ n) _ fun d _ => ?_) (by simp [Nat.pow_succ])
  cases pOut b s u i d
  ·simp
  ·exact paths_len b s u n _ _
def pWalk (m : TMap) : Int → List Int → Int
 | i, [] => i
 | i, d :: r => pWalk m (pNext m i d) r
def okWalk (b : TBoard) (kind : Nat) : Int → List Int → Prop
 | i, [] => True
 | i, d :: r => (0 ≤ d ∧ d < 6) ∧ (0 ≤ pNext b.Map i d ∧ pNext b.Map i d < (b.Map.Terrain.length : Int) ∧ pCost b kind (pNext b.Map i d).toNat ≠ 0) ∧ okWalk b kind (pNext b.Map i d) r
theorem out_next {b : TBoard} (hb : pBoard b = true) {s : TState} {u i d : Nat} (h : pOut b s u i d = true) : ∃ k : Nat, pNext b.Map (i : Int) (d : Int) = (k : Int) ∧ k < b.Map.Terrain.length ∧ ownOnly s (s.Units.getD u zTUnit).Side (k : Int) = true ∧ pCost b (s.Units.getD u zTUnit).Kind.toNat k ≠ 0 := by
 obtain ⟨hsd, hl⟩ := sides_of hb
 have hn := pNext_lt hsd (i : Int) (d : Int)
 unfold pOut pFree at h
 simp only [Bool.and_eq_true, Bool.not_eq_true', decide_eq_false_iff_not, beq_eq_false_iff_ne] at h
 obtain ⟨⟨h1, h2, h3, _⟩, _⟩ := h
 obtain ⟨k, hk⟩ := Int.eq_ofNat_of_zero_le (show 0 ≤ pNext b.Map (i : Int) (d : Int) by omega)
 rw [hk] at h2 h3
 exact ⟨k, hk, by omega, h3, by simpa using h2⟩
theorem paths_ok {b : TBoard} (hb : pBoard b = true) {s : TState} {u : Nat} : ∀ (n i : Nat) (p : List Int), i < b.Map.Terrain.length → ∀ x ∈ pPaths b s u n i p, ∃ q, x = p ++ q ∧ q.length = n ∧ okWalk b (s.Units.getD u zTUnit).Kind.toNat (i : Int) q
 | 0, i, p, _, x, hx => by
  unfold pPaths at hx
  cases h : decide (((hereAt s (i : Int)).length : Int) < b.Rules.Stack)
  ·rw [h] at hx; cases hx
  ·rw [h] at hx
   obtain rfl := List.mem_singleton.1 hx
   exact ⟨[], by simp, rfl, trivial⟩
 | n + 1, i, p, hi, x, hx => by
  unfold pPaths at hx
  obtain ⟨d, hd, hx⟩ := List.mem_flatMap.1 hx
  have hd6 := List.mem_range.1 hd
  cases ho : pOut b s u i d
  ·rw [ho] at hx; cases hx
  ·rw [ho, cond_true] at hx
   obtain ⟨k, hk, hkl, _, hc⟩ := out_next hb ho
   rw [hk, Int.toNat_natCast] at hx
   obtain ⟨q, h1, h2, h3⟩ := paths_ok hb n k _ hkl x hx
   refine ⟨(d : Int) :: q, by rw [h1]; simp, by simp [h2], by omega, ?_, ?_⟩
   ·rw [hk, Int.toNat_natCast]; exact ⟨by omega, by omega, hc⟩
   ·rw [hk]; exact h3
theorem clone_int {l : List Int} (h : l.length ≤ LIM) : X.g_Clone_int l = some l := by
 simp only [X.g_Clone_int, List.nil_append, if_pos h]
theorem gpaths_eq {b : TBoard} (hb : pBoard b = true) (q : smTBoard b) {s : TState} (hs : GU b s) {u : Nat} (hu : u < s.Units.length) {a : Nat} (ha : (s.Units.getD u zTUnit).At = (a : Int)) (hal : a < b.Map.Terrain.length) :
  ∀ (n : Nat), n ≤ 3 → ∀ (i : Nat) (p : List Int) (fuel : Nat), i < b.Map.Terrain.length → p.length + n ≤ 10 → n < fuel → (n = 0 → ownOnly s (s.Units.getD u zTUnit).Side (i : Int) = true) →
   X.s_gPaths_Mdddddo fuel b s (u : Int) (i : Int) (n : Int) p = some (pPaths b s u n i p, p) := by
 obtain ⟨hsd, hl⟩ := sides_of hb
 obtain ⟨_, s2, s3⟩ := size_of hb
 have hx := pUnit_iff (hs.us u hu)
 intro n
 induction n with
 | zero =>
  intro _ i p fuel hi hp hf ho
  obtain ⟨f, rfl⟩ : ∃ f, fuel = f + 1 := ⟨fuel - 1, by omega⟩
  have e : p.length ≤ LIM := by unfold LIM; omega
  rw [X.s_gPaths_Mdddddo.eq_2, at_getD hu]
  simp only [obs, Int.ofNat_zero, beq_self_eq_true, cond_true, (room_eq hb hs hx.1 (ho rfl)).1, X.s_l1Own_Mo, List.nil_append, if_pos e, pPaths, if_true]
  first | (cases decide (((hereAt s (i : Int)).length : Int) < b.Rules.Stack) <;> rfl) | (cases decide (((hereAt s (i : Int)).length : Int) < b.Rules.Stack) <;> simp)
 | succ n ih =>
  intro hn i p fuel hi hp hf _
  obtain ⟨f, rfl⟩ : ∃ f, fuel = f + 1 := ⟨fuel - 1, by omega⟩
  have e0 : (((n + 1 : Nat) : Int) == 0) = false := beq_eq_false_iff_ne.2 (by omega)
  have e1 : W (((n + 1 : Nat) : Int) - 1) = (n : Int) := by rw [W_of (by omega)]; omega
  have ep : p.length ≤ LIM := by unfold LIM; omega
  have ha2 := hexAt_eq hsd (i := (a : Int)) (by omega)
  have hi2 := hexAt_eq hsd (i := (i : Int)) (by omega)
  rw [X.s_gPaths_Mdddddo.eq_2, at_getD hu]
  simp only [obs, e0, cond_false]
  rw [run_st 6 (fun k => ((k : Int), ((List.range k).flatMap fun d => bif pOut b s u i d then pPaths b s u n (pNext b.Map (i : Int) (d : Int)).toNat (p ++ [(d : Int)]) else []), p)) (pPaths b s u (n + 1) i p, p) (by rfl) ?_ ?_]
  ·intro k hk
   have h6 : (k : Int) < 6 := by omega
   have hlen : ((List.range k).flatMap fun d => bif pOut b s u i d then pPaths b s u n (pNext b.Map (i : Int) (d : Int)).toNat (p ++ [(d : Int)]) else []).length ≤ 6 ^ n * k := by
    refine Nat.le_trans (flat_le (B := 6 ^ n) _ fun d _ => ?_) (by simp)
    cases pOut b s u i d
    ·simp
    ·exact paths_len b s u n _ _
   have hpw : 6 ^ n ≤ 36 := Nat.le_trans (Nat.pow_le_pow_right (by omega) (show n ≤ 2 by omega)) (by decide)
   have hlen2 : 6 ^ n * k ≤ 36 * 6 := Nat.mul_le_mul hpw (by omega)
   have e2 := (next_eq b.Map hsd (i : Int) (k : Int) (by omega) (by omega)).1
   simp only [decide_eq_true h6, cond_true, (back_eq hb q hs hu hi hk).1, e2, obs, W_succ (show k < 4611686018427387904 by omega), List.range_succ, List.flatMap_append, List.flatMap_cons, List.flatMap_nil, List.append_nil]
   cases hc : (!(decide (pNext b.Map (i : Int) (k : Int) < 0)) && pFree b s u (pNext b.Map (i : Int) (k : Int)))
   ·have : pOut b s u i k = false := by unfold pOut; rw [hc]; rfl
    simp only [this, Bool.not_false, cond_true, cond_false, List.append_nil]
   ·have hnn : ¬ pNext b.Map (i : Int) (k : Int) < 0 := by
     rw [Bool.and_eq_true, Bool.not_eq_true', decide_eq_false_iff_not] at hc; exact hc.1
    have hlt := pNext_lt hsd (i : Int) (k : Int)
    have hn2 := hexAt_eq hsd (i := pNext b.Map (i : Int) (k : Int)) (by omega)
    have d1 := dist_eq (a := pHex b.Map (a : Int)) (b := pHex b.Map (pNext b.Map (i : Int) (k : Int))) (by omega) (by omega)
    have d2 := dist_eq (a := pHex b.Map (a : Int)) (b := pHex b.Map (i : Int)) (by omega) (by omega)
    simp only [Bool.not_true, cond_false, ha, ha2.1, hi2.1, hn2.1, d1.1, d2.1, obs]
    rw [W_of (n := pDist (pHex b.Map (a : Int)) (pHex b.Map (i : Int)) + 1) (by omega)]
    cases he : pDist (pHex b.Map (a : Int)) (pHex b.Map (pNext b.Map (i : Int) (k : Int))) == pDist (pHex b.Map (a : Int)) (pHex b.Map (i : Int)) + 1
    ·have : pOut b s u i k = false := by unfold pOut; rw [ha, he, Bool.and_false]
     simp only [this, cond_false, List.append_nil]
    ·have hot : pOut b s u i k = true := by unfold pOut; rw [ha, he, hc]; rfl
     obtain ⟨m, hm, hml, hmo, _⟩ := out_next hb hot
     have ed : (p ++ ([(k : Int)] : List Int)).length ≤ LIM := by simp; unfold LIM; omega
     have hih := ih (by omega) m (p ++ [(k : Int)]) f hml (by simp; omega) (by omega) (fun _ => hmo)
     have hpl := paths_len b s u n m (p ++ [(k : Int)])
     simp only [cond_true, X.s_l1Own_Mo, List.nil_append, if_pos ep, obs, if_true, if_pos ed, e1, hm, hih, hot, Int.toNat_natCast]
     rw [if_pos (by rw [List.length_append]; unfold LIM; omega)]
  ·rfl
theorem gpaths_top {b : TBoard} (hb : pBoard b = true) (q : smTBoard b) {s : TState} (hs : GU b s) {u : Nat} (hu : u < s.Units.length) {a : Nat} (ha : (s.Units.getD u zTUnit).At = (a : Int)) (hal : a < b.Map.Terrain.length) {n : Nat} (hn : n + 1 ≤ 3) :
  X.s_gPaths 64 b s (u : Int) (a : Int) ((n + 1 : Nat) : Int) [] = some (pPaths b s u (n + 1) a []) := by
 obtain ⟨hsd, hl⟩ := sides_of hb
 obtain ⟨_, s2, s3⟩ := size_of hb
 have hx := pUnit_iff (hs.us u hu)
 have e0 : (((n + 1 : Nat) : Int) == 0) = false := beq_eq_false_iff_ne.2 (by omega)
 have e1 : W (((n + 1 : Nat) : Int) - 1) = (n : Int) := by rw [W_of (by omega)]; omega
 have ep : ([] : List Int).length ≤ LIM := Nat.zero_le _
 have ha2 := hexAt_eq hsd (i := (a : Int)) (by omega)
 show X.s_gPaths (63 + 1) b s (u : Int) (a : Int) ((n + 1 : Nat) : Int) [] = _
 rw [X.s_gPaths.eq_2, at_getD hu]
 simp only [obs, e0, cond_false]
 rw [run_st 6 (fun k => ((k : Int), ((List.range k).flatMap fun d => bif pOut b s u a d then pPaths b s u n (pNext b.Map (a : Int) (d : Int)).toNat (([] : List Int) ++ [(d : Int)]) else []))) (pPaths b s u (n + 1) a []) (by rfl) ?_ ?_]
 ·intro k hk
  have h6 : (k : Int) < 6 := by omega
  have hlen : ((List.range k).flatMap fun d => bif pOut b s u a d then pPaths b s u n (pNext b.Map (a : Int) (d : Int)).toNat (([] : List Int) ++ [(d : Int)]) else []).length ≤ 6 ^ n * k := by
   refine Nat.le_trans (flat_le (B := 6 ^ n) _ fun d _ => ?_) (by simp)
   cases pOut b s u a d
   ·simp
   ·exact paths_len b s u n _ _
  have hpw : 6 ^ n ≤ 36 := Nat.le_trans (Nat.pow_le_pow_right (by omega) (show n ≤ 2 by omega)) (by decide)
  have hlen2 : 6 ^ n * k ≤ 36 * 6 := Nat.mul_le_mul hpw (by omega)
  have e2 := (next_eq b.Map hsd (a : Int) (k : Int) (by omega) (by omega)).1
  simp only [decide_eq_true h6, cond_true, (back_eq hb q hs hu hal hk).1, e2, obs, W_succ (show k < 4611686018427387904 by omega), List.range_succ, List.flatMap_append, List.flatMap_cons, List.flatMap_nil, List.append_nil]
  cases hc : (!(decide (pNext b.Map (a : Int) (k : Int) < 0)) && pFree b s u (pNext b.Map (a : Int) (k : Int)))
  ·have : pOut b s u a k = false := by unfold pOut; rw [hc]; rfl
   simp only [this, Bool.not_false, cond_true, cond_false, List.append_nil]
  ·have hnn : ¬ pNext b.Map (a : Int) (k : Int) < 0 := by
    rw [Bool.and_eq_true, Bool.not_eq_true', decide_eq_false_iff_not] at hc; exact hc.1
   have hlt := pNext_lt hsd (a : Int) (k : Int)
   have hn2 := hexAt_eq hsd (i := pNext b.Map (a : Int) (k : Int)) (by omega)
   have d1 := dist_eq (a := pHex b.Map (a : Int)) (b := pHex b.Map (pNext b.Map (a : Int) (k : Int))) (by omega) (by omega)
   have d2 := dist_eq (a := pHex b.Map (a : Int)) (b := pHex b.Map (a : Int)) (by omega) (by omega)
   simp only [Bool.not_true, cond_false, ha, ha2.1, ha2.1, hn2.1, d1.1, d2.1, obs]
   rw [W_of (n := pDist (pHex b.Map (a : Int)) (pHex b.Map (a : Int)) + 1) (by omega)]
   cases he : pDist (pHex b.Map (a : Int)) (pHex b.Map (pNext b.Map (a : Int) (k : Int))) == pDist (pHex b.Map (a : Int)) (pHex b.Map (a : Int)) + 1
   ·have : pOut b s u a k = false := by unfold pOut; rw [ha, he, Bool.and_false]
    simp only [this, cond_false, List.append_nil]
   ·have hot : pOut b s u a k = true := by unfold pOut; rw [ha, he, hc]; rfl
    obtain ⟨m, hm, hml, hmo, _⟩ := out_next hb hot
    have ed : ([(k : Int)] : List Int).length ≤ LIM := by simp; unfold LIM; omega
    have hih := gpaths_eq hb q hs hu ha hal n (by omega) m ([] ++ [(k : Int)]) 64 hml (by simp; omega) (by omega) (fun _ => hmo)
    have hpl := paths_len b s u n m (([] : List Int) ++ [(k : Int)])
    simp only [List.nil_append] at hih hpl hlen
    simp only [cond_true, X.s_l1Own, List.nil_append, if_pos ep, obs, if_true, if_pos ed, e1, hm, hih, hot, Int.toNat_natCast]
    rw [if_pos (by rw [List.length_append]; unfold LIM; omega)]
 ·rfl
theorem from_eq {b : TBoard} (hb : pBoard b = true) (q : smTBoard b) {s : TState} (hs : GU b s) {u : Nat} (hu : u < s.Units.length) {a : Nat} (ha : (s.Units.getD u zTUnit).At = (a : Int)) (hal : a < b.Map.Terrain.length) :
  ∀ (n : Nat), n ≤ 3 → ∀ (i : Nat) (p : List Int) (out : List (List Int)) (fuel : Nat), out.length + 6 ^ n ≤ 10000 → i < b.Map.Terrain.length → p.length + n ≤ 10 → n < fuel → (n = 0 → ownOnly s (s.Units.getD u zTUnit).Side (i : Int) = true) →
   X.i_retreatsFrom_Mdddddzc fuel b s (u : Int) (i : Int) (n : Int) p out = some (out ++ pPaths b s u n i p, p) := by
 obtain ⟨hsd, hl⟩ := sides_of hb
 obtain ⟨_, s2, s3⟩ := size_of hb
 have hx := pUnit_iff (hs.us u hu)
 intro n
 induction n with
 | zero =>
  intro _ i p out fuel hol hi hp hf ho
  obtain ⟨f, rfl⟩ : ∃ f, fuel = f + 1 := ⟨fuel - 1, by omega⟩
  have e : p.length ≤ LIM := by unfold LIM; omega
  have eo : (out ++ [p]).length ≤ LIM := by simp; unfold LIM; omega
  have ha2 := hexAt_eq hsd (i := (a : Int)) (by omega)
  obtain ⟨v, g1, g2⟩ := (room_eq hb hs hx.1 (ho rfl)).2
  rw [X.i_retreatsFrom_Mdddddzc.eq_2, at_getD hu]
  simp only [obs, ha, ha2.2.1, Int.ofNat_zero, beq_self_eq_true, cond_true, g1, g2, clone_int e, pPaths]
  cases decide (((hereAt s (i : Int)).length : Int) < b.Rules.Stack)
  ·simp only [cond_false, List.append_nil]
  ·simp only [cond_true, if_pos eo]
 | succ n ih =>
  intro hn i p out fuel hol hi hp hf _
  obtain ⟨f, rfl⟩ : ∃ f, fuel = f + 1 := ⟨fuel - 1, by omega⟩
  have e0 : (((n + 1 : Nat) : Int) == 0) = false := beq_eq_false_iff_ne.2 (by omega)
  have e1 : W (((n + 1 : Nat) : Int) - 1) = (n : Int) := by rw [W_of (by omega)]; omega
  have ep : p.length ≤ LIM := by unfold LIM; omega
  have ha2 := hexAt_eq hsd (i := (a : Int)) (by omega)
  have hi2 := hexAt_eq hsd (i := (i : Int)) (by omega)
  rw [X.i_retreatsFrom_Mdddddzc.eq_2, at_getD hu]
  simp only [obs, ha, ha2.2.1, e0, cond_false]
  rw [run_st 6 (fun k => ((k : Int), out ++ ((List.range k).flatMap fun d => bif pOut b s u i d then pPaths b s u n (pNext b.Map (i : Int) (d : Int)).toNat (p ++ [(d : Int)]) else []))) (out ++ pPaths b s u (n + 1) i p) (by simp) ?_ ?_]
  ·intro k hk
   have h6 : (k : Int) < 6 := by omega
   have hlen : ((List.range k).flatMap fun d => bif pOut b s u i d then pPaths b s u n (pNext b.Map (i : Int) (d : Int)).toNat (p ++ [(d : Int)]) else []).length ≤ 6 ^ n * k := by
    refine Nat.le_trans (flat_le (B := 6 ^ n) _ fun d _ => ?_) (by simp)
    cases pOut b s u i d
    ·simp
    ·exact paths_len b s u n _ _
   have hpw : 6 ^ n ≤ 36 := Nat.le_trans (Nat.pow_le_pow_right (by omega) (show n ≤ 2 by omega)) (by decide)
   have hlen2 : 6 ^ n * k ≤ 36 * 6 := Nat.mul_le_mul hpw (by omega)
   have e2 := (next_eq b.Map hsd (i : Int) (k : Int) (by omega) (by omega)).2
   simp only [decide_eq_true h6, cond_true, (back_eq hb q hs hu hi hk).2, e2, obs, W_succ (show k < 4611686018427387904 by omega), List.range_succ, List.flatMap_append, List.flatMap_cons, List.flatMap_nil, List.append_nil]
   cases hc : (!(decide (pNext b.Map (i : Int) (k : Int) < 0)) && pFree b s u (pNext b.Map (i : Int) (k : Int)))
   ·have : pOut b s u i k = false := by unfold pOut; rw [hc]; rfl
    simp only [this, cond_false, List.append_nil]
   ·have hnn : ¬ pNext b.Map (i : Int) (k : Int) < 0 := by
     rw [Bool.and_eq_true, Bool.not_eq_true', decide_eq_false_iff_not] at hc; exact hc.1
    have hlt := pNext_lt hsd (i : Int) (k : Int)
    have hn2 := hexAt_eq hsd (i := pNext b.Map (i : Int) (k : Int)) (by omega)
    have d1 := dist_eq (a := pHex b.Map (a : Int)) (b := pHex b.Map (pNext b.Map (i : Int) (k : Int))) (by omega) (by omega)
    have d2 := dist_eq (a := pHex b.Map (a : Int)) (b := pHex b.Map (i : Int)) (by omega) (by omega)
    simp only [cond_true, hi2.2.1, hn2.2.1, d1.2.1, d2.2.1, obs]
    rw [W_of (n := pDist (pHex b.Map (a : Int)) (pHex b.Map (i : Int)) + 1) (by omega)]
    cases he : pDist (pHex b.Map (a : Int)) (pHex b.Map (pNext b.Map (i : Int) (k : Int))) == pDist (pHex b.Map (a : Int)) (pHex b.Map (i : Int)) + 1
    ·have : pOut b s u i k = false := by unfold pOut; rw [ha, he, Bool.and_false]
     simp only [this, cond_false, List.append_nil]
    ·have hot : pOut b s u i k = true := by unfold pOut; rw [ha, he, hc]; rfl
     obtain ⟨m, hm, hml, hmo, _⟩ := out_next hb hot
     have ed : (p ++ ([(k : Int)] : List Int)).length ≤ LIM := by simp; unfold LIM; omega
     have hol2 : (out ++ ((List.range k).flatMap fun d => bif pOut b s u i d then pPaths b s u n (pNext b.Map (i : Int) (d : Int)).toNat (p ++ [(d : Int)]) else [])).length + 6 ^ n ≤ 10000 := by
      rw [List.length_append]
      have e6 : 6 ^ (n + 1) = 6 ^ n * 6 := Nat.pow_succ ..
      have : 6 ^ n * k + 6 ^ n ≤ 6 ^ n * 6 := by rw [← Nat.mul_succ]; exact Nat.mul_le_mul_left _ (by omega)
      omega
     have hih := ih (by omega) m (p ++ [(k : Int)]) _ f hol2 hml (by simp; omega) (by omega) (fun _ => hmo)
     simp only [cond_true, clone_int ep, obs, if_pos ed, e1, hm, hih, hot, Int.toNat_natCast, if_true, List.append_assoc]
  ·rfl
theorem from_top {b : TBoard} (hb : pBoard b = true) (q : smTBoard b) {s : TState} (hs : GU b s) {u : Nat} (hu : u < s.Units.length) {a : Nat} (ha : (s.Units.getD u zTUnit).At = (a : Int)) (hal : a < b.Map.Terrain.length) {n : Nat} (hn : n + 1 ≤ 3) :
  X.i_retreatsFrom_Mddddddn 64 b s (u : Int) (a : Int) ((n + 1 : Nat) : Int) [] = some (pPaths b s u (n + 1) a []) := by
 obtain ⟨hsd, hl⟩ := sides_of hb
 obtain ⟨_, s2, s3⟩ := size_of hb
 have hx := pUnit_iff (hs.us u hu)
 have e0 : (((n + 1 : Nat) : Int) == 0) = false := beq_eq_false_iff_ne.2 (by omega)
 have e1 : W (((n + 1 : Nat) : Int) - 1) = (n : Int) := by rw [W_of (by omega)]; omega
 have ep : ([] : List Int).length ≤ LIM := Nat.zero_le _
 have ha2 := hexAt_eq hsd (i := (a : Int)) (by omega)
 show X.i_retreatsFrom_Mddddddn (63 + 1) b s (u : Int) (a : Int) ((n + 1 : Nat) : Int) [] = _
 rw [X.i_retreatsFrom_Mddddddn.eq_2, at_getD hu]
 simp only [obs, ha, ha2.2.1, e0, cond_false]
 rw [run_st 6 (fun k => ((k : Int), (List.range k).flatMap fun d => bif pOut b s u a d then pPaths b s u n (pNext b.Map (a : Int) (d : Int)).toNat (([] : List Int) ++ [(d : Int)]) else [])) (pPaths b s u (n + 1) a []) (by rfl) ?_ ?_]
 ·intro k hk
  have h6 : (k : Int) < 6 := by omega
  have hlen : ((List.range k).flatMap fun d => bif pOut b s u a d then pPaths b s u n (pNext b.Map (a : Int) (d : Int)).toNat (([] : List Int) ++ [(d : Int)]) else []).length ≤ 6 ^ n * k := by
   refine Nat.le_trans (flat_le (B := 6 ^ n) _ fun d _ => ?_) (by simp)
   cases pOut b s u a d
   ·simp
   ·exact paths_len b s u n _ _
  have hpw : 6 ^ n ≤ 36 := Nat.le_trans (Nat.pow_le_pow_right (by omega) (show n ≤ 2 by omega)) (by decide)
  have hlen2 : 6 ^ n * k ≤ 36 * 6 := Nat.mul_le_mul hpw (by omega)
  have e2 := (next_eq b.Map hsd (a : Int) (k : Int) (by omega) (by omega)).2
  simp only [decide_eq_true h6, cond_true, (back_eq hb q hs hu hal hk).2, e2, obs, W_succ (show k < 4611686018427387904 by omega), List.range_succ, List.flatMap_append, List.flatMap_cons, List.flatMap_nil, List.append_nil]
  cases hc : (!(decide (pNext b.Map (a : Int) (k : Int) < 0)) && pFree b s u (pNext b.Map (a : Int) (k : Int)))
  ·have : pOut b s u a k = false := by unfold pOut; rw [hc]; rfl
   simp only [this, cond_false, List.append_nil]
  ·have hnn : ¬ pNext b.Map (a : Int) (k : Int) < 0 := by
    rw [Bool.and_eq_true, Bool.not_eq_true', decide_eq_false_iff_not] at hc; exact hc.1
   have hlt := pNext_lt hsd (a : Int) (k : Int)
   have hn2 := hexAt_eq hsd (i := pNext b.Map (a : Int) (k : Int)) (by omega)
   have d1 := dist_eq (a := pHex b.Map (a : Int)) (b := pHex b.Map (pNext b.Map (a : Int) (k : Int))) (by omega) (by omega)
   have d2 := dist_eq (a := pHex b.Map (a : Int)) (b := pHex b.Map (a : Int)) (by omega) (by omega)
   simp only [cond_true, ha2.2.1, hn2.2.1, d1.2.1, d2.2.1, obs]
   rw [W_of (n := pDist (pHex b.Map (a : Int)) (pHex b.Map (a : Int)) + 1) (by omega)]
   cases he : pDist (pHex b.Map (a : Int)) (pHex b.Map (pNext b.Map (a : Int) (k : Int))) == pDist (pHex b.Map (a : Int)) (pHex b.Map (a : Int)) + 1
   ·have : pOut b s u a k = false := by unfold pOut; rw [ha, he, Bool.and_false]
    simp only [this, cond_false, List.append_nil]
   ·have hot : pOut b s u a k = true := by unfold pOut; rw [ha, he, hc]; rfl
    obtain ⟨m, hm, hml, hmo, _⟩ := out_next hb hot
    have ed : (([] : List Int) ++ ([(k : Int)] : List Int)).length ≤ LIM := by simp; unfold LIM; omega
    have hol2 : ((List.range k).flatMap fun d => bif pOut b s u a d then pPaths b s u n (pNext b.Map (a : Int) (d : Int)).toNat (([] : List Int) ++ [(d : Int)]) else []).length + 6 ^ n ≤ 10000 := by
     omega
    have hih := from_eq hb q hs hu ha hal n (by omega) m (([] : List Int) ++ [(k : Int)]) _ 64 hol2 hml (by simp; omega) (by omega) (fun _ => hmo)
    simp only [cond_true, clone_int ep, obs, if_pos ed, e1, hm, hih, hot, Int.toNat_natCast, if_true, List.append_assoc]
 ·rfl
theorem walk_snoc (m : TMap) : ∀ (q : List Int) (i d : Int), pWalk m i (q ++ [d]) = pNext m (pWalk m i q) d
 | [], _, _ => rfl
 | x :: r, i, d => walk_snoc m r (pNext m i x) d
theorem walk_take (m : TMap) (q : List Int) (i : Int) {k : Nat} (h : k < q.length) : pWalk m i (q.take (k + 1)) = pNext m (pWalk m i (q.take k)) q[k] := by
 rw [List.take_succ_eq_append_getElem h, walk_snoc]
theorem okWalk_get {b : TBoard} {kind : Nat} : ∀ (q : List Int) (i : Int), okWalk b kind i q → ∀ (k : Nat) (h : k < q.length), (0 ≤ q[k] ∧ q[k] < 6) ∧ 0 ≤ pWalk b.Map i (q.take (k + 1)) ∧ pWalk b.Map i (q.take (k + 1)) < (b.Map.Terrain.length : Int) ∧ pCost b kind (pWalk b.Map i (q.take (k + 1))).toNat ≠ 0
 | [], _, _, k, h => by simp at h
 | x :: r, i, ⟨h1, h2, h3⟩, 0, h => ⟨h1, h2⟩
 | x :: r, i, ⟨h1, h2, h3⟩, k + 1, h => okWalk_get r (pNext b.Map i x) h3 k (by simpa using h)
theorem okWalk_in {b : TBoard} {kind : Nat} {q : List Int} {i : Int} (h : okWalk b kind i q) (hi : 0 ≤ i ∧ i < (b.Map.Terrain.length : Int)) : ∀ (k : Nat), k ≤ q.length → 0 ≤ pWalk b.Map i (q.take k) ∧ pWalk b.Map i (q.take k) < (b.Map.Terrain.length : Int)
 | 0, _ => by simpa [pWalk] using hi
 | k + 1, hk => ⟨(okWalk_get q i h k (by omega)).2.1, (okWalk_get q i h k (by omega)).2.2.1⟩
theorem fdo_nil (s : TState) (h : s.Units.length ≤ LIM) : X.s_fDo s ([] : List TAttempt) = some s := by
 unfold X.s_fDo
 rw [List.nil_append, if_pos h]
 rw [run_st 0 (fun k => ((k : Int), s.Units)) s.Units (by rfl) (fun k hk => absurd hk (Nat.not_lt_zero k)) (by rfl)]
def moved (x : TUnit) (t : Int) : TUnit := ⟨x.Side, x.Kind, t, x.Steps⟩
theorem moved_good {b : TBoard} {x : TUnit} {t : Int} (h : pUnit b x = true) (h0 : 0 ≤ x.At) (ht : 0 ≤ t ∧ t < (b.Map.Terrain.length : Int)) (hc : 0 < pCost b x.Kind.toNat t.toNat) : pUnit b (moved x t) = true := by
 have h1 := pUnit_iff h
 unfold pUnit at h ⊢
 unfold moved
 simp only [Bool.and_eq_true, Bool.or_eq_true, pIn_iff, beq_iff_eq, decide_eq_true_eq] at h ⊢
 refine ⟨by omega, by omega, by omega, .inr ⟨by omega, by omega, hc⟩⟩
theorem getD_ne {l : List TUnit} {u k : Nat} {a : TUnit} (h : k ≠ u) : (l.set u a).getD k zTUnit = l.getD k zTUnit := by
 simp only [List.getD]; rw [List.getElem?_set_ne (fun e => h e.symm)]
theorem set_good {b : TBoard} {s : TState} (hs : GU b s) {u : Nat} {a : TUnit} (ha : pUnit b a = true) : ∀ k, k < s.Units.length → pUnit b ((s.Units.set u a).getD k zTUnit) = true := fun k hk => by
 by_cases e : k = u
 ·subst e; rw [getD_set hk]; exact ha
 ·rw [getD_ne e]; exact hs.us k hk
theorem retreat_eq {b : TBoard} (hb : pBoard b = true) (q : smTBoard b) {s : TState} (hs : GU b s) {u : Nat} (hu : u < s.Units.length) (hat : 0 ≤ (s.Units.getD u zTUnit).At) {n : Nat} (hn : 1 ≤ n ∧ n ≤ 3) :
  ∃ us w, X.s_gRetreat b s (u : Int) (n : Int) = some (TState.mk s.Turn s.Weather us, w) ∧ X.i_retreatUnit_Mdzdd b s (u : Int) (n : Int) = some (TState.mk s.Turn s.Weather us, w, s) ∧ us.length = s.Units.length ∧
   (∀ k, k < s.Units.length → pUnit b (us.getD k zTUnit) = true) ∧ ∀ k, k ≠ u → us.getD k zTUnit = s.Units.getD k zTUnit := by
 have hm := mL
 have hU := hs.un
 have hx := pUnit_iff (hs.us u hu)
 obtain ⟨hsd, hl⟩ := sides_of hb
 obtain ⟨_, s2, s3⟩ := size_of hb
 obtain ⟨a, ha⟩ := Int.eq_ofNat_of_zero_le hat
 obtain ⟨m, rfl⟩ : ∃ m, n = m + 1 := ⟨n - 1, by omega⟩
 have hal : a < b.Map.Terrain.length := by omega
 have fl : s.Units.length ≤ LIM := by unfold LIM; omega
 have hpo := paths_ok hb (s := s) (u := u) (m + 1) a [] hal
 have g1 := gpaths_top hb q hs hu ha hal (show m + 1 ≤ 3 by omega)
 have g2 := from_top hb q hs hu ha hal (show m + 1 ≤ 3 by omega)
 unfold X.s_gRetreat X.i_retreatUnit_Mdzdd X.s_gAll X.i_retreatsOf
 rw [fdo_nil s fl, at_getD hu]
 simp only [obs, ha, g1, g2, X.i_cloneState, X.g_Clone_Unit, List.nil_append, if_pos fl]
 generalize pPaths b s u (m + 1) a [] = L at hpo ⊢
 cases L with
 | nil =>
  obtain ⟨l1, l2⟩ := lose_eq (b := b) s hu (hs.us u hu) hb
  have l3 : X.i_loseSteps_Modd (TState.mk s.Turn s.Weather s.Units) (u : Int) 1 = _ := l2
  have e0 : ((([] : List (List Int)).length : Int) == 0) = true := rfl
  simp only [e0, cond_true, l1, l3, obs, List.length_set, if_true]
  exact ⟨_, _, rfl, rfl, by simp, set_good hs (pLose_good (hs.us u hu)), fun k hk => getD_ne hk⟩
 | cons p r =>
  obtain ⟨p', h1, h2, h3⟩ := hpo p (by simp)
  rw [List.nil_append] at h1
  subst h1
  have e0 : (((p :: r).length : Int) == 0) = false := beq_eq_false_iff_ne.2 (by simp only [List.length_cons]; omega)
  have e1 : at' zLI (p :: r) 0 = some p := at_nat (z := zLI) (xs := p :: r) (k := 0) (by simp)
  have hin := okWalk_in h3 (show 0 ≤ (a : Int) ∧ (a : Int) < (b.Map.Terrain.length : Int) by omega)
  have hself : s.Units.set u (moved (s.Units.getD u zTUnit) (a : Int)) = s.Units := by
   have : moved (s.Units.getD u zTUnit) (a : Int) = s.Units.getD u zTUnit := by unfold moved; rw [← ha]
   rw [this]
   have : s.Units.getD u zTUnit = s.Units[u] := by simp [List.getD, hu]
   rw [this, List.set_getElem_self]
  have hex : X.i_pathHexes b.Map (a : Int) p = some ((List.range p.length).map fun j => pWalk b.Map (a : Int) (p.take (j + 1)), true) := by
   unfold X.i_pathHexes
   rw [run_st p.length (fun k => (pWalk b.Map (a : Int) (p.take k), (k : Int), (List.range k).map fun j => pWalk b.Map (a : Int) (p.take (j + 1)))) (Sum.inl ((List.range p.length).map fun j => pWalk b.Map (a : Int) (p.take (j + 1)))) (by rfl) ?_ ?_]
   ·rfl
   ·intro k hk
    have w1 := hin k (by omega)
    have w2 := okWalk_get p _ h3 k hk
    have e2 := (next_eq b.Map hsd (pWalk b.Map (a : Int) (p.take k)) p[k] (by omega) w2.1).2
    have e3 := walk_take b.Map p (a : Int) hk
    rw [e3] at w2
    have e4 : decide (pNext b.Map (pWalk b.Map (a : Int) (p.take k)) p[k] < 0) = false := decide_eq_false (by omega)
    simp only [lt_cast hk, cond_true, at_nat hk, obs, e2, e4, cond_false, W_succ (show k < 4611686018427387904 by omega), List.range_succ, List.map_append, List.map_cons, List.map_nil, e3]
    rw [if_pos (by simp; unfold LIM; omega)]
   ·simp only [nlt_self, cond_false]
  have hlast : at' zI ((List.range p.length).map fun j => pWalk b.Map (a : Int) (p.take (j + 1))) (W ((((List.range p.length).map fun j => pWalk b.Map (a : Int) (p.take (j + 1))).length : Int) - 1)) = some (pWalk b.Map (a : Int) p) := by
   have e2 : W ((((List.range p.length).map fun j => pWalk b.Map (a : Int) (p.take (j + 1))).length : Int) - 1) = (m : Int) := by
    rw [List.length_map, List.length_range, h2, W_of (by omega)]; omega
   rw [e2, at_nat (by simp; omega)]
   simp only [List.getElem_map, List.getElem_range]
   rw [List.take_of_length_le (by omega)]
  have hup : 0 ≤ (u : Int) ∧ (u : Int) < (s.Units.length : Int) := by omega
  have wl := okWalk_get p _ h3 m (by omega)
  rw [List.take_of_length_le (show p.length ≤ m + 1 by omega)] at wl
  simp only [e0, cond_false, e1, obs, hex, hlast, if_pos hup, ha]
  rw [run_st p.length (fun k => ((k : Int), s.Units.set u (moved (s.Units.getD u zTUnit) (pWalk b.Map (a : Int) (p.take k))))) (s.Units.set u (moved (s.Units.getD u zTUnit) (pWalk b.Map (a : Int) p))) (by rw [List.take_zero]; exact Prod.ext rfl hself.symm) ?_ ?_]
  ·refine ⟨_, _, rfl, rfl, by simp, set_good hs (moved_good (hs.us u hu) hat ⟨wl.2.1, wl.2.2.1⟩ ?_), fun k hk => getD_ne hk⟩
   obtain ⟨j, hj⟩ := Int.eq_ofNat_of_zero_le hx.2.1
   have h0 := wl.2.2.2
   obtain ⟨t, ht⟩ := Int.eq_ofNat_of_zero_le wl.2.1
   have := (cost_eq hb (k := j) (i := t) (by omega) (by omega)).2.2
   rw [ht, hj] at h0 ⊢
   simp only [Int.toNat_natCast] at h0 ⊢
   omega
  ·intro k hk
   have w1 := hin k (by omega)
   have w2 := okWalk_get p _ h3 k hk
   have e2 := (next_eq b.Map hsd (pWalk b.Map (a : Int) (p.take k)) p[k] (by omega) w2.1).1
   have e3 := walk_take b.Map p (a : Int) hk
   simp only [lt_cast hk, cond_true, at_nat hk, obs, List.length_set, if_pos hup, Int.toNat_natCast, getD_set hu, moved, e2, List.set_set, W_succ (show k < 4611686018427387904 by omega), e3]
  ·simp only [nlt_self, cond_false]
   rw [List.take_length]
theorem incr_lt {l : List Int} (h : pIncr l = true) : ∀ j i : Nat, i < j → j < l.length → l.getD i 0 < l.getD j 0
 | 0, i, hij, _ => by omega
 | j + 1, i, hij, hj => by
  unfold pIncr at h
  have h1 := (allFrom_iff _ _).1 h (j + 1) (by omega) (by omega)
  rw [decide_eq_true_eq, Nat.add_sub_cancel] at h1
  by_cases e : i = j
  ·subst e; exact h1
  ·have := incr_lt (by unfold pIncr; exact h) j i (by omega) (by omega)
   omega
theorem all_eq {b : TBoard} (hb : pBoard b = true) (q : smTBoard b) {s : TState} (hs : GU b s) {l : List Int} (hl : l.length ≤ SM) (hi : pIncr l = true) (hin : ∀ j, j < l.length → ∃ v : Nat, l.getD j 0 = (v : Int) ∧ v < s.Units.length ∧ 0 ≤ (s.Units.getD v zTUnit).At) {n : Nat} (hn : 1 ≤ n ∧ n ≤ 3) :
  ∃ r, X.s_gRetreatAll b s l (n : Int) = some r ∧ X.i_retreatAll b s l (n : Int) = some r ∧ GU b r.1 := by
 have hm := mL
 unfold SM at hl
 have hU := hs.un
 have fl : s.Units.length ≤ LIM := by unfold LIM; omega
 have both := loop_both (b := (fun (x18 : (Int × Int × Int × Int × (List TUnit))) => ((bif (decide (x18.2.1 < (l.length : Int))) then ((at' zI l x18.2.1).bind fun v21 => ((X.s_gRetreat b (TState.mk x18.2.2.1 x18.2.2.2.1 x18.2.2.2.2) v21 (n : Int)).bind fun v23 => (bif v23.2 then some (Sum.inl ((W (x18.1 + 1)), (W (x18.2.1 + 1)), v23.1.Turn, v23.1.Weather, v23.1.Units)) else some (Sum.inl (x18.1, (W (x18.2.1 + 1)), v23.1.Turn, v23.1.Weather, v23.1.Units))))) else some (Sum.inr (x18.1, x18.2.2.1, x18.2.2.2.1, x18.2.2.2.2))) : Option ((Int × Int × Int × Int × (List TUnit)) ⊕ (Int × Int × Int × (List TUnit))))))
  (b' := (fun (x20 : (Int × Int × Int × Int × (List TUnit))) => ((bif (decide (x20.2.1 < (l.length : Int))) then ((at' zI l x20.2.1).bind fun v23 => ((X.i_retreatUnit_Mdzdd b (TState.mk x20.2.2.1 x20.2.2.2.1 x20.2.2.2.2) v23 (n : Int)).bind fun v25 => (if v25.2.2.Units.length = x20.2.2.2.2.length then (bif v25.2.1 then some (Sum.inl ((W (x20.1 + 1)), (W (x20.2.1 + 1)), v25.1.Turn, v25.1.Weather, v25.1.Units)) else some (Sum.inl (x20.1, (W (x20.2.1 + 1)), v25.1.Turn, v25.1.Weather, v25.1.Units))) else none))) else some (Sum.inr (x20.1, x20.2.2.1, x20.2.2.2.1, x20.2.2.2.2))) : Option ((Int × Int × Int × Int × (List TUnit)) ⊕ (Int × Int × Int × (List TUnit))))))
  (fun t => ∃ k : Nat, t.2.1 = (k : Int) ∧ k ≤ l.length ∧ GU b (TState.mk t.2.2.1 t.2.2.2.1 t.2.2.2.2) ∧ t.2.2.2.2.length = s.Units.length ∧ ∀ j, k ≤ j → j < l.length → 0 ≤ (t.2.2.2.2.getD (l.getD j 0).toNat zTUnit).At)
  (fun t => l.length - t.2.1.toNat) (fun r => GU b (TState.mk r.2.1 r.2.2.1 r.2.2.2)) (s := (0, 0, s.Turn, s.Weather, s.Units)) ?_ ⟨0, rfl, Nat.zero_le _, hs, rfl, fun j _ hj => ?_⟩
 ·obtain ⟨r, z1, z2, z3⟩ := both
  unfold X.s_gRetreatAll X.i_retreatAll
  rw [fdo_nil s fl]
  simp only [obs, X.i_cloneState, X.g_Clone_Unit, List.nil_append, if_pos fl]
  rw [z1, z2]
  exact ⟨_, rfl, rfl, z3⟩
 ·rintro ⟨c, t1, t2, t3, us⟩ ⟨k, hk, hkl, hg, hlen, hat⟩
  simp only at hk hg hlen hat
  subst hk
  by_cases h : k < l.length
  ·obtain ⟨v, v1, v2, _⟩ := hin k h
   have h0 := hat k (Nat.le_refl _) h
   rw [v1, Int.toNat_natCast] at h0
   obtain ⟨us', w, r1, r2, r3, r4, r5⟩ := retreat_eq hb q hg (u := v) (by show v < us.length; omega) h0 hn
   have hat2 : at' zI l (k : Int) = some (v : Int) := by rw [at_getD h]; exact congrArg some v1
   have hg2 : GU b (TState.mk t2 t3 us') := ⟨by show us'.length ≤ 12; rw [r3]; exact hg.un, fun j hj => r4 j (by show j < us.length; have : us'.length = us.length := r3; have hj' : j < us'.length := hj; omega)⟩
   have hne : ∀ j, k + 1 ≤ j → j < l.length → 0 ≤ (us'.getD (l.getD j 0).toNat zTUnit).At := fun j h1 h2 => by
    have := incr_lt hi j k (by omega) h2
    rw [r5 _ (by omega)]
    exact hat j (by omega) h2
   have hl2 : us'.length = s.Units.length := by have : us'.length = us.length := r3; omega
   simp only [lt_cast h, cond_true, hat2, obs, r1, r2, if_true]
   cases w
   ·exact ⟨trivial, .inl ⟨_, rfl, ⟨k + 1, W_up h (by omega), by omega, hg2, hl2, hne⟩, by simp only [W_up h (show l.length ≤ maxLen by omega), Int.toNat_natCast]; omega⟩⟩
   ·exact ⟨trivial, .inl ⟨_, rfl, ⟨k + 1, W_up h (by omega), by omega, hg2, hl2, hne⟩, by simp only [W_up h (show l.length ≤ maxLen by omega), Int.toNat_natCast]; omega⟩⟩
  ·have : k = l.length := by omega
   subst this
   simp only [nlt_self, cond_false]
   exact ⟨trivial, .inr ⟨_, rfl, hg⟩⟩
 ·obtain ⟨v, v1, v2, v3⟩ := hin j hj
  rw [v1, Int.toNat_natCast]; exact v3
theorem mkIntSx_L {x : List Int} (h : smLI x) (k : Int) (h0 : 0 ≤ k) (hk : k ≤ 549755813888000) : ∃ k' : Int, X.l_markIntS_L x k = some k' ∧ k ≤ k' ∧ k' ≤ k + 8796093022208 := ⟨_, mkInt_L h.1 k h0 (by omega), by omega, by have := h.1; unfold SM at this; omega⟩
theorem GU.sm {b : TBoard} {s : TState} (h : GU b s) : smTState s := ⟨trivial, trivial, ⟨by have := h.un; unfold SM; omega, fun _ _ => ⟨trivial, trivial, trivial, trivial, trivial⟩⟩, trivial⟩
def pGo (s : TState) (x : Int) : Bool := pIn x 0 ((s.Units.length : Int) - 1) && decide ((s.Units.getD x.toNat zTUnit).At ≥ 0)
theorem gunits_eq {b : TBoard} (q : smTBoard b) (s : TState) (qs : smTState s) {l : List Int} (hl : l.length ≤ SM) :
  X.s_gUnits b s l = some ((pBoard b && pState b s) && (pIncr l && l.all (pGo s))) ∧ X.i_areOnMap b s l = some ((pBoard b && pState b s) && (pIncr l && l.all (pGo s))) := by
 have hm := mL
 have hl' := hl
 unfold SM at hl'
 unfold X.s_gUnits X.i_areOnMap
 rw [(fits_eq q s qs).1, (fits_eq q s qs).2]
 simp only [obs]
 cases hf : pBoard b && pState b s
 ·exact ⟨rfl, rfl⟩
 have hf2 := hf
 simp only [Bool.and_eq_true] at hf2
 have hU := units_of hf2.2
 simp only [Bool.not_true, cond_false, Bool.true_and]
 constructor
 ·rw [W_of (n := (s.Units.length : Int) - 1) (by omega), rising_eq l _ _ hl, rising_split]
  simp only [obs]
  cases hi : pIncr l
  ·rfl
  cases ha : l.all fun x => pIn x 0 ((s.Units.length : Int) - 1)
  ·have : l.all (pGo s) = false := by
    rw [Bool.eq_false_iff]
    intro h
    rw [List.all_eq_true] at h
    have : (l.all fun x => pIn x 0 ((s.Units.length : Int) - 1)) = true := List.all_eq_true.2 fun x hx => by
     have := h x hx
     unfold pGo at this
     rw [Bool.and_eq_true] at this
     exact this.1
    rw [ha] at this; cases this
   rw [this]; rfl
  simp only [Bool.and_self, Bool.not_true, cond_false, Bool.true_and]
  have hin : ∀ x ∈ l, ∃ v : Nat, x = (v : Int) ∧ v < s.Units.length := fun x hx => by
   have := pIn_iff.1 (List.all_eq_true.1 ha x hx)
   obtain ⟨v, hv⟩ := Int.eq_ofNat_of_zero_le this.1
   exact ⟨v, hv, by omega⟩
  rw [run_all l (pGo s) (.inr false) (.inl ()) rfl ?_ ?_]
  ·cases l.all (pGo s) <;> rfl
  ·intro k hk
   obtain ⟨v, v1, v2⟩ := hin _ (List.getElem_mem hk)
   have hgo : pGo s (v : Int) = decide ((s.Units.getD v zTUnit).At ≥ 0) := by
    unfold pGo
    rw [pIn_iff.2 (show 0 ≤ (v : Int) ∧ (v : Int) ≤ (s.Units.length : Int) - 1 by omega), Bool.true_and, Int.toNat_natCast]
   simp only [lt_cast hk, cond_true, at_nat hk, obs, v1, at_getD v2, hgo, W_up hk (show l.length ≤ maxLen by omega)]
   by_cases h : (s.Units.getD v zTUnit).At < 0
   ·rw [decide_eq_true h, decide_eq_false (show ¬ (s.Units.getD v zTUnit).At ≥ 0 by omega)]; rfl
   ·rw [decide_eq_false h, decide_eq_true (show (s.Units.getD v zTUnit).At ≥ 0 by omega)]; rfl
  ·simp only [nlt_self, cond_false]
 ·rw [incr_eq l hl]
  simp only [obs]
  cases hi : pIncr l
  ·rfl
  have hh : X.g_ContainsFunc_int l (fun q0 => X.i_areOnMap_1 q0 b s) = some (!(l.all (pGo s))) := by
   have := hasF_eq (z := zI) (f := fun q0 => X.i_areOnMap_1 q0 b s) (p := fun x => !(pGo s x)) (xs := l) (by omega) (fun x _ => by
    unfold X.i_areOnMap_1 X.i_onMap X.i_hasUnit
    rw [(fits_eq q s qs).2, hf]
    simp only [obs, cond_true, i_idx x _ (show 0 ≤ (s.Units.length : Int) ∧ (s.Units.length : Int) ≤ (SM : Int) by unfold SM; omega)]
    unfold pGo
    cases hp : pIn x 0 ((s.Units.length : Int) - 1)
    ·rfl
    obtain ⟨v, hv⟩ := Int.eq_ofNat_of_zero_le (pIn_iff.1 hp).1
    have := (pIn_iff.1 hp).2
    subst hv
    simp only [cond_true, at_getD (show v < s.Units.length by omega), obs, Int.toNat_natCast, Bool.true_and])
   rw [List.not_all_eq_any_not]
   exact this
  rw [hh]
  simp only [Bool.not_true, cond_false, obs, Bool.not_not, Bool.true_and]
theorem core (a0 : TBoard) (a1 : TState) (a2 : (List Int)) (a3 : Int) (k0 : okTBoard a0) (k1 : okTState a1) (k2 : okLI a2) (k3 : okI a3) (q0 : smTBoard a0) (q1 : smTState a1) (q2 : smLI a2) : ∃ w, X.s_RetreatAll a0 a1 a2 a3 = some w ∧ X.i_RetreatAll a0 a1 a2 a3 = some w ∧ smTState w.1 := by
 have hN : smTState (TState.mk 0 0 ([] : List TUnit)) := ⟨trivial, trivial, ⟨Nat.zero_le _, fun _ h => (by cases h)⟩, trivial⟩
 obtain ⟨e1, e2⟩ := gunits_eq q0 a1 q1 q2.1
 unfold X.s_RetreatAll X.i_RetreatAll
 rw [e1, e2]
 simp only [obs]
 cases hf : (pBoard a0 && pState a0 a1) && (pIncr a2 && a2.all (pGo a1))
 ·exact ⟨_, rfl, rfl, hN⟩
 simp only [Bool.and_eq_true] at hf
 obtain ⟨⟨hb, hs⟩, hi, ha⟩ := hf
 simp only [Bool.not_true, cond_false, s_in, i_in, obs]
 cases hp : pIn a3 1 3
 ·exact ⟨_, rfl, rfl, hN⟩
 obtain ⟨n, hn⟩ := Int.eq_ofNat_of_zero_le (show 0 ≤ a3 by have := (pIn_iff.1 hp).1; omega)
 have hp2 := pIn_iff.1 hp
 subst hn
 obtain ⟨r, z1, z2, z3⟩ := all_eq hb q0 (GU.of hs) q2.1 hi (fun j hj => by
  have hm : a2.getD j 0 ∈ a2 := getD_mem hj
  have := List.all_eq_true.1 ha _ hm
  unfold pGo at this
  rw [Bool.and_eq_true, pIn_iff, decide_eq_true_eq] at this
  obtain ⟨v, hv⟩ := Int.eq_ofNat_of_zero_le this.1.1
  rw [hv, Int.toNat_natCast] at this
  exact ⟨v, hv, by omega, this.2⟩) (n := n) ⟨by omega, by omega⟩
 simp only [Bool.not_true, cond_false, z1, z2, obs]
 exact ⟨_, rfl, rfl, z3.sm⟩
theorem law (a0 : TBoard) (a1 : TState) (a2 : (List Int)) (a3 : Int) (k0 : okTBoard a0) (k1 : okTState a1) (k2 : okLI a2) (k3 : okI a3) : X.l_FnExactRetreatAll a0 a1 a2 a3 = some true := by
 unfold X.l_FnExactRetreatAll
 refine law_len fun q1 => ?_
 refine law_sz (l_szBoard_sz a0 k0 1048576 (by unfold SM; omega)) (by unfold SM; omega) fun r2 g2 q2 => ?_
 refine law_sz (l_szState_sz a1 k1 r2 g2) g2 fun r3 g3 q3 => ?_
 obtain ⟨w, hs, hi, hw⟩ := core a0 a1 a2 a3 k0 k1 k2 k3 q2 q3 ⟨q1, fun _ _ => trivial⟩
 obtain ⟨mk1, ek1, bk1, ck1⟩ := mkBoard_L (x := a0) q2 1 (by omega) (by omega)
 obtain ⟨mk2, ek2, bk2, ck2⟩ := mkState_L (x := a1) q3 mk1 (by omega) (by omega)
 obtain ⟨mk3, ek3, bk3, ck3⟩ := mkIntSx_L (x := a2) ⟨q1, fun _ _ => trivial⟩ mk2 (by omega) (by omega)
 have zk : decide (mk3 < 0) = false := decide_eq_false (by omega)
 obtain ⟨r1m, y1m, em1, el1, eh1, bm1, cm1⟩ := mhState (hw) 1 (by omega) (by omega)
 have zm1 : decide (r1m < 0) = false := decide_eq_false (by omega)
 simp [l_toBoard_eq a0 q2, l_eqBoard_eq a0 q2, l_toState_eq a1 q3, l_eqState_eq a1 q3, l_toIntS_eq a2 ⟨q1, fun _ _ => trivial⟩, l_eqIntS_eq a2 ⟨q1, fun _ _ => trivial⟩, hs, hi, ek1, ek2, ek3, zk, em1, el1, eh1, zm1, l_eqState_eq (w.1) (hw)]
end Go.Proofs.YtjlabdoeiphegaaGreatDoor.X0
