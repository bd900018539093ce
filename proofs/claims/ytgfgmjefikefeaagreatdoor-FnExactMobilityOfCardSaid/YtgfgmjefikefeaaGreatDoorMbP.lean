/- The plain law behind FnExactMobilityOf, for arguments that a machine can hold. -/
import Derived.Test.YtgfgmjefikefeaaGreatDoorMbWb
import Derived.Test.YtgfgmjefikefeaaGreatDoorAmCore3
set_option linter.unusedVariables false
set_option linter.unusedSimpArgs false
set_option maxRecDepth 100000
namespace Go.Proofs.YtgfgmjefikefeaaGreatDoor.X0
open Go Go.Proofs.YtgfgmjefikefeaaGreatDoor.Ab
abbrev okLI (x : (List Int)) : Prop := okL okI x
abbrev smLI (x : (List Int)) : Prop := smL smI x
theorem l_szIntS_sz (x : (List Int)) (h : okLI x) : SzOk X.l_szIntS smLI x := szS_ok h.1 fun y _ => trivI y
theorem l_toIntS_eq (x : (List Int)) (h : smLI x) : X.l_toIntS x = some x := (toL_eq (z := zI) (f := some) h.1 fun _ _ => rfl : _)
theorem l_eqIntS_eq (x : (List Int)) (h : smLI x) : X.l_eqIntS x x = some true := (eqL_self (z := zI) (f := fun a b => some (a == b)) h.1 fun x _ => by simp : _)
abbrev okTTerrain (x : TTerrain) : Prop := okS x.Name ∧ okLI x.Cost ∧ okI x.Shift ∧ okI x.Height ∧ okB x.Blocks ∧ True
abbrev smTTerrain (x : TTerrain) : Prop := smS x.Name ∧ smLI x.Cost ∧ smI x.Shift ∧ smI x.Height ∧ smB x.Blocks ∧ True
theorem l_szTerrain_sz (x : TTerrain) (h : okTTerrain x) : SzOk X.l_szTerrain smTTerrain x := by
 intro n hn
 unfold X.l_szTerrain
 obtain ⟨r1, e1, l1, f1⟩ := len_cases (xs := x.Name) (h.1) hn
 rw [e1]
 refine szr_bif f1 l1 fun g1 q1 => ?_
 refine szr_step (l_szIntS_sz x.Cost (h.2.1) r1 g1) g1 fun r2 g2 q2 => ?_
 exact szr_last g2 ⟨q1, q2, trivI x.Shift, trivI x.Height, trivB x.Blocks, trivial⟩
theorem l_toTerrain_eq (x : TTerrain) (h : smTTerrain x) : X.l_toTerrain x = some x := by
 unfold X.l_toTerrain
 rw [l_toIntS_eq x.Cost (h.2.1)]; rfl
theorem l_eqTerrain_eq (x : TTerrain) (h : smTTerrain x) : X.l_eqTerrain x x = some true := by
 unfold X.l_eqTerrain
 simp [l_eqIntS_eq x.Cost (h.2.1)]
abbrev okLTTerrain (x : (List TTerrain)) : Prop := okL okTTerrain x
abbrev smLTTerrain (x : (List TTerrain)) : Prop := smL smTTerrain x
theorem l_szTerrainS_sz (x : (List TTerrain)) (h : okLTTerrain x) : SzOk X.l_szTerrainS smLTTerrain x := szL_ok (z := zTTerrain) (f := X.l_szTerrain) h.1 fun y hy => l_szTerrain_sz y (h.2 y hy)
theorem l_toTerrainS_eq (x : (List TTerrain)) (h : smLTTerrain x) : X.l_toTerrainS x = some x := toL_eq (z := zTTerrain) (f := X.l_toTerrain) h.1 fun y hy => l_toTerrain_eq y (h.2 y hy)
theorem l_eqTerrainS_eq (x : (List TTerrain)) (h : smLTTerrain x) : X.l_eqTerrainS x x = some true := eqL_self (z := zTTerrain) (f := X.l_eqTerrain) h.1 fun y hy => l_eqTerrain_eq y (h.2 y hy)
abbrev okTKind (x : TKind) : Prop := okS x.Name ∧ okI x.Strength ∧ okI x.Moves ∧ okI x.Steps ∧ okB x.Zone ∧ okI x.View ∧ True
abbrev smTKind (x : TKind) : Prop := smS x.Name ∧ smI x.Strength ∧ smI x.Moves ∧ smI x.Steps ∧ smB x.Zone ∧ smI x.View ∧ True
theorem l_szKind_sz (x : TKind) (h : okTKind x) : SzOk X.l_szKind smTKind x := by
 intro n hn
 unfold X.l_szKind
 obtain ⟨r1, e1, l1, f1⟩ := len_cases (xs := x.Name) (h.1) hn
 rw [e1]
 refine szr_bif f1 l1 fun g1 q1 => ?_
 exact szr_last g1 ⟨q1, trivI x.Strength, trivI x.Moves, trivI x.Steps, trivB x.Zone, trivI x.View, trivial⟩
theorem l_toKind_eq (x : TKind) (h : smTKind x) : X.l_toKind x = some x := by
 unfold X.l_toKind
 rfl
theorem l_eqKind_eq (x : TKind) (h : smTKind x) : X.l_eqKind x x = some true := by
 unfold X.l_eqKind
 simp []
abbrev okLTKind (x : (List TKind)) : Prop := okL okTKind x
abbrev smLTKind (x : (List TKind)) : Prop := smL smTKind x
theorem l_szKindS_sz (x : (List TKind)) (h : okLTKind x) : SzOk X.l_szKindS smLTKind x := szL_ok (z := zTKind) (f := X.l_szKind) h.1 fun y hy => l_szKind_sz y (h.2 y hy)
theorem l_toKindS_eq (x : (List TKind)) (h : smLTKind x) : X.l_toKindS x = some x := toL_eq (z := zTKind) (f := X.l_toKind) h.1 fun y hy => l_toKind_eq y (h.2 y hy)
theorem l_eqKindS_eq (x : (List TKind)) (h : smLTKind x) : X.l_eqKindS x x = some true := eqL_self (z := zTKind) (f := X.l_eqKind) h.1 fun y hy => l_eqKind_eq y (h.2 y hy)
abbrev okTRules (x : TRules) : Prop := okLTTerrain x.Terrains ∧ okLTKind x.Kinds ∧ okI x.Stack ∧ okI x.River ∧ okI x.Road ∧ okI x.Supply ∧ okI x.Turns ∧ True
abbrev smTRules (x : TRules) : Prop := smLTTerrain x.Terrains ∧ smLTKind x.Kinds ∧ smI x.Stack ∧ smI x.River ∧ smI x.Road ∧ smI x.Supply ∧ smI x.Turns ∧ True
theorem l_szRules_sz (x : TRules) (h : okTRules x) : SzOk X.l_szRules smTRules x := by
 intro n hn
 unfold X.l_szRules
 refine szr_step (l_szTerrainS_sz x.Terrains (h.1) n hn) hn fun r1 g1 q1 => ?_
 refine szr_step (l_szKindS_sz x.Kinds (h.2.1) r1 g1) g1 fun r2 g2 q2 => ?_
 exact szr_last g2 ⟨q1, q2, trivI x.Stack, trivI x.River, trivI x.Road, trivI x.Supply, trivI x.Turns, trivial⟩
theorem l_toRules_eq (x : TRules) (h : smTRules x) : X.l_toRules x = some x := by
 unfold X.l_toRules
 simp only [l_toTerrainS_eq x.Terrains (h.1), l_toKindS_eq x.Kinds (h.2.1), Option.bind_some]
theorem l_eqRules_eq (x : TRules) (h : smTRules x) : X.l_eqRules x x = some true := by
 unfold X.l_eqRules
 simp [l_eqTerrainS_eq x.Terrains (h.1), l_eqKindS_eq x.Kinds (h.2.1)]
abbrev okTMap (x : TMap) : Prop := okI x.Width ∧ okI x.Height ∧ okLI x.Terrain ∧ okLI x.Rivers ∧ okLI x.Roads ∧ True
abbrev smTMap (x : TMap) : Prop := smI x.Width ∧ smI x.Height ∧ smLI x.Terrain ∧ smLI x.Rivers ∧ smLI x.Roads ∧ True
theorem l_szMap_sz (x : TMap) (h : okTMap x) : SzOk X.l_szMap smTMap x := by
 intro n hn
 unfold X.l_szMap
 refine szr_step (l_szIntS_sz x.Terrain (h.2.2.1) n hn) hn fun r1 g1 q1 => ?_
 refine szr_step (l_szIntS_sz x.Rivers (h.2.2.2.1) r1 g1) g1 fun r2 g2 q2 => ?_
 refine szr_step (l_szIntS_sz x.Roads (h.2.2.2.2.1) r2 g2) g2 fun r3 g3 q3 => ?_
 exact szr_last g3 ⟨trivI x.Width, trivI x.Height, q1, q2, q3, trivial⟩
theorem l_toMap_eq (x : TMap) (h : smTMap x) : X.l_toMap x = some x := by
 unfold X.l_toMap
 simp only [l_toIntS_eq x.Terrain (h.2.2.1), l_toIntS_eq x.Rivers (h.2.2.2.1), l_toIntS_eq x.Roads (h.2.2.2.2.1), Option.bind_some]
theorem l_eqMap_eq (x : TMap) (h : smTMap x) : X.l_eqMap x x = some true := by
 unfold X.l_eqMap
 simp [l_eqIntS_eq x.Terrain (h.2.2.1), l_eqIntS_eq x.Rivers (h.2.2.2.1), l_eqIntS_eq x.Roads (h.2.2.2.2.1)]
abbrev okTBoard (x : TBoard) : Prop := okTRules x.Rules ∧ okTMap x.Map ∧ True
abbrev smTBoard (x : TBoard) : Prop := smTRules x.Rules ∧ smTMap x.Map ∧ True
theorem l_szBoard_sz (x : TBoard) (h : okTBoard x) : SzOk X.l_szBoard smTBoard x := by
 intro n hn
 unfold X.l_szBoard
 refine szr_step (l_szRules_sz x.Rules (h.1) n hn) hn fun r1 g1 q1 => ?_
 refine szr_step (l_szMap_sz x.Map (h.2.1) r1 g1) g1 fun r2 g2 q2 => ?_
 exact szr_last g2 ⟨q1, q2, trivial⟩
theorem l_toBoard_eq (x : TBoard) (h : smTBoard x) : X.l_toBoard x = some x := by
 unfold X.l_toBoard
 simp only [l_toRules_eq x.Rules (h.1), l_toMap_eq x.Map (h.2.1), Option.bind_some]
theorem l_eqBoard_eq (x : TBoard) (h : smTBoard x) : X.l_eqBoard x x = some true := by
 unfold X.l_eqBoard
 simp [l_eqRules_eq x.Rules (h.1), l_eqMap_eq x.Map (h.2.1)]
abbrev okTUnit (x : TUnit) : Prop := okI x.Side ∧ okI x.Kind ∧ okI x.At ∧ okI x.Steps ∧ True
abbrev smTUnit (x : TUnit) : Prop := smI x.Side ∧ smI x.Kind ∧ smI x.At ∧ smI x.Steps ∧ True
theorem trivTUnit (x : TUnit) : smTUnit x := ⟨trivI x.Side, trivI x.Kind, trivI x.At, trivI x.Steps, trivial⟩
theorem l_toUnit_eq (x : TUnit) (h : smTUnit x) : X.l_toUnit x = some x := by
 unfold X.l_toUnit
 rfl
theorem l_eqUnit_eq (x : TUnit) (h : smTUnit x) : X.l_eqUnit x x = some true := by
 unfold X.l_eqUnit
 simp []
abbrev okLTUnit (x : (List TUnit)) : Prop := okL okTUnit x
abbrev smLTUnit (x : (List TUnit)) : Prop := smL smTUnit x
theorem l_szUnitS_sz (x : (List TUnit)) (h : okLTUnit x) : SzOk X.l_szUnitS smLTUnit x := szS_ok h.1 fun y _ => trivTUnit y
theorem l_toUnitS_eq (x : (List TUnit)) (h : smLTUnit x) : X.l_toUnitS x = some x := toL_eq (z := zTUnit) (f := X.l_toUnit) h.1 fun y hy => l_toUnit_eq y (h.2 y hy)
theorem l_eqUnitS_eq (x : (List TUnit)) (h : smLTUnit x) : X.l_eqUnitS x x = some true := eqL_self (z := zTUnit) (f := X.l_eqUnit) h.1 fun y hy => l_eqUnit_eq y (h.2 y hy)
abbrev okTState (x : TState) : Prop := okI x.Turn ∧ okI x.Weather ∧ okLTUnit x.Units ∧ True
abbrev smTState (x : TState) : Prop := smI x.Turn ∧ smI x.Weather ∧ smLTUnit x.Units ∧ True
theorem l_szState_sz (x : TState) (h : okTState x) : SzOk X.l_szState smTState x := by
 intro n hn
 unfold X.l_szState
 refine szr_step (l_szUnitS_sz x.Units (h.2.2.1) n hn) hn fun r1 g1 q1 => ?_
 exact szr_last g1 ⟨trivI x.Turn, trivI x.Weather, q1, trivial⟩
theorem l_toState_eq (x : TState) (h : smTState x) : X.l_toState x = some x := by
 unfold X.l_toState
 rw [l_toUnitS_eq x.Units (h.2.2.1)]; rfl
theorem l_eqState_eq (x : TState) (h : smTState x) : X.l_eqState x x = some true := by
 unfold X.l_eqState
 simp [l_eqUnitS_eq x.Units (h.2.2.1)]
end Go.Proofs.YtgfgmjefikefeaaGreatDoor.X0

set_option maxRecDepth 100000
namespace Go.Proofs.YtgfgmjefikefeaaGreatDoor.X0
open Go Go.Proofs.YtgfgmjefikefeaaGreatDoor.Ab
theorem s_l1In_eq (n lo hi : Int) : X.s_l1In n lo hi = some (decide (lo ≤ n) && decide (n ≤ hi)) := by
 unfold X.s_l1In
 by_cases h : lo ≤ n
 ·simp [h]
 ·simp [h]
theorem i_inRange_eq (n lo hi : Int) : X.i_inRange n lo hi = some (decide (lo ≤ n) && decide (n ≤ hi)) := by
 unfold X.i_inRange
 by_cases h : lo ≤ n
 ·simp [h]
 ·simp [h]
theorem s_l1All_eq (xs : List Int) (lo hi : Int) (hl : xs.length ≤ SM) : X.s_l1All xs lo hi = some (xs.all fun x => decide (lo ≤ x) && decide (x ≤ hi)) := by
 unfold SM at hl
 unfold X.s_l1All
 rw [run_all xs (fun x => decide (lo ≤ x) && decide (x ≤ hi)) (.inr false) (.inl ()) rfl ?_ ?_]
 ·cases xs.all fun x => decide (lo ≤ x) && decide (x ≤ hi) <;> rfl
 ·intro k hk
  have hk' : (k : Int) < xs.length := by omega
  simp only [hk', decide_true, cond_true, at_nat hk, Option.bind_some, s_l1In_eq, W_succ (show k < 4611686018427387904 by omega)]
  cases (decide (lo ≤ xs[k]) && decide (xs[k] ≤ hi)) <;> simp
 ·simp
theorem contains_int (xs : List Int) (x : Int) (hl : xs.length ≤ maxLen) : X.g_Contains_int xs x = some (xs.any fun v => x == v) := (hasF_eq (z := zI) (f := fun v => some (x == v)) (p := fun v => x == v) hl (fun _ _ => rfl) : _)
def pIn (n lo hi : Int) : Bool := decide (lo ≤ n) && decide (n ≤ hi)
theorem s_in (n lo hi : Int) : X.s_l1In n lo hi = some (pIn n lo hi) := s_l1In_eq n lo hi
theorem i_in (n lo hi : Int) : X.i_inRange n lo hi = some (pIn n lo hi) := i_inRange_eq n lo hi
theorem pIn_iff {n lo hi : Int} : pIn n lo hi = true ↔ lo ≤ n ∧ n ≤ hi := by simp [pIn]
theorem mL : maxLen = 9223372036854775807 := by decide
theorem s_all (xs : List Int) (lo hi : Int) (hl : xs.length ≤ SM) : X.s_l1All xs lo hi = some (xs.all fun x => pIn x lo hi) := s_l1All_eq xs lo hi hl
noncomputable def pName (s : List UInt8) : Bool := (X.s_rName s).getD false
theorem name_eq (s : List UInt8) (h : s.length ≤ maxLen) : X.s_rName s = some (pName s) ∧ X.i_isName s = some (pName s) := by
 have e : X.i_isName s = X.s_rName s := by
  unfold X.i_isName X.s_rName
  simp only [i_in, s_in]
 have hs : ∃ b, X.s_rName s = some b := by
  unfold X.s_rName
  rw [run_allN s.length (fun k => !(decide ((((s.getD k 0).toNat : Nat) : Int) < 97)) && !(decide ((((s.getD k 0).toNat : Nat) : Int) > 122))) (.inr false) (.inl ()) ?_ ?_]
  ·cases allFrom s.length 0 _
   ·exact ⟨_, rfl⟩
   ·simp only [cond_true, Sum.elim_inl, s_in, Option.bind_some]; exact ⟨_, rfl⟩
  ·intro k hk
   have h1 : 0 ≤ (k : Int) ∧ (k : Int) < (s.length : Int) := by omega
   simp only [lt_cast hk, cond_true, if_pos h1, W_up hk h, Int.toNat_natCast]
   cases decide ((((s.getD k 0).toNat : Nat) : Int) < 97) <;> cases decide ((((s.getD k 0).toNat : Nat) : Int) > 122) <;> rfl
  ·simp only [nlt_self, cond_false]
 obtain ⟨b, hb⟩ := hs
 have hp : X.s_rName s = some (pName s) := by unfold pName; rw [hb]; rfl
 exact ⟨hp, e.trans hp⟩
noncomputable def pTI (xs : List TTerrain) (s : List UInt8) : Int := (X.s_rTerrain xs s).getD 0
noncomputable def pKI (xs : List TKind) (s : List UInt8) : Int := (X.s_rKind xs s).getD 0
theorem ti_eq (xs : List TTerrain) (s : List UInt8) (h : xs.length ≤ maxLen) : X.s_rTerrain xs s = some (pTI xs s) ∧ X.i_terrainIndex xs s = some (pTI xs s) := by
 have e : X.s_rTerrain xs s = idxF zTTerrain (fun v => some (v.Name == s)) xs := rfl
 obtain ⟨i, h1, _⟩ := idxF_ok (z := zTTerrain) (f := fun v => some (v.Name == s)) (p := fun v => v.Name == s) (xs := xs) h (fun _ _ => rfl)
 have hp : X.s_rTerrain xs s = some (pTI xs s) := by unfold pTI; rw [e, h1]; rfl
 refine ⟨hp, ?_⟩
 have e2 : X.i_terrainIndex xs s = (idxF zTTerrain (fun v => some (v.Name == s)) xs).bind some := rfl
 rw [e2, ← e, hp]; rfl
theorem ki_eq (xs : List TKind) (s : List UInt8) (h : xs.length ≤ maxLen) : X.s_rKind xs s = some (pKI xs s) ∧ X.i_kindIndex xs s = some (pKI xs s) := by
 have e : X.s_rKind xs s = idxF zTKind (fun v => some (v.Name == s)) xs := rfl
 obtain ⟨i, h1, _⟩ := idxF_ok (z := zTKind) (f := fun v => some (v.Name == s)) (p := fun v => v.Name == s) (xs := xs) h (fun _ _ => rfl)
 have hp : X.s_rKind xs s = some (pKI xs s) := by unfold pKI; rw [e, h1]; rfl
 refine ⟨hp, ?_⟩
 have e2 : X.i_kindIndex xs s = (idxF zTKind (fun v => some (v.Name == s)) xs).bind some := rfl
 rw [e2, ← e, hp]; rfl
noncomputable def qT (r : TRules) (k : Nat) : Bool :=
 let t := r.Terrains.getD k zTTerrain
 pName t.Name && ((pTI r.Terrains t.Name == (k : Int)) && (((t.Cost.length : Int) == (r.Kinds.length : Int)) && ((t.Cost.all fun x => pIn x 0 9) && (pIn t.Shift (-3) 3 && pIn t.Height 0 3))))
noncomputable def qK (r : TRules) (k : Nat) : Bool :=
 let t := r.Kinds.getD k zTKind
 pName t.Name && ((pKI r.Kinds t.Name == (k : Int)) && (pIn t.Strength 1 9 && (pIn t.Moves 0 9 && (pIn t.Steps 1 4 && pIn t.View 0 4))))
noncomputable def pRules (r : TRules) : Bool :=
 pIn (r.Terrains.length : Int) 1 6 && (pIn (r.Kinds.length : Int) 1 4 && (allFrom r.Terrains.length 0 (qT r) && (allFrom r.Kinds.length 0 (qK r) && (pIn r.Stack 1 4 && (pIn r.River 0 9 && (pIn r.Road 1 9 && (pIn r.Supply 0 20 && pIn r.Turns 1 30)))))))
theorem costs_eq (xs : List Int) (h : xs.length ≤ SM) : X.g_ContainsFunc_int xs (fun q0 => X.i_goodTerrain_1 q0) = some (!(xs.all fun x => pIn x 0 9)) := by
 have hm := mL
 have := hasF_eq (z := zI) (f := fun q0 => X.i_goodTerrain_1 q0) (p := fun x => !(pIn x 0 9)) (xs := xs) (by unfold SM at h; omega) (fun x _ => by unfold X.i_goodTerrain_1; rw [i_in]; rfl)
 rw [List.not_all_eq_any_not]
 exact this
theorem getD_mem {α : Type} {xs : List α} {k : Nat} {z : α} (h : k < xs.length) : xs.getD k z ∈ xs := by
 have : xs.getD k z = xs[k] := by simp [List.getD, h]
 rw [this]; exact List.getElem_mem h
theorem rules_eq (r : TRules) (q : smTRules r) : X.s_rGood r = some (pRules r) ∧ X.i_IsRules r = some (pRules r) := by
 have hm := mL
 have hT : r.Terrains.length ≤ maxLen := by have := q.1.1; unfold SM at this; omega
 have hK : r.Kinds.length ≤ maxLen := by have := q.2.1.1; unfold SM at this; omega
 have hTn : ∀ k, k < r.Terrains.length → (r.Terrains.getD k zTTerrain).Name.length ≤ maxLen ∧ (r.Terrains.getD k zTTerrain).Cost.length ≤ SM := fun k hk => by
  have := q.1.2 _ (getD_mem (z := zTTerrain) hk)
  exact ⟨by have := this.1; unfold smS SM at this; omega, this.2.1.1⟩
 have hKn : ∀ k, k < r.Kinds.length → (r.Kinds.getD k zTKind).Name.length ≤ maxLen := fun k hk => by
  have := (q.2.1.2 _ (getD_mem (z := zTKind) hk)).1
  unfold smS SM at this; omega
 constructor
 ·unfold X.s_rGood pRules
  simp only [s_in, Option.bind_some, bif_not]
  cases pIn (r.Terrains.length : Int) 1 6
  ·rfl
  cases pIn (r.Kinds.length : Int) 1 4
  ·rfl
  simp only [cond_true, Bool.true_and]
  rw [run_allN r.Terrains.length (qT r) (.inr false) (.inl ()) ?_ ?_]
  ·cases allFrom r.Terrains.length 0 (qT r)
   ·rfl
   simp only [cond_true, Sum.elim_inl, Bool.true_and]
   rw [run_allN r.Kinds.length (qK r) (.inr false) (.inl ()) ?_ ?_]
   ·cases allFrom r.Kinds.length 0 (qK r)
    ·rfl
    simp only [cond_true, Sum.elim_inl, Bool.true_and]
    cases pIn r.Stack 1 4 <;> cases pIn r.River 0 9 <;> cases pIn r.Road 1 9 <;> cases pIn r.Supply 0 20 <;> rfl
   ·intro k hk
    simp only [lt_cast hk, cond_true, at_getD hk, Option.bind_some, (name_eq _ (hKn k hk)).1, (ki_eq _ _ hK).1, W_up hk hK, qK]
    cases pName (r.Kinds.getD k zTKind).Name
    ·rfl
    cases h : pKI r.Kinds (r.Kinds.getD k zTKind).Name == (k : Int)
    ·simp only [bne, h]; rfl
    simp only [bne, h, Bool.not_true, cond_false, cond_true, Bool.true_and]
    cases pIn (r.Kinds.getD k zTKind).Strength 1 9 <;> cases pIn (r.Kinds.getD k zTKind).Moves 0 9 <;> cases pIn (r.Kinds.getD k zTKind).Steps 1 4 <;> cases pIn (r.Kinds.getD k zTKind).View 0 4 <;> rfl
   ·simp only [nlt_self, cond_false]
  ·intro k hk
   simp only [lt_cast hk, cond_true, at_getD hk, Option.bind_some, (name_eq _ (hTn k hk).1).1, (ti_eq _ _ hT).1, s_all _ _ _ (hTn k hk).2, W_up hk hT, qT]
   cases pName (r.Terrains.getD k zTTerrain).Name
   ·rfl
   cases h : pTI r.Terrains (r.Terrains.getD k zTTerrain).Name == (k : Int)
   ·simp only [bne, h]; rfl
   cases h2 : ((r.Terrains.getD k zTTerrain).Cost.length : Int) == (r.Kinds.length : Int)
   ·simp only [bne, h, h2]; rfl
   simp only [bne, h, h2, Bool.not_true, cond_false, cond_true, Bool.true_and]
   cases ((r.Terrains.getD k zTTerrain).Cost.all fun x => pIn x 0 9) <;> cases pIn (r.Terrains.getD k zTTerrain).Shift (-3) 3 <;> cases pIn (r.Terrains.getD k zTTerrain).Height 0 3 <;> rfl
  ·simp only [nlt_self, cond_false]
 ·unfold X.i_IsRules pRules
  simp only [i_in, Option.bind_some, bif_not]
  cases pIn (r.Terrains.length : Int) 1 6
  ·rfl
  cases pIn (r.Kinds.length : Int) 1 4
  ·rfl
  simp only [cond_true, Bool.true_and]
  rw [run_allN r.Terrains.length (qT r) (.inr false) (.inl ()) ?_ ?_]
  ·cases allFrom r.Terrains.length 0 (qT r)
   ·rfl
   simp only [cond_true, Sum.elim_inl, Bool.true_and]
   rw [run_allN r.Kinds.length (qK r) (.inr false) (.inl ()) ?_ ?_]
   ·cases allFrom r.Kinds.length 0 (qK r)
    ·rfl
    simp only [cond_true, Sum.elim_inl, Bool.true_and]
    cases pIn r.Stack 1 4 <;> cases pIn r.River 0 9 <;> cases pIn r.Road 1 9 <;> cases pIn r.Supply 0 20 <;> rfl
   ·intro k hk
    simp only [lt_cast hk, cond_true, at_getD hk, Option.bind_some, X.i_goodKind, i_in, (name_eq _ (hKn k hk)).2, (ki_eq _ _ hK).2, W_up hk hK, qK]
    cases pName (r.Kinds.getD k zTKind).Name
    ·rfl
    cases h : pKI r.Kinds (r.Kinds.getD k zTKind).Name == (k : Int) <;> simp only [bne, h] <;>
    cases pIn (r.Kinds.getD k zTKind).Strength 1 9 <;> cases pIn (r.Kinds.getD k zTKind).Moves 0 9 <;> cases pIn (r.Kinds.getD k zTKind).Steps 1 4 <;> cases pIn (r.Kinds.getD k zTKind).View 0 4 <;> rfl
   ·simp only [nlt_self, cond_false]
  ·intro k hk
   simp only [lt_cast hk, cond_true, at_getD hk, Option.bind_some, X.i_goodTerrain, i_in, (name_eq _ (hTn k hk).1).2, (ti_eq _ _ hT).2, costs_eq _ (hTn k hk).2, W_up hk hT, qT]
   cases pName (r.Terrains.getD k zTTerrain).Name
   ·rfl
   cases h2 : ((r.Terrains.getD k zTTerrain).Cost.length : Int) == (r.Kinds.length : Int)
   ·simp only [bne, h2]; cases (pTI r.Terrains (r.Terrains.getD k zTTerrain).Name == (k : Int)) <;> rfl
   cases h : pTI r.Terrains (r.Terrains.getD k zTTerrain).Name == (k : Int) <;> simp only [bne, h, h2, Bool.not_true, cond_false, cond_true, Bool.true_and] <;>
   cases ((r.Terrains.getD k zTTerrain).Cost.all fun x => pIn x 0 9) <;> cases pIn (r.Terrains.getD k zTTerrain).Shift (-3) 3 <;> cases pIn (r.Terrains.getD k zTTerrain).Height 0 3 <;> rfl
  ·simp only [nlt_self, cond_false]
def dQ : List Int := [1, 1, 0, -1, -1, 0]
def dR : List Int := [0, -1, -1, 0, 1, 1]
def okSides (m : TMap) : Prop := 1 ≤ m.Width ∧ m.Width ≤ 10 ∧ 1 ≤ m.Height ∧ m.Height ≤ 10
def pIdx (m : TMap) (a b : Int) : Int := bif pIn a 0 (m.Width - 1) && pIn b 0 (m.Height - 1) then b * m.Width + a else -1
def pNext (m : TMap) (i : Int) (d : Int) : Int := pIdx m (i % m.Width + dQ.getD d.toNat 0) (i / m.Width + dR.getD d.toNat 0)
theorem size_eq (m : TMap) (h : okSides m) : W (m.Width * m.Height) = m.Width * m.Height ∧ 1 ≤ m.Width * m.Height ∧ m.Width * m.Height ≤ 100 := by
 obtain ⟨h1, h2, h3, h4⟩ := h
 have a : 1 * 1 ≤ m.Width * m.Height := Int.mul_le_mul h1 h3 (by omega) (by omega)
 have b : m.Width * m.Height ≤ 10 * 10 := Int.mul_le_mul h2 h4 (by omega) (by omega)
 exact ⟨W_of (by omega), by omega, by omega⟩
theorem tmod_nn {a b : Int} (ha : 0 ≤ a) (hb : 1 ≤ b) : Int.tmod a b = a % b := Int.tmod_eq_emod_of_nonneg ha
theorem tdiv_nn {a b : Int} (ha : 0 ≤ a) : Int.tdiv a b = a / b := Int.tdiv_eq_ediv_of_nonneg ha
theorem idx_eq (m : TMap) (h : okSides m) (a b : Int) : X.s_mIndex m ⟨a, b⟩ = some (pIdx m a b) ∧ X.i_indexOf m ⟨a, b⟩ = some (pIdx m a b) := by
 have hw := h
 obtain ⟨h1, h2, h3, h4⟩ := h
 unfold X.s_mIndex X.i_indexOf X.i_isIndex pIdx
 simp only [s_in, i_in, Option.bind_some]
 rw [W_of (n := m.Width - 1) (by omega), W_of (n := m.Height - 1) (by omega)]
 cases ha : pIn a 0 (m.Width - 1)
 ·exact ⟨rfl, rfl⟩
 cases hb : pIn b 0 (m.Height - 1)
 ·exact ⟨rfl, rfl⟩
 simp only [Bool.not_true, cond_false, Bool.and_self, cond_true]
 rw [pIn_iff] at ha hb
 have e1 : 0 * 1 ≤ b * m.Width := Int.mul_le_mul (by omega) (by omega) (by omega) (by omega)
 have e2 : b * m.Width ≤ 10 * 10 := Int.mul_le_mul (by omega) (by omega) (by omega) (by omega)
 rw [W_of (n := b * m.Width) (by omega), W_of (by omega)]
 exact ⟨rfl, rfl⟩
theorem pIdx_lt {m : TMap} (h : okSides m) {a b : Int} : pIdx m a b = -1 ∨ (0 ≤ pIdx m a b ∧ pIdx m a b < m.Width * m.Height) := by
 obtain ⟨h1, h2, h3, h4⟩ := h
 unfold pIdx
 cases ha : pIn a 0 (m.Width - 1) && pIn b 0 (m.Height - 1)
 ·exact .inl rfl
 ·simp only [Bool.and_eq_true, pIn_iff] at ha
  right
  simp only [cond_true]
  have e1 : 0 * 1 ≤ b * m.Width := Int.mul_le_mul (by omega) (by omega) (by omega) (by omega)
  have e2 : b * m.Width ≤ (m.Height - 1) * m.Width := Int.mul_le_mul_of_nonneg_right (by omega) (by omega)
  have e3 : (m.Height - 1) * m.Width = m.Width * m.Height - m.Width := by rw [Int.sub_mul, Int.mul_comm m.Height, Int.one_mul]
  omega
theorem dirs_getD (d : Nat) (h : d < 6) : dirs.getD d zTHex = ⟨dQ.getD d 0, dR.getD d 0⟩ ∧ -1 ≤ dQ.getD d 0 ∧ dQ.getD d 0 ≤ 1 ∧ -1 ≤ dR.getD d 0 ∧ dR.getD d 0 ≤ 1 := by
 match d, h with
 | 0, _ => exact ⟨rfl, by decide⟩
 | 1, _ => exact ⟨rfl, by decide⟩
 | 2, _ => exact ⟨rfl, by decide⟩
 | 3, _ => exact ⟨rfl, by decide⟩
 | 4, _ => exact ⟨rfl, by decide⟩
 | 5, _ => exact ⟨rfl, by decide⟩
theorem next_eq (m : TMap) (h : okSides m) (i d : Int) (hi : 0 ≤ i ∧ i < 4611686018427387904) (hd : 0 ≤ d ∧ d < 6) : X.s_mNext m i d = some (pNext m i d) ∧ X.i_nextTo m i d = some (pNext m i d) := by
 have hw := h
 obtain ⟨h1, h2, h3, h4⟩ := h
 obtain ⟨k, rfl⟩ := Int.eq_ofNat_of_zero_le hd.1
 have hk : k < 6 := by omega
 obtain ⟨g0, g1, g2, g3, g4⟩ := dirs_getD k hk
 have hne : m.Width ≠ 0 := by omega
 have hm1 : 0 ≤ i % m.Width := Int.emod_nonneg _ hne
 have hm2 : i % m.Width < m.Width := Int.emod_lt_of_pos _ (by omega)
 have hd1 : 0 ≤ i / m.Width := Int.ediv_nonneg hi.1 (by omega)
 have hd2 : i / m.Width ≤ i := Int.ediv_le_self _ hi.1
 have e : pNext m i (k : Int) = pIdx m (i % m.Width + dQ.getD k 0) (i / m.Width + dR.getD k 0) := rfl
 constructor
 ·unfold X.s_mNext X.s_mHex X.s_hStep
  rw [if_pos hne, if_pos hne]
  simp only [Option.bind_some]
  have hl1 : 0 ≤ (k : Int) ∧ (k : Int) < (([1, 1, 0, -1, -1, 0] : List Int).length : Int) := ⟨by omega, by simp; omega⟩
  have hl2 : 0 ≤ (k : Int) ∧ (k : Int) < (([0, -1, -1, 0, 1, 1] : List Int).length : Int) := ⟨by omega, by simp; omega⟩
  rw [if_pos hl1, if_pos hl2]
  simp only [Option.bind_some, Int.toNat_natCast]
  rw [tmod_nn hi.1 h1, tdiv_nn hi.1, W_of (n := i / m.Width) (by omega)]
  change ((X.s_mIndex m (THex.mk (W (i % m.Width + dQ.getD k 0)) (W (i / m.Width + dR.getD k 0)))).bind fun v5 => some v5) = _
  rw [W_of (n := i % m.Width + dQ.getD k 0) (by omega), W_of (n := i / m.Width + dR.getD k 0) (by omega), (idx_eq m hw _ _).1, e]; rfl
 ·unfold X.i_nextTo X.i_hexOf X.i_stepBy
  rw [if_pos hne, if_pos hne]
  simp only [Option.bind_some]
  rw [tmod_nn hi.1 h1, tdiv_nn hi.1, W_of (n := i / m.Width) (by omega)]
  rw [at_getD (z := zTHex) (xs := dirs) (k := k) hk, g0]
  simp only [Option.bind_some, Int.one_mul]
  rw [W_of (n := dQ.getD k 0) (by omega), W_of (n := dR.getD k 0) (by omega)]
  rw [W_of (n := i % m.Width + dQ.getD k 0) (by omega), W_of (n := i / m.Width + dR.getD k 0) (by omega), (idx_eq m hw _ _).2, e]; rfl
def pEdge (m : TMap) (e : Int) : Bool := pIn e 0 (3 * (m.Width * m.Height) - 1) && decide (0 ≤ pNext m (e / 3) (e % 3))
def pIncr (l : List Int) : Bool := allFrom (l.length - 1) 1 fun k => decide (l.getD (k - 1) 0 < l.getD k 0)
def pEdges (m : TMap) (l : List Int) : Bool := l.all (pEdge m) && pIncr l
theorem isEdge_eq (m : TMap) (h : okSides m) (e : Int) : X.i_isEdge m e = some (pEdge m e) := by
 obtain ⟨h5, h6, h7⟩ := size_eq m h
 have hw := h
 obtain ⟨h1, h2, h3, h4⟩ := h
 unfold X.i_isEdge pEdge
 have e3 : W ((W ((W (3 * m.Width)) * m.Height)) - 1) = 3 * (m.Width * m.Height) - 1 := by
  rw [W_of (n := 3 * m.Width) (by omega), Int.mul_assoc, W_of (n := 3 * (m.Width * m.Height)) (by omega), W_of (by omega)]
 rw [e3]
 simp only [i_in, Option.bind_some]
 cases hp : pIn e 0 (3 * (m.Width * m.Height) - 1)
 ·rfl
 ·rw [pIn_iff] at hp
  simp only [cond_true, Bool.true_and]
  have q1 : Int.tdiv e 3 = e / 3 := tdiv_nn hp.1
  have q2 : Int.tmod e 3 = e % 3 := tmod_nn hp.1 (by omega)
  rw [q1, q2, W_of (n := e / 3) (by omega), (next_eq m hw (e / 3) (e % 3) (by omega) (by omega)).2]
  simp
theorem s_edge (m : TMap) (h : okSides m) (e : Int) : ((X.s_mSize m).bind fun v73 => (X.s_l1In e 0 (W ((W (3 * v73)) - 1)))) = some (pIn e 0 (3 * (m.Width * m.Height) - 1)) ∧
  (pIn e 0 (3 * (m.Width * m.Height) - 1) = true → X.s_mNext m (W (Int.tdiv e 3)) (Int.tmod e 3) = some (pNext m (e / 3) (e % 3))) := by
 obtain ⟨h5, h6, h7⟩ := size_eq m h
 unfold X.s_mSize
 simp only [Option.bind_some, s_in]
 rw [h5, W_of (n := 3 * (m.Width * m.Height)) (by omega), W_of (by omega)]
 refine ⟨rfl, fun hp => ?_⟩
 rw [pIn_iff] at hp
 have q1 : Int.tdiv e 3 = e / 3 := tdiv_nn hp.1
 have q2 : Int.tmod e 3 = e % 3 := tmod_nn hp.1 (by omega)
 rw [q1, q2, W_of (n := e / 3) (by omega)]
 exact (next_eq m h (e / 3) (e % 3) (by omega) (by omega)).1
theorem incr_eq (l : List Int) (h : l.length ≤ SM) : X.i_increasing l = some (pIncr l) := by
 have hm := mL
 have h' := h
 unfold SM at h'
 unfold X.i_increasing pIncr
 by_cases h0 : l.length = 0
 ·rw [loop_eq, h0]; rfl
 ·have := loop_allFrom (body := (fun (x16 : Int) => ((bif (decide (x16 < (l.length : Int))) then ((at' zI l (W (x16 - 1))).bind fun v19 => ((at' zI l x16).bind fun v21 => (bif (decide (v19 ≥ v21)) then some (Sum.inr (Sum.inr false)) else some (Sum.inl (W (x16 + 1)))))) else some (Sum.inr (Sum.inl ()))) : Option (Int ⊕ (Unit ⊕ Bool)))))
   (fun k => decide (l.getD (k - 1) 0 < l.getD k 0)) (.inr false) (.inl ()) (l.length - 1) 1 (fun j h1 h2 => by
    have hj : j < l.length := by omega
    have e1 : W ((j : Int) - 1) = ((j - 1 : Nat) : Int) := by rw [W_of (by omega)]; omega
    simp only [lt_cast hj, cond_true, e1, at_getD (show j - 1 < l.length by omega), at_getD hj, Option.bind_some, W_up hj (show l.length ≤ maxLen by omega)]
    show _ = some (bif decide (l.getD (j - 1) zI < l.getD j zI) then _ else _)
    by_cases e : l.getD (j - 1) zI < l.getD j zI
    ·have e' : ¬ l.getD (j - 1) zI ≥ l.getD j zI := by omega
     simp only [e, e', decide_true, decide_false, cond_true, cond_false]
    ·have e' : l.getD (j - 1) zI ≥ l.getD j zI := by omega
     simp only [e, e', decide_true, decide_false, cond_true, cond_false]) (by
    have : 1 + (l.length - 1) = l.length := by omega
    rw [this]; simp only [nlt_self, cond_false])
  rw [show ((1 : Nat) : Int) = 1 from rfl] at this
  rw [this]
  cases allFrom (l.length - 1) 1 fun k => decide (l.getD (k - 1) 0 < l.getD k 0) <;> rfl
theorem rising_eq (l : List Int) (lo hi : Int) (h : l.length ≤ SM) : X.s_l1Rising l lo hi = some (allFrom l.length 0 fun k => pIn (l.getD k 0) lo hi && (decide (k = 0) || decide (l.getD (k - 1) 0 < l.getD k 0))) := by
 have hm := mL
 have h' := h
 unfold SM at h'
 unfold X.s_l1Rising
 rw [run_allN l.length (fun k => pIn (l.getD k 0) lo hi && (decide (k = 0) || decide (l.getD (k - 1) 0 < l.getD k 0))) (.inr false) (.inl ()) ?_ ?_]
 ·cases allFrom l.length 0 _ <;> rfl
 ·intro k hk
  simp only [lt_cast hk, cond_true, at_getD hk, Option.bind_some, s_in, W_up hk (show l.length ≤ maxLen by omega)]
  show _ = some (bif pIn (l.getD k zI) lo hi && (decide (k = 0) || decide (l.getD (k - 1) zI < l.getD k zI)) then _ else _)
  cases pIn (l.getD k zI) lo hi
  ·rfl
  simp only [Bool.not_true, cond_false, Bool.true_and]
  by_cases h0 : k = 0
  ·subst h0; simp
  ·have e0 : (k : Int) > 0 := by omega
   have e1 : W ((k : Int) - 1) = ((k - 1 : Nat) : Int) := by rw [W_of (by omega)]; omega
   simp only [e0, decide_true, cond_true, e1, at_getD (show k - 1 < l.length by omega), Option.bind_some, h0, decide_false, Bool.false_or]
   by_cases e : l.getD (k - 1) zI < l.getD k zI
   ·have e' : ¬ l.getD (k - 1) zI ≥ l.getD k zI := by omega
    simp only [e, e', decide_true, decide_false, cond_true, cond_false]
   ·have e' : l.getD (k - 1) zI ≥ l.getD k zI := by omega
    simp only [e, e', decide_true, decide_false, cond_true, cond_false]
 ·simp only [nlt_self, cond_false]
theorem rising_incr (l : List Int) (lo hi : Int) (h : ∀ k, k < l.length → pIn (l.getD k 0) lo hi = true) : (allFrom l.length 0 fun k => pIn (l.getD k 0) lo hi && (decide (k = 0) || decide (l.getD (k - 1) 0 < l.getD k 0))) = pIncr l := by
 rw [Bool.eq_iff_iff]
 unfold pIncr
 rw [allFrom_iff, allFrom_iff]
 constructor
 ·intro g j h1 h2
  have := g j (by omega) (by omega)
  simp only [Bool.and_eq_true, Bool.or_eq_true, decide_eq_true_eq] at this ⊢
  rcases this.2 with e | e
  ·omega
  ·exact e
 ·intro g j _ h2
  simp only [Bool.and_eq_true, Bool.or_eq_true, decide_eq_true_eq]
  refine ⟨h j (by omega), ?_⟩
  by_cases e : j = 0
  ·exact .inl e
  ·have := g j (by omega) (by omega)
   exact .inr (by simpa using this)
theorem edges_eq (m : TMap) (h : okSides m) (l : List Int) (hl : l.length ≤ SM) : X.s_mEdges m l = some (pEdges m l) := by
 have hm := mL
 have hl' := hl
 unfold SM at hl'
 obtain ⟨h5, h6, h7⟩ := size_eq m h
 have e3 : W ((W (3 * (W (m.Width * m.Height)))) - 1) = 3 * (m.Width * m.Height) - 1 := by rw [h5, W_of (n := 3 * (m.Width * m.Height)) (by omega), W_of (by omega)]
 unfold X.s_mEdges pEdges
 rw [run_all l (pEdge m) (.inr false) (.inl ()) rfl ?_ ?_]
 ·cases ha : l.all (pEdge m)
  ·rfl
  ·simp only [cond_true, Sum.elim_inl, X.s_mSize, Option.bind_some, Bool.true_and, e3, rising_eq l _ _ hl]
   rw [rising_incr]
   intro k hk
   have := List.all_eq_true.1 ha _ (getD_mem (z := 0) hk)
   unfold pEdge at this
   rw [Bool.and_eq_true] at this
   exact this.1
 ·intro k hk
  simp only [lt_cast hk, cond_true, at_nat hk, Option.bind_some, X.s_mSize, e3, s_in, W_up hk (show l.length ≤ maxLen by omega)]
  unfold pEdge
  cases hp : pIn l[k] 0 (3 * (m.Width * m.Height) - 1)
  ·rfl
  ·simp only [Bool.not_true, cond_false, (s_edge m h l[k]).2 hp, Option.bind_some, Bool.true_and]
   by_cases e : pNext m (l[k] / 3) (l[k] % 3) < 0
   ·have e' : ¬ 0 ≤ pNext m (l[k] / 3) (l[k] % 3) := by omega
    simp only [e, e', decide_true, decide_false, cond_true, cond_false]
   ·have e' : 0 ≤ pNext m (l[k] / 3) (l[k] % 3) := by omega
    simp only [e, e', decide_true, decide_false, cond_true, cond_false]
 ·simp only [nlt_self, cond_false]
def pMap (m : TMap) : Bool :=
 pIn m.Width 1 10 && (pIn m.Height 1 10 && (((m.Terrain.length : Int) == m.Width * m.Height) && ((m.Terrain.all fun x => pIn x 0 5) && (pEdges m m.Rivers && pEdges m m.Roads))))
theorem map_eq (m : TMap) (q : smTMap m) : X.s_mGood m = some (pMap m) ∧ X.i_IsMap m = some (pMap m) := by
 have hm := mL
 have hT : m.Terrain.length ≤ maxLen := by have := q.2.2.1.1; unfold SM at this; omega
 have ed : ∀ l : List Int, l.length ≤ SM → okSides m → ∀ {γ : Type} (f : Unit ⊕ Bool → Option γ), ((loop (fun (x167 : Int) => ((bif (decide (x167 < (l.length : Int))) then ((at' zI l x167).bind fun v170 => ((X.i_isEdge m v170).bind fun v172 => (bif (!v172) then some (Sum.inr (Sum.inr false)) else some (Sum.inl (W (x167 + 1)))))) else some (Sum.inr (Sum.inl ()))) : Option (Int ⊕ (Unit ⊕ Bool)))) 0).bind f) = f (bif l.all (pEdge m) then .inl () else .inr false) := by
  intro l hl hs γ f
  have hl' := hl
  unfold SM at hl'
  rw [run_all l (pEdge m) (.inr false) (.inl ()) rfl ?_ ?_]
  ·intro k hk
   simp only [lt_cast hk, cond_true, at_nat hk, Option.bind_some, isEdge_eq m hs, W_up hk (show l.length ≤ maxLen by omega)]
   cases pEdge m l[k] <;> rfl
  ·simp only [nlt_self, cond_false]
 unfold X.s_mGood X.i_IsMap pMap
 simp only [s_in, i_in, Option.bind_some]
 cases h1 : pIn m.Width 1 10
 ·exact ⟨rfl, rfl⟩
 cases h2 : pIn m.Height 1 10
 ·exact ⟨rfl, rfl⟩
 rw [pIn_iff] at h1 h2
 have hs : okSides m := ⟨h1.1, h1.2, h2.1, h2.2⟩
 obtain ⟨h5, h6, h7⟩ := size_eq m hs
 simp only [Bool.not_true, cond_false, cond_true, Bool.true_and, X.s_mSize, Option.bind_some, h5]
 cases h3 : (m.Terrain.length : Int) == m.Width * m.Height
 ·refine ⟨rfl, ?_⟩
  simp only [bne, h3]; rfl
 simp only [bne, h3, Bool.not_true, cond_false, cond_true, Bool.true_and]
 rw [s_all _ _ _ q.2.2.1.1]
 rw [run_all m.Terrain (fun x => pIn x 0 5) (.inr false) (.inl ()) rfl ?_ ?_]
 ·cases ht : (m.Terrain.all fun x => pIn x 0 5)
  ·exact ⟨rfl, rfl⟩
  simp only [cond_true, Sum.elim_inl, Option.bind_some, Bool.true_and, edges_eq m hs _ q.2.2.2.1.1, edges_eq m hs _ q.2.2.2.2.1.1]
  refine ⟨by cases pEdges m m.Rivers <;> rfl, ?_⟩
  rw [run_allN 2 (fun k => pIncr (([m.Rivers, m.Roads] : List (List Int)).getD k zLI) && (([m.Rivers, m.Roads] : List (List Int)).getD k zLI).all (pEdge m)) (.inr false) (.inl ()) ?_ ?_]
  ·simp only [allFrom, pEdges, Bool.and_true]
   show _ = some ((m.Rivers.all (pEdge m) && pIncr m.Rivers) && (m.Roads.all (pEdge m) && pIncr m.Roads))
   change Sum.elim _ _ (bif ((pIncr m.Rivers && m.Rivers.all (pEdge m)) && (pIncr m.Roads && m.Roads.all (pEdge m))) then _ else _) = _
   cases pIncr m.Rivers <;> cases m.Rivers.all (pEdge m) <;> cases pIncr m.Roads <;> cases m.Roads.all (pEdge m) <;> rfl
  ·intro k hk
   have g1 : (([m.Rivers, m.Roads] : List (List Int)).getD k zLI).length ≤ SM := by
    rcases (show k = 0 ∨ k = 1 by omega) with rfl | rfl
    ·exact q.2.2.2.1.1
    ·exact q.2.2.2.2.1.1
   have g2 : 0 ≤ (k : Int) ∧ (k : Int) < (([m.Rivers, m.Roads] : List (List Int)).length : Int) := ⟨by omega, by simp; omega⟩
   rw [show decide ((k : Int) < (([m.Rivers, m.Roads] : List (List Int)).length : Int)) = true from decide_eq_true g2.2]
   simp only [cond_true]
   rw [if_pos g2]
   simp only [Int.toNat_natCast]
   rw [incr_eq _ g1]
   simp only [Option.bind_some]
   cases pIncr (([m.Rivers, m.Roads] : List (List Int)).getD k zLI)
   ·rfl
   simp only [Bool.not_true, cond_false, Bool.true_and]
   rw [ed _ g1 hs]
   have : W ((k : Int) + 1) = ((k + 1 : Nat) : Int) := by rw [W_of (by omega)]; omega
   rw [this]
   cases (([m.Rivers, m.Roads] : List (List Int)).getD k zLI).all (pEdge m) <;> rfl
  ·rfl
 ·intro k hk
  have e6 : W ((6 : Int) - 1) = 5 := rfl
  simp only [lt_cast hk, cond_true, at_nat hk, Option.bind_some, X.i_isIndex, i_in, e6, W_up hk hT]
  cases pIn m.Terrain[k] 0 5 <;> rfl
 ·simp only [nlt_self, cond_false]
noncomputable def pBoard (b : TBoard) : Bool := pRules b.Rules && (pMap b.Map && b.Map.Terrain.all fun x => pIn x 0 ((b.Rules.Terrains.length : Int) - 1))
theorem board_eq (b : TBoard) (q : smTBoard b) : X.s_bGood b = some (pBoard b) ∧ X.i_IsBoard b = some (pBoard b) := by
 have hm := mL
 have hl := q.2.1.2.2.1.1
 have hl' := hl
 unfold SM at hl'
 have hn := q.1.1.1
 unfold SM at hn
 unfold X.s_bGood X.i_IsBoard pBoard
 rw [(rules_eq _ q.1).1, (rules_eq _ q.1).2, (map_eq _ q.2.1).1, (map_eq _ q.2.1).2]
 simp only [Option.bind_some]
 cases pRules b.Rules
 ·exact ⟨rfl, rfl⟩
 cases hmap : pMap b.Map
 ·exact ⟨rfl, rfl⟩
 simp only [Bool.not_true, cond_false, cond_true, Bool.true_and]
 rw [W_of (n := (b.Rules.Terrains.length : Int) - 1) (by omega), s_all _ _ _ hl]
 refine ⟨rfl, ?_⟩
 have hc : X.g_ContainsFunc_int b.Map.Terrain (fun q0 => X.i_IsBoard_1 q0 b) = some (b.Map.Terrain.any fun x => decide (x ≥ (b.Rules.Terrains.length : Int))) :=
  (hasF_eq (z := zI) (f := fun q0 => X.i_IsBoard_1 q0 b) (p := fun x => decide (x ≥ (b.Rules.Terrains.length : Int))) (by omega) (fun x _ => rfl) : _)
 rw [hc]
 simp only [Option.bind_some, Option.some.injEq]
 unfold pMap at hmap
 simp only [Bool.and_eq_true] at hmap
 have h0 := hmap.2.2.2.1
 rw [Bool.eq_iff_iff]
 simp only [Bool.not_eq_true', List.any_eq_false, List.all_eq_true, decide_eq_true_eq]
 constructor
 ·intro h x hx
  have h1 := h x hx
  have h2 := List.all_eq_true.1 h0 x hx
  rw [pIn_iff] at h2 ⊢
  omega
 ·intro h x hx
  have h1 := h x hx
  rw [pIn_iff] at h1
  omega
theorem sides_of {b : TBoard} (h : pBoard b = true) : okSides b.Map ∧ ((b.Map.Terrain.length : Int) = b.Map.Width * b.Map.Height) := by
 unfold pBoard at h
 simp only [Bool.and_eq_true] at h
 have h1 := h.2.1
 unfold pMap at h1
 simp only [Bool.and_eq_true, pIn_iff, beq_iff_eq] at h1
 exact ⟨⟨h1.1.1, h1.1.2, h1.2.1.1, h1.2.1.2⟩, h1.2.2.1⟩
theorem size_of {b : TBoard} (h : pBoard b = true) : X.s_mSize b.Map = some (b.Map.Terrain.length : Int) ∧ 1 ≤ (b.Map.Terrain.length : Int) ∧ (b.Map.Terrain.length : Int) ≤ 100 := by
 obtain ⟨hs, hl⟩ := sides_of h
 obtain ⟨h1, h2, h3⟩ := size_eq _ hs
 unfold X.s_mSize
 rw [h1, hl]
 exact ⟨rfl, h2, h3⟩
theorem i_idx (i n : Int) (hn : 0 ≤ n ∧ n ≤ (SM : Int)) : X.i_isIndex i n = some (pIn i 0 (n - 1)) := by
 unfold X.i_isIndex
 unfold SM at hn
 rw [W_of (by omega), i_in]; rfl
theorem pNext_lt {m : TMap} (h : okSides m) (i d : Int) : pNext m i d = -1 ∨ (0 ≤ pNext m i d ∧ pNext m i d < m.Width * m.Height) := pIdx_lt h
def terr (b : TBoard) (i : Nat) : TTerrain := b.Rules.Terrains.getD (b.Map.Terrain.getD i zI).toNat zTTerrain
def pCost (b : TBoard) (kind i : Nat) : Int := (terr b i).Cost.getD kind zI
theorem kinds_of {b : TBoard} (h : pBoard b = true) : 1 ≤ b.Rules.Kinds.length ∧ b.Rules.Kinds.length ≤ 4 ∧ 1 ≤ b.Rules.Terrains.length ∧ b.Rules.Terrains.length ≤ 6 ∧ (1 ≤ b.Rules.Stack ∧ b.Rules.Stack ≤ 4) ∧ (1 ≤ b.Rules.Turns ∧ b.Rules.Turns ≤ 30) := by
 unfold pBoard pRules at h
 simp only [Bool.and_eq_true, pIn_iff] at h
 omega
theorem terr_of {b : TBoard} (h : pBoard b = true) {i : Nat} (hi : i < b.Map.Terrain.length) : 0 ≤ b.Map.Terrain.getD i zI ∧ b.Map.Terrain.getD i zI < (b.Rules.Terrains.length : Int) := by
 unfold pBoard at h
 simp only [Bool.and_eq_true, List.all_eq_true, pIn_iff] at h
 have := h.2.2 _ (getD_mem (z := zI) hi)
 omega
theorem costs_of {b : TBoard} (h : pBoard b = true) {t : Nat} (ht : t < b.Rules.Terrains.length) : (b.Rules.Terrains.getD t zTTerrain).Cost.length = b.Rules.Kinds.length ∧ (∀ x ∈ (b.Rules.Terrains.getD t zTTerrain).Cost, 0 ≤ x ∧ x ≤ 9) ∧
  0 ≤ (b.Rules.Terrains.getD t zTTerrain).Height ∧ (b.Rules.Terrains.getD t zTTerrain).Height ≤ 3 ∧ -3 ≤ (b.Rules.Terrains.getD t zTTerrain).Shift ∧ (b.Rules.Terrains.getD t zTTerrain).Shift ≤ 3 := by
 unfold pBoard pRules at h
 simp only [Bool.and_eq_true, allFrom_iff] at h
 have := h.1.2.2.1 t (by omega) (by omega)
 unfold qT at this
 simp only [Bool.and_eq_true, pIn_iff, List.all_eq_true, beq_iff_eq] at this
 refine ⟨by omega, fun x hx => this.2.2.2.1 x hx, by omega, by omega, by omega, by omega⟩
theorem terr_eq {b : TBoard} (h : pBoard b = true) {i : Nat} (hi : i < b.Map.Terrain.length) : X.s_bTerrain b (i : Int) = some (terr b i) ∧ X.i_terrainAt b (i : Int) = some (terr b i) := by
 obtain ⟨h1, h2⟩ := terr_of h hi
 obtain ⟨t, ht⟩ := Int.eq_ofNat_of_zero_le h1
 have ht2 : t < b.Rules.Terrains.length := by omega
 unfold X.s_bTerrain X.i_terrainAt terr
 simp only [at_getD hi, Option.bind_some, ht, at_getD ht2, Int.toNat_natCast, and_self]
theorem cost_eq {b : TBoard} (h : pBoard b = true) {k i : Nat} (hk : k < b.Rules.Kinds.length) (hi : i < b.Map.Terrain.length) :
  X.s_bCost b (k : Int) (i : Int) = some (pCost b k i) ∧ X.i_enterCost b (k : Int) (i : Int) = some (pCost b k i) ∧ 0 ≤ pCost b k i ∧ pCost b k i ≤ 9 := by
 obtain ⟨h1, h2⟩ := terr_of h hi
 obtain ⟨t, ht⟩ := Int.eq_ofNat_of_zero_le h1
 have ht2 : t < b.Rules.Terrains.length := by omega
 obtain ⟨c1, c2, _⟩ := costs_of h ht2
 have hk2 : k < (terr b i).Cost.length := by
  unfold terr
  rw [ht, Int.toNat_natCast, c1]; exact hk
 have hc : 0 ≤ pCost b k i ∧ pCost b k i ≤ 9 := by
  unfold pCost
  refine c2 _ ?_
  have := getD_mem (z := zI) hk2
  unfold terr at this ⊢
  rw [ht, Int.toNat_natCast] at this ⊢
  exact this
 unfold X.s_bCost X.i_enterCost
 rw [(terr_eq h hi).1, (terr_eq h hi).2]
 simp only [Option.bind_some, at_getD hk2]
 exact ⟨rfl, rfl, hc⟩
def pUnit (b : TBoard) (u : TUnit) : Bool :=
 pIn u.Side 0 1 && (pIn u.Kind 0 ((b.Rules.Kinds.length : Int) - 1) && (pIn u.Steps 0 (b.Rules.Kinds.getD u.Kind.toNat zTKind).Steps &&
  ((u.At == -1) || (decide (u.Steps > 0) && (pIn u.At 0 ((b.Map.Terrain.length : Int) - 1) && decide (pCost b u.Kind.toNat u.At.toNat > 0))))))
theorem pUnit_iff {b : TBoard} {u : TUnit} (h : pUnit b u = true) : (u.Side = 0 ∨ u.Side = 1) ∧ 0 ≤ u.Kind ∧ u.Kind < (b.Rules.Kinds.length : Int) ∧ 0 ≤ u.Steps ∧ u.Steps ≤ (b.Rules.Kinds.getD u.Kind.toNat zTKind).Steps ∧
  (u.At = -1 ∨ (0 < u.Steps ∧ 0 ≤ u.At ∧ u.At < (b.Map.Terrain.length : Int) ∧ 0 < pCost b u.Kind.toNat u.At.toNat)) := by
 unfold pUnit at h
 simp only [Bool.and_eq_true, Bool.or_eq_true, pIn_iff, beq_iff_eq, decide_eq_true_eq] at h
 omega
theorem unit_eq {b : TBoard} (h : pBoard b = true) (u : TUnit) : X.s_sUnit b u = some (pUnit b u) ∧ X.i_goodUnit b u = some (pUnit b u) := by
 obtain ⟨g1, g2, _, _⟩ := kinds_of h
 obtain ⟨s1, s2, s3⟩ := size_of h
 unfold X.s_sUnit X.i_goodUnit pUnit X.i_isSide
 simp only [s_in, i_in, Option.bind_some, i_idx _ _ (show 0 ≤ (b.Rules.Kinds.length : Int) ∧ (b.Rules.Kinds.length : Int) ≤ (SM : Int) by unfold SM; omega), W_of (n := (b.Rules.Kinds.length : Int) - 1) (by omega)]
 cases pIn u.Side 0 1
 ·exact ⟨rfl, rfl⟩
 cases hk : pIn u.Kind 0 ((b.Rules.Kinds.length : Int) - 1)
 ·exact ⟨rfl, rfl⟩
 rw [pIn_iff] at hk
 obtain ⟨k, ek⟩ := Int.eq_ofNat_of_zero_le hk.1
 have hk2 : k < b.Rules.Kinds.length := by omega
 simp only [Bool.not_true, cond_false, Bool.true_and, ek, at_getD hk2, Option.bind_some, Int.toNat_natCast]
 cases pIn u.Steps 0 (b.Rules.Kinds.getD k zTKind).Steps
 ·exact ⟨rfl, rfl⟩
 cases ha : u.At == -1
 case true => exact ⟨rfl, rfl⟩
 simp only [Bool.not_true, cond_false, Bool.true_and, Bool.false_or]
 cases hst : decide (u.Steps > 0)
 ·exact ⟨rfl, rfl⟩
 simp only [cond_true, s1, X.i_sizeOf, Option.bind_some, i_idx _ _ (show 0 ≤ (b.Map.Terrain.length : Int) ∧ (b.Map.Terrain.length : Int) ≤ (SM : Int) by unfold SM; omega), W_of (n := (b.Map.Terrain.length : Int) - 1) (by omega), Bool.true_and]
 cases hp : pIn u.At 0 ((b.Map.Terrain.length : Int) - 1)
 ·exact ⟨rfl, rfl⟩
 rw [pIn_iff] at hp
 obtain ⟨i, ei⟩ := Int.eq_ofNat_of_zero_le hp.1
 have hi : i < b.Map.Terrain.length := by omega
 obtain ⟨c1, c2, c3, _⟩ := cost_eq h hk2 hi
 simp only [cond_true, ei, c1, c2, Option.bind_some, Bool.true_and, Int.toNat_natCast]
 refine ⟨trivial, ?_⟩
 congr 1
 rw [Bool.eq_iff_iff]
 simp only [bne_iff_ne, ne_eq, decide_eq_true_eq]
 omega
theorem limN {n : Nat} (h : n ≤ SM) : n + 1 ≤ LIM := by unfold SM at h; unfold LIM; omega
def pHere (us : List TUnit) (a s : Int) (k : Nat) : Bool := ((us.getD k zTUnit).At == a) && ((us.getD k zTUnit).Side == s)
theorem sAt_eq (s : TState) (a d : Int) (h : s.Units.length ≤ SM) : X.s_sAt s a d = some (idxs (pHere s.Units a d) s.Units.length) := by
 have hm := mL
 have h' := h
 unfold SM at h'
 unfold X.s_sAt
 rw [run_idxs s.Units.length (pHere s.Units a d) (fun k l => ((k : Int), l)) (fun l => l) (by rfl) ?_ ?_]
 ·intro j l hj hl
  have e : (l ++ ([(j : Int)] : List Int)).length ≤ LIM := by simp; have := limN (n := l.length) (by unfold SM; omega); omega
  simp only [lt_cast hj, cond_true, at_getD hj, Option.bind_some, W_up hj (show s.Units.length ≤ maxLen by omega), if_pos e, pHere]
  cases ((s.Units.getD j zTUnit).At == a) <;> cases ((s.Units.getD j zTUnit).Side == d) <;> rfl
 ·intro l; simp only [nlt_self, cond_false]
def cnt (us : List TUnit) (a s : Int) (k : Nat) : Nat := (idxs (pHere us a s) k).length
theorem cnt_succ (us : List TUnit) (a s : Int) (k : Nat) : cnt us a s (k + 1) = bif pHere us a s k then cnt us a s k + 1 else cnt us a s k := by
 unfold cnt
 rw [idxs_succ]
 cases pHere us a s k <;> simp
def grid (n : Nat) (us : List TUnit) (k : Nat) : List A2_I := (List.range n).map fun i : Nat => ⟨(cnt us (i : Int) 0 k : Int), (cnt us (i : Int) 1 k : Int)⟩
theorem grid_zero (n : Nat) (us : List TUnit) : List.replicate n zA2_I = grid n us 0 := by
 unfold grid cnt
 simp only [idxs_zero, List.length_nil]
 apply List.ext_getElem
 ·simp
 ·intro i h1 h2; simp [zA2_I, zI]
theorem grid_get {n : Nat} {us : List TUnit} {k i : Nat} (h : i < n) : (grid n us k).getD i zA2_I = ⟨(cnt us (i : Int) 0 k : Int), (cnt us (i : Int) 1 k : Int)⟩ := by
 unfold grid
 simp [List.getD, h]
theorem grid_len {n : Nat} {us : List TUnit} {k : Nat} : (grid n us k).length = n := by simp [grid]
theorem grid_skip {n : Nat} {us : List TUnit} {k : Nat} (h : (us.getD k zTUnit).At < 0) : grid n us (k + 1) = grid n us k := by
 unfold grid
 apply List.map_congr_left
 intro i _
 rw [cnt_succ, cnt_succ]
 have : ∀ s, pHere us (i : Int) s k = false := fun s => by
  unfold pHere
  have : ((us.getD k zTUnit).At == (i : Int)) = false := beq_eq_false_iff_ne.2 (by omega)
  rw [this]; rfl
 rw [this, this]; rfl
theorem grid_set {n : Nat} {us : List TUnit} {k a : Nat} (h : (us.getD k zTUnit).At = (a : Int)) (ha : a < n) :
  (grid n us k).set a ⟨(cnt us (a : Int) 0 (k + 1) : Int), (cnt us (a : Int) 1 (k + 1) : Int)⟩ = grid n us (k + 1) := by
 apply List.ext_getElem
 ·simp [grid]
 ·intro i h1 h2
  rw [List.getElem_set]
  by_cases e : a = i
  ·subst e; simp [grid]
  ·simp only [e, if_false]
   simp only [grid, List.getElem_map, List.getElem_range]
   have : ∀ s, pHere us (i : Int) s k = false := fun s => by
    unfold pHere
    have : ((us.getD k zTUnit).At == (i : Int)) = false := beq_eq_false_iff_ne.2 (by rw [h]; omega)
    rw [this]; rfl
   rw [cnt_succ, cnt_succ, this, this]; rfl
def pPlace (b : TBoard) (us : List TUnit) (k m : Nat) : Bool :=
 decide ((us.getD k zTUnit).At < 0) || (decide (cnt us (us.getD k zTUnit).At (1 - (us.getD k zTUnit).Side) m = 0) && decide ((cnt us (us.getD k zTUnit).At (us.getD k zTUnit).Side m : Int) ≤ b.Rules.Stack))
def pState (b : TBoard) (s : TState) : Bool :=
 pIn s.Turn 0 b.Rules.Turns && (pIn s.Weather 0 2 && (!(decide ((s.Units.length : Int) > 12)) && (allFrom s.Units.length 0 (fun k => pUnit b (s.Units.getD k zTUnit)) && allFrom s.Units.length 0 (fun k => pPlace b s.Units k s.Units.length))))
theorem place_eq (b : TBoard) (us : List TUnit) (hu : ∀ k, k < us.length → (us.getD k zTUnit).Side = 0 ∨ (us.getD k zTUnit).Side = 1) :
  allFrom us.length 0 (fun k => pPlace b us k (k + 1)) = allFrom us.length 0 (fun k => pPlace b us k us.length) := by
 rw [Bool.eq_iff_iff, allFrom_iff, allFrom_iff]
 unfold pPlace
 simp only [Bool.or_eq_true, Bool.and_eq_true, decide_eq_true_eq, Nat.zero_add]
 constructor
 ·intro h j _ hj
  by_cases ha : (us.getD j zTUnit).At < 0
  ·exact .inl ha
  right
  constructor
  ·unfold cnt
   rw [idxs_nil]
   intro i hi
   cases hp : pHere us (us.getD j zTUnit).At (1 - (us.getD j zTUnit).Side) i with
   | false => rfl
   | true =>
    exfalso
    unfold pHere at hp
    simp only [Bool.and_eq_true, beq_iff_eq] at hp
    by_cases hij : i < j
    ·rcases h j (by omega) hj with g | ⟨g, _⟩
     ·exact ha g
     ·unfold cnt at g
      rw [idxs_nil] at g
      have := g i (by omega)
      unfold pHere at this
      rw [hp.1, hp.2] at this
      simp at this
    ·have hij' : i ≠ j := by
      intro e; subst e
      have := hu i hi
      omega
     rcases h i (by omega) hi with g | ⟨g, _⟩
     ·omega
     ·unfold cnt at g
      rw [idxs_nil] at g
      have := g j (by omega)
      unfold pHere at this
      have e2 : 1 - (us.getD i zTUnit).Side = (us.getD j zTUnit).Side := by have := hu j hj; omega
      rw [hp.1, e2] at this
      simp at this
  ·
   have key : ∀ m, m ≤ us.length → j < m → (cnt us (us.getD j zTUnit).At (us.getD j zTUnit).Side m : Int) ≤ b.Rules.Stack := by
    intro m
    induction m with
    | zero => intro _ h2; omega
    | succ m ih =>
     intro h1 h2
     rw [cnt_succ]
     cases hp : pHere us (us.getD j zTUnit).At (us.getD j zTUnit).Side m with
     | true =>
      have hp' := hp
      unfold pHere at hp
      simp only [Bool.and_eq_true, beq_iff_eq] at hp
      rcases h m (by omega) (by omega) with g | ⟨_, g⟩
      ·omega
      ·rw [hp.1, hp.2, cnt_succ, hp'] at g
       exact g
     | false =>
      simp only [cond_false]
      by_cases e : j = m
      ·subst e
       unfold pHere at hp
       simp at hp
      ·exact ih (by omega) (by omega)
   exact key us.length (Nat.le_refl _) hj
 ·intro h j h0 hj
  rcases h j h0 hj with g | ⟨g1, g2⟩
  ·exact .inl g
  ·right
   constructor
   ·have := idxs_mono (p := pHere us (us.getD j zTUnit).At (1 - (us.getD j zTUnit).Side)) (show j + 1 ≤ us.length by omega)
    unfold cnt at g1 ⊢
    omega
   ·have := idxs_mono (p := pHere us (us.getD j zTUnit).At (us.getD j zTUnit).Side) (show j + 1 ≤ us.length by omega)
    unfold cnt at g2 ⊢
    omega
theorem grid_round {n : Nat} {us : List TUnit} {k a : Nat} (hk : us.length ≤ SM) (hk2 : k < us.length) (ha : (us.getD k zTUnit).At = (a : Int)) (han : a < n) :
  ((us.getD k zTUnit).Side = 0 → (grid n us k).set a (A2_I.mk (W (((grid n us k).getD a zA2_I).a0 + 1)) (((grid n us k).getD a zA2_I).a1)) = grid n us (k + 1)) ∧
  ((us.getD k zTUnit).Side = 1 → (grid n us k).set a (A2_I.mk (((grid n us k).getD a zA2_I).a0) (W (((grid n us k).getD a zA2_I).a1 + 1))) = grid n us (k + 1)) := by
 unfold SM at hk
 have l0 : cnt us (a : Int) 0 k ≤ k := idxs_len _ k
 have l1 : cnt us (a : Int) 1 k ≤ k := idxs_len _ k
 constructor
 ·intro hs
  rw [grid_get han, ← grid_set ha han]
  have p0 : pHere us (a : Int) 0 k = true := by unfold pHere; rw [ha, hs]; simp
  have p1 : pHere us (a : Int) 1 k = false := by unfold pHere; rw [hs]; simp
  rw [cnt_succ, cnt_succ, p0, p1]
  simp only [cond_true, cond_false]
  rw [W_of (by omega)]
  rfl
 ·intro hs
  rw [grid_get han, ← grid_set ha han]
  have p0 : pHere us (a : Int) 0 k = false := by unfold pHere; rw [hs]; simp
  have p1 : pHere us (a : Int) 1 k = true := by unfold pHere; rw [ha, hs]; simp
  rw [cnt_succ, cnt_succ, p0, p1]
  simp only [cond_true, cond_false]
  rw [W_of (n := (cnt us (a : Int) 1 k : Int) + 1) (by omega)]
  rfl
theorem state_eq {b : TBoard} (h : pBoard b = true) (q : smTBoard b) (s : TState) (qs : smTState s) : X.s_sGood b s = some (pState b s) ∧ X.i_goodState b s = some (pState b s) := by
 have hm := mL
 obtain ⟨g1, g2, _, _, g3, _⟩ := kinds_of h
 obtain ⟨s1, s2, s3⟩ := size_of h
 have hU := qs.2.2.1.1
 have hU' := hU
 unfold SM at hU'
 constructor
 ·unfold X.s_sGood pState
  rw [(board_eq b q).1, h]
  simp only [Option.bind_some, Bool.not_true, cond_false, s_in]
  cases pIn s.Turn 0 b.Rules.Turns
  ·rfl
  cases pIn s.Weather 0 2
  ·rfl
  cases decide ((s.Units.length : Int) > 12)
  case true => rfl
  simp only [Bool.not_true, Bool.not_false, cond_false, Bool.true_and]
  rw [run_allN s.Units.length (fun k => pUnit b (s.Units.getD k zTUnit)) (.inr false) (.inl ()) ?_ ?_]
  ·cases hall : allFrom s.Units.length 0 (fun k => pUnit b (s.Units.getD k zTUnit))
   ·rfl
   simp only [cond_true, Sum.elim_inl, Bool.true_and]
   rw [run_allN s.Units.length (fun k => pPlace b s.Units k s.Units.length) (.inr false) (.inl ()) ?_ ?_]
   ·cases allFrom s.Units.length 0 (fun k => pPlace b s.Units k s.Units.length) <;> rfl
   ·intro k hk
    have hu := pUnit_iff ((allFrom_iff _ _).1 hall k (by omega) (by omega))
    have e1 : W (1 - (s.Units.getD k zTUnit).Side) = 1 - (s.Units.getD k zTUnit).Side := W_of (by omega)
    simp only [lt_cast hk, cond_true, at_getD hk, Option.bind_some, W_up hk (show s.Units.length ≤ maxLen by omega), e1, sAt_eq s _ _ hU]
    unfold pPlace
    by_cases hA : (s.Units.getD k zTUnit).At < 0
    ·have hA' : ¬ (s.Units.getD k zTUnit).At ≥ 0 := by omega
     simp only [hA, hA', decide_true, decide_false, cond_false, Bool.true_or, cond_true]
    ·have hA' : (s.Units.getD k zTUnit).At ≥ 0 := by omega
     simp only [hA, hA', decide_true, decide_false, cond_true, Bool.false_or]
     change (bif decide ((cnt s.Units (s.Units.getD k zTUnit).At (1 - (s.Units.getD k zTUnit).Side) s.Units.length : Int) > 0) then _ else bif decide ((cnt s.Units (s.Units.getD k zTUnit).At (s.Units.getD k zTUnit).Side s.Units.length : Int) > b.Rules.Stack) then _ else _) = _
     by_cases c1 : cnt s.Units (s.Units.getD k zTUnit).At (1 - (s.Units.getD k zTUnit).Side) s.Units.length = 0
     ·have c1' : ¬ (cnt s.Units (s.Units.getD k zTUnit).At (1 - (s.Units.getD k zTUnit).Side) s.Units.length : Int) > 0 := by omega
      simp only [c1', decide_false, cond_false]
      simp only [c1, decide_true, Bool.true_and]
      by_cases c2 : (cnt s.Units (s.Units.getD k zTUnit).At (s.Units.getD k zTUnit).Side s.Units.length : Int) ≤ b.Rules.Stack
      ·have c2' : ¬ (cnt s.Units (s.Units.getD k zTUnit).At (s.Units.getD k zTUnit).Side s.Units.length : Int) > b.Rules.Stack := by omega
       simp only [c2, c2', decide_true, decide_false, cond_true, cond_false]
      ·have c2' : (cnt s.Units (s.Units.getD k zTUnit).At (s.Units.getD k zTUnit).Side s.Units.length : Int) > b.Rules.Stack := by omega
       simp only [c2, c2', decide_true, decide_false, cond_true, cond_false]
     ·have c1' : (cnt s.Units (s.Units.getD k zTUnit).At (1 - (s.Units.getD k zTUnit).Side) s.Units.length : Int) > 0 := by omega
      simp only [c1, c1', decide_true, decide_false, cond_true, cond_false, Bool.false_and]
   ·simp only [nlt_self, cond_false]
  ·intro k hk
   simp only [lt_cast hk, cond_true, at_getD hk, Option.bind_some, (unit_eq h _).1, W_up hk (show s.Units.length ≤ maxLen by omega)]
   cases pUnit b (s.Units.getD k zTUnit) <;> rfl
  ·simp only [nlt_self, cond_false]
 ·have hq : allFrom s.Units.length 0 (fun k => pUnit b (s.Units.getD k zTUnit) && pPlace b s.Units k (k + 1)) =
    (allFrom s.Units.length 0 (fun k => pUnit b (s.Units.getD k zTUnit)) && allFrom s.Units.length 0 (fun k => pPlace b s.Units k s.Units.length)) := by
   rw [allFrom_and]
   cases hall : allFrom s.Units.length 0 (fun k => pUnit b (s.Units.getD k zTUnit))
   ·rfl
   ·rw [place_eq]
    intro k hk
    exact (pUnit_iff ((allFrom_iff _ _).1 hall k (by omega) (by omega))).1
  unfold X.i_goodState pState
  rw [← hq]
  simp only [i_in, Option.bind_some, X.i_sizeOf]
  cases pIn s.Turn 0 b.Rules.Turns
  ·rfl
  cases pIn s.Weather 0 2
  ·rfl
  cases decide ((s.Units.length : Int) > 12)
  case true => rfl
  simp only [Bool.not_true, Bool.not_false, cond_false, Bool.true_and]
  have hlim : 0 ≤ (b.Map.Terrain.length : Int) ∧ (b.Map.Terrain.length : Int).toNat ≤ LIM := by unfold LIM; omega
  rw [if_pos hlim, Int.toNat_natCast]
  rw [run_allSt s.Units.length (fun k => pUnit b (s.Units.getD k zTUnit) && pPlace b s.Units k (k + 1)) (fun k => ((k : Int), grid b.Map.Terrain.length s.Units k)) (.inr false) (.inl ()) (by rw [grid_zero]; rfl) ?_ ?_]
  ·cases allFrom s.Units.length 0 (fun k => pUnit b (s.Units.getD k zTUnit) && pPlace b s.Units k (k + 1)) <;> rfl
  ·intro k hk
   simp only [lt_cast hk, cond_true, at_getD hk, Option.bind_some, (unit_eq h _).2, W_up hk (show s.Units.length ≤ maxLen by omega)]
   cases hu : pUnit b (s.Units.getD k zTUnit)
   ·rfl
   simp only [Bool.not_true, cond_false, Bool.true_and]
   obtain ⟨hside, _, _, _, _, hat⟩ := pUnit_iff hu
   rcases hat with hat | ⟨_, hat0, hat1, _⟩
   ·have hA : (s.Units.getD k zTUnit).At < 0 := by omega
    simp only [hA, decide_true, cond_true, pPlace, Bool.true_or, grid_skip hA]
   ·have hA : ¬ (s.Units.getD k zTUnit).At < 0 := by omega
    obtain ⟨a, ha⟩ := Int.eq_ofNat_of_zero_le hat0
    have han : a < b.Map.Terrain.length := by omega
    obtain ⟨r0, r1⟩ := grid_round hU hk ha han
    simp only [pPlace, hA, decide_false, cond_false, Bool.false_or]
    rw [if_pos ⟨hat0, by rw [grid_len]; exact hat1⟩]
    have w1 : W (1 - 0) = 1 := rfl
    have w0 : W (1 - 1) = 0 := rfl
    have n10 : ¬ ((1 : Int) = ((0 : Nat) : Int)) := by decide
    have e00 : (0 : Int) = ((0 : Nat) : Int) := rfl
    have e11 : (1 : Int) = ((1 : Nat) : Int) := rfl
    have n01 : ¬ ((0 : Int) = ((1 : Nat) : Int)) := by decide
    rcases hside with hs | hs
    ·have r0 := r0 hs
     rw [ha, Int.toNat_natCast, r0, hs, w1, if_pos e00, if_neg n10, if_pos e11, grid_get han]
     by_cases c1 : cnt s.Units (a : Int) 1 (k + 1) = 0
     ·have c1' : ¬ (cnt s.Units (a : Int) 1 (k + 1) : Int) > 0 := by omega
      have e10 : (1 : Int) - 0 = 1 := rfl
      simp only [decide_eq_false c1', e10, decide_eq_true c1, cond_false, Bool.true_and]
      by_cases c2 : (cnt s.Units (a : Int) 0 (k + 1) : Int) ≤ b.Rules.Stack
      ·have c2' : ¬ (cnt s.Units (a : Int) 0 (k + 1) : Int) > b.Rules.Stack := by omega
       simp only [c2, c2', decide_true, decide_false, cond_true, cond_false]
      ·have c2' : (cnt s.Units (a : Int) 0 (k + 1) : Int) > b.Rules.Stack := by omega
       simp only [c2, c2', decide_true, decide_false, cond_true, cond_false]
     ·have c1' : (cnt s.Units (a : Int) 1 (k + 1) : Int) > 0 := by omega
      have e10 : (1 : Int) - 0 = 1 := rfl
      simp only [decide_eq_true c1', cond_true, e10, decide_eq_false c1, Bool.false_and, cond_false]
    ·have r1 := r1 hs
     rw [ha, Int.toNat_natCast, r1, hs, w0, if_neg n10, if_pos e11, if_pos e00, grid_get han]
     by_cases c1 : cnt s.Units (a : Int) 0 (k + 1) = 0
     ·have c1' : ¬ (cnt s.Units (a : Int) 0 (k + 1) : Int) > 0 := by omega
      have e10 : (1 : Int) - 1 = 0 := rfl
      simp only [decide_eq_false c1', e10, decide_eq_true c1, cond_false, Bool.true_and]
      by_cases c2 : (cnt s.Units (a : Int) 1 (k + 1) : Int) ≤ b.Rules.Stack
      ·have c2' : ¬ (cnt s.Units (a : Int) 1 (k + 1) : Int) > b.Rules.Stack := by omega
       simp only [c2, c2', decide_true, decide_false, cond_true, cond_false]
      ·have c2' : (cnt s.Units (a : Int) 1 (k + 1) : Int) > b.Rules.Stack := by omega
       simp only [c2, c2', decide_true, decide_false, cond_true, cond_false]
     ·have c1' : (cnt s.Units (a : Int) 0 (k + 1) : Int) > 0 := by omega
      have e10 : (1 : Int) - 1 = 0 := rfl
      simp only [decide_eq_true c1', cond_true, e10, decide_eq_false c1, Bool.false_and, cond_false]
  ·simp only [nlt_self, cond_false]
theorem s_fits_eq {b : TBoard} (q : smTBoard b) (s : TState) (qs : smTState s) : X.s_sGood b s = some (pBoard b && pState b s) := by
 cases h : pBoard b
 ·unfold X.s_sGood
  rw [(board_eq b q).1, h]
  rfl
 ·rw [(state_eq h q s qs).1]
  rfl
theorem i_fits_eq {b : TBoard} (q : smTBoard b) (s : TState) (qs : smTState s) : X.i_fits b s = some (pBoard b && pState b s) := by
 unfold X.i_fits
 cases h : pBoard b
 ·rw [(board_eq b q).2, h]
  rfl
 ·rw [(state_eq h q s qs).2, (board_eq b q).2, h]
  rfl
theorem fits_eq {b : TBoard} (q : smTBoard b) (s : TState) (qs : smTState s) : X.s_sGood b s = some (pBoard b && pState b s) ∧ X.i_fits b s = some (pBoard b && pState b s) := ⟨s_fits_eq q s qs, i_fits_eq q s qs⟩
theorem unit_of {b : TBoard} {s : TState} (h : pState b s = true) {k : Nat} (hk : k < s.Units.length) : pUnit b (s.Units.getD k zTUnit) = true := by
 unfold pState at h
 simp only [Bool.and_eq_true, allFrom_iff] at h
 exact h.2.2.2.1 k (by omega) (by omega)
theorem units_of {b : TBoard} {s : TState} (h : pState b s = true) : s.Units.length ≤ 12 := by
 unfold pState at h
 simp only [Bool.and_eq_true, Bool.not_eq_true', decide_eq_false_iff_not] at h
 have := h.2.2.1
 omega
theorem has_eq (l : List Int) (x : Int) (h : l.length ≤ maxLen) : X.s_l1Has l x = some (l.any fun v => v == x) := by
 unfold X.s_l1Has
 rw [run_all l (fun v => !(v == x)) (.inr true) (.inl ()) rfl ?_ ?_]
 ·rw [List.any_eq_not_all_not]
  cases l.all fun v => !(v == x) <;> rfl
 ·intro k hk
  simp only [lt_cast hk, cond_true, at_nat hk, Option.bind_some, W_up hk h]
  cases l[k] == x <;> rfl
 ·simp only [nlt_self, cond_false]
theorem any_comm (l : List Int) (e : Int) : (l.any fun v => e == v) = l.any fun v => v == e := by
 congr 1
 funext x
 rw [Bool.eq_iff_iff]; simp only [beq_iff_eq]; exact eq_comm
def pEdgeOf (m : TMap) (i d : Int) : Int := bif decide (d < 3) then 3 * i + d else 3 * pNext m i d + d - 3
theorem edge_eq (m : TMap) (h : okSides m) (i d : Int) (hi : 0 ≤ i ∧ i < 100) (hd : 0 ≤ d ∧ d < 6) (hn : 0 ≤ pNext m i d) : X.s_mEdge m i d = some (pEdgeOf m i d) ∧ X.i_edgeOf m i d = some (pEdgeOf m i d) := by
 obtain ⟨h5, h6, h7⟩ := size_eq m h
 obtain ⟨e1, e2⟩ := next_eq m h i d (by omega) hd
 have hb := pNext_lt h i d
 unfold X.s_mEdge X.i_edgeOf pEdgeOf
 rw [e1, e2]
 have hn' : ¬ pNext m i d < 0 := by omega
 simp only [Option.bind_some, decide_eq_false hn', cond_false]
 rw [W_of (n := 3 * i) (by omega), W_of (n := 3 * i + d) (by omega), W_of (n := 3 * pNext m i d) (by omega), W_of (n := 3 * pNext m i d + d) (by omega), W_of (n := 3 * pNext m i d + d - 3) (by omega)]
 cases decide (d < 3) <;> exact ⟨rfl, rfl⟩
theorem roads_of {b : TBoard} (q : smTBoard b) : b.Map.Rivers.length ≤ maxLen ∧ b.Map.Roads.length ≤ maxLen := by
 have h1 := q.2.1.2.2.2.1.1
 have h2 := q.2.1.2.2.2.2.1.1
 have := mL
 unfold SM at h1 h2
 omega
theorem limL {n : Nat} (h : n ≤ 1048576) : n + 1 ≤ LIM := by unfold LIM; omega
theorem hexes_eq {b : TBoard} (hl : b.Map.Terrain.length ≤ SM) {f : Int → Option Bool} {p : Nat → Bool} (hf : ∀ j, j < b.Map.Terrain.length → f (j : Int) = some (p j)) : X.i_hexesThat b f = some (idxs p b.Map.Terrain.length) := by
 have hm := mL
 unfold SM at hl
 unfold X.i_hexesThat
 rw [run_idxs b.Map.Terrain.length p (fun k l => ((k : Int), l)) (fun l => l) (by rfl) ?_ ?_]
 ·intro j l hj hl'
  have e : (l ++ ([(j : Int)] : List Int)).length ≤ LIM := by simp; exact limL (by omega)
  simp only [lt_cast hj, cond_true, hf j hj, Option.bind_some, W_up hj (show b.Map.Terrain.length ≤ maxLen by omega), if_pos e]
  cases p j <;> rfl
 ·intro l; simp only [nlt_self, cond_false]
theorem set_get {l : List Int} {i j : Nat} {x : Int} (hi : i < l.length) : (l.set i x).getD j zI = if i = j then x else l.getD j zI := by
 by_cases e : i = j
 ·subst e; simp [List.getD, hi]
 ·simp [List.getD, List.getElem?_set, e]
def unset (l : List Int) : Nat := l.countP fun v => decide (v < 0)
theorem unset_set {l : List Int} {i : Nat} {x : Int} (hi : i < l.length) (h0 : l.getD i zI < 0) (hx : 0 ≤ x) : unset (l.set i x) + 1 = unset l := by
 have hg : l.getD i zI = l[i] := by simp [List.getD, hi]
 unfold unset
 rw [List.countP_set hi]
 have h1 : decide (l[i] < 0) = true := by rw [← hg]; exact decide_eq_true h0
 have h2 : decide (x < 0) = false := decide_eq_false (by omega)
 have h3 : 0 < l.countP fun v => decide (v < 0) := List.countP_pos_iff.2 ⟨l[i], List.getElem_mem hi, h1⟩
 simp only [h1, h2, if_true, Bool.false_eq_true, if_false]
 omega
structure Bfs (N : Nat) (p : List Int × List Int) : Prop where
 len : p.1.length = N
 el : ∀ j, j < p.2.length → ∃ x : Nat, p.2.getD j zI = (x : Int) ∧ x < N ∧ 0 ≤ p.1.getD x zI ∧ p.1.getD x zI ≤ (j : Int)
 sz : p.2.length + unset p.1 ≤ 200
noncomputable def pStep (b : TBoard) (kind w : Int) (i d : Nat) : Int := (X.i_stepCost b kind w (i : Int) (d : Int)).getD 0
theorem step_cost {b : TBoard} (hb : pBoard b = true) (q : smTBoard b) {kind : Nat} (hk : kind < b.Rules.Kinds.length) {w : Int} (hw : 0 ≤ w ∧ w ≤ 2) {i d : Nat} (hi : i < b.Map.Terrain.length) (hd : d < 6) :
  X.s_cStep b (kind : Int) (i : Int) (d : Int) w = some (pStep b (kind : Int) w i d) ∧ X.i_stepCost b (kind : Int) w (i : Int) (d : Int) = some (pStep b (kind : Int) w i d) ∧ (0 ≤ pStep b (kind : Int) w i d ∧ pStep b (kind : Int) w i d ≤ 100) ∧
   (pStep b (kind : Int) w i d ≠ 0 → ∃ y : Nat, pNext b.Map (i : Int) (d : Int) = (y : Int) ∧ y < b.Map.Terrain.length) := by
 obtain ⟨hsd, hl⟩ := sides_of hb
 obtain ⟨_, s2, s3⟩ := size_of hb
 obtain ⟨hr1, hr2⟩ := roads_of q
 have hrr : 0 ≤ b.Rules.Road ∧ b.Rules.Road ≤ 20 ∧ 0 ≤ b.Rules.River ∧ b.Rules.River ≤ 20 := by
  unfold pBoard pRules at hb
  simp only [Bool.and_eq_true, pIn_iff] at hb
  omega
 have key : ∃ v : Int, X.s_cStep b (kind : Int) (i : Int) (d : Int) w = some v ∧ X.i_stepCost b (kind : Int) w (i : Int) (d : Int) = some v ∧ (0 ≤ v ∧ v ≤ 100) ∧ (v ≠ 0 → ∃ y : Nat, pNext b.Map (i : Int) (d : Int) = (y : Int) ∧ y < b.Map.Terrain.length) := by
  obtain ⟨e1, e2⟩ := next_eq b.Map hsd (i : Int) (d : Int) (by omega) (by omega)
  have hnl := pNext_lt hsd (i : Int) (d : Int)
  unfold X.s_cStep X.i_stepCost
  rw [e1, e2]
  simp only [Option.bind_some]
  by_cases hn : pNext b.Map (i : Int) (d : Int) < 0
  ·simp only [decide_eq_true hn, cond_true]
   exact ⟨0, rfl, rfl, by omega, fun h => absurd rfl h⟩
  ·obtain ⟨g1, g2⟩ := edge_eq b.Map hsd (i : Int) (d : Int) (by omega) (by omega) (by omega)
   obtain ⟨y, hy⟩ := Int.eq_ofNat_of_zero_le (show 0 ≤ pNext b.Map (i : Int) (d : Int) by omega)
   have hyl : y < b.Map.Terrain.length := by omega
   obtain ⟨c1, c2, c3, c4⟩ := cost_eq hb hk hyl
   have ex : ∀ v : Int, v ≠ 0 → ∃ y : Nat, pNext b.Map (i : Int) (d : Int) = (y : Int) ∧ y < b.Map.Terrain.length := fun _ _ => ⟨y, hy, hyl⟩
   simp only [decide_eq_false hn, cond_false, hy, c1, c2, Option.bind_some]
   rw [hy] at ex
   cases pCost b kind y == 0
   case true => exact ⟨0, rfl, rfl, by omega, fun h => absurd rfl h⟩
   simp only [cond_false, X.s_mRoad, X.s_mRiver, g1, g2, Option.bind_some, has_eq _ _ hr1, has_eq _ _ hr2, contains_int _ _ hr1, contains_int _ _ hr2, any_comm]
   have ew : X.s_csWeather w true = some (if w = 2 then 1 else 0) ∧ X.i_weatherCost w true = some (if w = 2 then 1 else 0) ∧ X.s_csWeather w false = some w ∧ X.i_weatherCost w false = some w := by
    have : w = 0 ∨ w = 1 ∨ w = 2 := by omega
    rcases this with rfl | rfl | rfl <;> exact ⟨rfl, rfl, rfl, rfl⟩
   simp only [ew.1, ew.2.1, ew.2.2.1, ew.2.2.2, Option.bind_some]
   have hz : 0 ≤ (if w = 2 then (1 : Int) else 0) ∧ (if w = 2 then (1 : Int) else 0) ≤ 1 := by split <;> omega
   generalize (if w = 2 then (1 : Int) else 0) = z at hz
   cases b.Map.Roads.any fun v => v == pEdgeOf b.Map (i : Int) (d : Int)
   ·simp only [cond_false]
    rw [W_of (n := pCost b kind y + w) (by omega), W_of (n := pCost b kind y + w + b.Rules.River) (by omega)]
    cases b.Map.Rivers.any fun v => v == pEdgeOf b.Map (i : Int) (d : Int)
    ·exact ⟨_, rfl, rfl, by omega, fun h => ex _ h⟩
    ·exact ⟨_, rfl, rfl, by omega, fun h => ex _ h⟩
   ·simp only [cond_true]
    rw [W_of (by omega)]
    exact ⟨_, rfl, rfl, by omega, fun h => ex _ h⟩
 obtain ⟨v, h1, h2, h3, h4⟩ := key
 have : pStep b (kind : Int) w i d = v := by unfold pStep; rw [h2]; rfl
 rw [this]
 exact ⟨h1, h2, h3, h4⟩
inductive Wlk (E : Nat → Nat → Int → Prop) (src : Nat) : Nat → Int → Prop
 | nil : Wlk E src src 0
 | step {x y : Nat} {n c : Int} : Wlk E src x n → E x y c → Wlk E src y (n + c)
theorem wlk_le {E : Nat → Nat → Int → Prop} {src : Nat} {o : Nat → Int} (h0 : o src = 0) (hf : ∀ x y c, E x y c → 0 ≤ o x → 0 ≤ o y ∧ o y ≤ o x + c) {y : Nat} {n : Int} (h : Wlk E src y n) : 0 ≤ o y ∧ o y ≤ n := by
 induction h with
 | nil => omega
 | step hw he ih => have := hf _ _ _ he ih.1; omega
def Edg (b : TBoard) (kind w : Int) (x y : Nat) (c : Int) : Prop := x < b.Map.Terrain.length ∧ ∃ d : Nat, d < 6 ∧ pNext b.Map (x : Int) (d : Int) = (y : Int) ∧ c = pStep b kind w x d ∧ c ≠ 0
structure Rz (b : TBoard) (kind w : Int) (src : Nat) (o : List Int) : Prop where
 len : o.length = b.Map.Terrain.length
 src0 : o.getD src zI = 0
 bd : ∀ k, k < o.length → -1 ≤ o.getD k zI ∧ o.getD k zI ≤ 100 * ((b.Map.Terrain.length : Int) - (unset o : Int))
 wk : ∀ k, k < o.length → 0 ≤ o.getD k zI → Wlk (Edg b kind w) src k (o.getD k zI)
def Fixd (b : TBoard) (kind w : Int) (o : List Int) (x d : Nat) : Prop := pStep b kind w x d ≠ 0 → 0 ≤ o.getD x zI → ∀ y : Nat, pNext b.Map (x : Int) (d : Int) = (y : Int) → 0 ≤ o.getD y zI ∧ o.getD y zI ≤ o.getD x zI + pStep b kind w x d
theorem unset_le (l : List Int) : unset l ≤ l.length := List.countP_le_length
theorem unset_same {l : List Int} {i : Nat} {x : Int} (hi : i < l.length) (h0 : 0 ≤ l.getD i zI) (hx : 0 ≤ x) : unset (l.set i x) = unset l := by
 have hg : l.getD i zI = l[i] := by simp [List.getD, hi]
 unfold unset
 rw [List.countP_set hi]
 have h1 : decide (l[i] < 0) = false := by rw [← hg]; exact decide_eq_false (by omega)
 have h2 : decide (x < 0) = false := decide_eq_false (by omega)
 simp [h1, h2]
theorem rz_set {b : TBoard} {kind w : Int} {src : Nat} {o : List Int} (h : Rz b kind w src o) {x y d : Nat} (hx : x < o.length) (hy : y < o.length) (hd : d < 6) (hn : pNext b.Map (x : Int) (d : Int) = (y : Int))
  (hc : 0 < pStep b kind w x d ∧ pStep b kind w x d ≤ 100) (h0 : 0 ≤ o.getD x zI) (hup : o.getD y zI < 0 ∨ o.getD x zI + pStep b kind w x d < o.getD y zI) : Rz b kind w src (o.set y (o.getD x zI + pStep b kind w x d)) := by
 have hbx := h.bd x hx
 have hsy : y ≠ src := fun e => by
  subst e
  have := h.src0
  rcases hup with hup | hup <;> omega
 have hun : (unset (o.set y (o.getD x zI + pStep b kind w x d)) : Int) ≤ unset o ∧ (o.getD y zI < 0 → (unset (o.set y (o.getD x zI + pStep b kind w x d)) : Int) + 1 = unset o) := by
  by_cases e : o.getD y zI < 0
  ·have := unset_set hy e (show 0 ≤ o.getD x zI + pStep b kind w x d by omega)
   exact ⟨by omega, fun _ => by omega⟩
  ·have := unset_same hy (show 0 ≤ o.getD y zI by omega) (show 0 ≤ o.getD x zI + pStep b kind w x d by omega)
   exact ⟨by omega, fun e' => absurd e' e⟩
 refine ⟨by simp [h.len], ?_, fun k hk => ?_, fun k hk hpos => ?_⟩
 ·rw [set_get hy, if_neg hsy]; exact h.src0
 ·simp only [List.length_set] at hk
  rw [set_get hy]
  split
  ·rename_i e
   refine ⟨by omega, ?_⟩
   by_cases e' : o.getD y zI < 0
   ·have := hun.2 e'; omega
   ·have hby := h.bd y hy
    have := hun.1
    omega
  ·have := h.bd k hk
   have := hun.1
   omega
 ·simp only [List.length_set] at hk
  rw [set_get hy] at hpos ⊢
  split
  ·rename_i e
   subst e
   exact .step (h.wk x hx h0) ⟨by rw [← h.len]; exact hx, d, hd, hn, rfl, by omega⟩
  ·rename_i e
   rw [if_neg e] at hpos
   exact h.wk k hk hpos
theorem rz_uniq {b : TBoard} {kind w : Int} {src : Nat} {o o' : List Int} (h : Rz b kind w src o) (h' : Rz b kind w src o') (hf : ∀ x, x < o.length → ∀ d, d < 6 → Fixd b kind w o x d) (hf' : ∀ x, x < o'.length → ∀ d, d < 6 → Fixd b kind w o' x d) : o = o' := by
 have fx : ∀ {o : List Int}, Rz b kind w src o → (∀ x, x < o.length → ∀ d, d < 6 → Fixd b kind w o x d) → ∀ x y c, Edg b kind w x y c → 0 ≤ o.getD x zI → 0 ≤ o.getD y zI ∧ o.getD y zI ≤ o.getD x zI + c := fun {o} h hf x y c ⟨h1, d, h2, h3, h4, h5⟩ h0 => by
  subst h4
  exact hf x (by rw [h.len]; exact h1) d h2 h5 h0 y h3
 refine List.ext_getElem (by rw [h.len, h'.len]) fun k h1 h2 => ?_
 have e1 : o.getD k zI = o[k] := by simp [List.getD, h1]
 have e2 : o'.getD k zI = o'[k] := by simp [List.getD, h2]
 have b1 := h.bd k h1
 have b2 := h'.bd k h2
 have a1 : 0 ≤ o.getD k zI → 0 ≤ o'.getD k zI ∧ o'.getD k zI ≤ o.getD k zI := fun q => wlk_le (o := fun k => o'.getD k zI) h'.src0 (fx h' hf') (h.wk k h1 q)
 have a2 : 0 ≤ o'.getD k zI → 0 ≤ o.getD k zI ∧ o.getD k zI ≤ o'.getD k zI := fun q => wlk_le (o := fun k => o.getD k zI) h.src0 (fx h hf) (h'.wk k h2 q)
 rw [← e1, ← e2]
 by_cases q : 0 ≤ o.getD k zI
 ·have := a1 q; have := a2 this.1; omega
 ·by_cases q' : 0 ≤ o'.getD k zI
  ·have := a2 q'; omega
  ·omega
def msum : List Int → Nat
 | [] => 0
 | v :: r => (if v < 0 then 20000 else v.toNat) + msum r
theorem msum_set : ∀ (l : List Int) (i : Nat) (x : Int), i < l.length → 0 ≤ x → x < 20000 → (l.getD i zI < 0 ∨ x < l.getD i zI) → msum (l.set i x) < msum l
 | [], i, x, h, _, _, _ => by simp at h
 | v :: r, 0, x, _, h0, h1, h2 => by
  have e : (v :: r).getD 0 zI = v := rfl
  rw [e] at h2
  simp only [List.set_cons_zero, msum, if_neg (show ¬ x < 0 by omega)]
  split <;> omega
 | v :: r, i + 1, x, h, h0, h1, h2 => by
  have e : (v :: r).getD (i + 1) zI = r.getD i zI := rfl
  rw [e] at h2
  have := msum_set r i x (by simpa using h) h0 h1 h2
  simp only [List.set_cons_succ, msum]; omega
theorem fill_run {γ : Type} {f : List Int → Option γ} (n : Nat) (hn : n ≤ 100) {body : Int × List Int → Option ((Int × List Int) ⊕ List Int)}
  (hb : ∀ (i : Int) (l : List Int), body (i, l) = bif decide (i < (n : Int)) then (if 0 ≤ i ∧ i < (l.length : Int) then some (Sum.inl ((W (i + 1)), (l.set i.toNat (-1)))) else none) else some (Sum.inr l)) :
  (loop body (0, List.replicate n zI)).bind f = f (List.replicate n (-1)) := by
 rw [run_st n (fun k => ((k : Int), List.replicate k (-1) ++ List.replicate (n - k) zI)) (List.replicate n (-1)) (by simp) ?_ ?_]
 ·intro k hk
  have hl : (List.replicate k (-1 : Int) ++ List.replicate (n - k) zI).length = n := by simp; omega
  have e : (List.replicate k (-1 : Int) ++ List.replicate (n - k) zI).set k (-1) = List.replicate (k + 1) (-1) ++ List.replicate (n - (k + 1)) zI := by
   rw [List.set_append_right _ _ (by simp)]
   simp only [List.length_replicate, Nat.sub_self]
   obtain ⟨m, hm⟩ : ∃ m, n - k = m + 1 := ⟨n - k - 1, by omega⟩
   rw [hm, show n - (k + 1) = m by omega, List.replicate_succ, List.set_cons_zero, List.replicate_succ', List.append_assoc]; rfl
  have hm := mL
  rw [hb, hl, if_pos (by omega), Int.toNat_natCast, e, decide_eq_true (by omega), cond_true, W_of (by omega)]
  rfl
 ·rw [hb, decide_eq_false (by omega), cond_false]
  simp
theorem rz_first (b : TBoard) (kind w : Int) {src : Nat} (hs : src < b.Map.Terrain.length) : Rz b kind w src ((List.replicate b.Map.Terrain.length (-1)).set src 0) := by
 have hl : src < (List.replicate b.Map.Terrain.length (-1 : Int)).length := by simpa using hs
 have hr : ∀ k, k < b.Map.Terrain.length → (List.replicate b.Map.Terrain.length (-1 : Int)).getD k zI = -1 := fun k hk => by simp [List.getD, hk]
 have hu := unset_set hl (by rw [hr src hs]; omega) (Int.le_refl 0)
 have hu2 := unset_le (List.replicate b.Map.Terrain.length (-1 : Int))
 simp only [List.length_replicate] at hu2
 refine ⟨by simp, by rw [set_get hl, if_pos rfl], fun k hk => ?_, fun k hk h0 => ?_⟩
 ·simp only [List.length_set, List.length_replicate] at hk
  rw [set_get hl]
  split
  ·omega
  ·rw [hr k hk]; omega
 ·simp only [List.length_set, List.length_replicate] at hk
  rw [set_get hl] at h0 ⊢
  split
  ·rename_i e; subst e; exact .nil
  ·rename_i e; rw [if_neg e, hr k hk] at h0; omega
theorem rlx {b : TBoard} (hb : pBoard b = true) (q : smTBoard b) {kind : Nat} (hk : kind < b.Rules.Kinds.length) {w : Int} (hw : 0 ≤ w ∧ w ≤ 2) {src : Nat} {o : List Int} (h : Rz b (kind : Int) w src o) {x d : Nat} (hx : x < b.Map.Terrain.length) (hd : d < 6) (hc : pStep b (kind : Int) w x d ≠ 0) :
  ∃ y : Nat, pNext b.Map (x : Int) (d : Int) = (y : Int) ∧ y < o.length ∧ (0 ≤ o.getD x zI → W (o.getD x zI + pStep b (kind : Int) w x d) = o.getD x zI + pStep b (kind : Int) w x d) ∧ 0 < pStep b (kind : Int) w x d ∧
   (0 ≤ o.getD x zI → (o.getD y zI < 0 ∨ o.getD x zI + pStep b (kind : Int) w x d < o.getD y zI) → Rz b (kind : Int) w src (o.set y (o.getD x zI + pStep b (kind : Int) w x d)) ∧ msum (o.set y (o.getD x zI + pStep b (kind : Int) w x d)) < msum o) ∧
   (0 ≤ o.getD y zI → o.getD y zI ≤ o.getD x zI + pStep b (kind : Int) w x d → Fixd b (kind : Int) w o x d) := by
 obtain ⟨_, _, s3, s4⟩ := step_cost hb q hk hw hx hd
 obtain ⟨y, y1, y2⟩ := s4 hc
 obtain ⟨_, z2, z3⟩ := size_of hb
 have hl := h.len
 have hbx := h.bd x (by omega)
 have hpos : 0 < pStep b (kind : Int) w x d := by omega
 refine ⟨y, y1, by omega, fun h0 => W_of (by omega), hpos, fun h0 hup => ⟨rz_set h (by omega) (by omega) hd y1 ⟨hpos, by omega⟩ h0 hup, msum_set o y _ (by omega) (by omega) (by omega) hup⟩, fun g1 g2 _ _ y' hy' => ?_⟩
 have : y' = y := by omega
 subst this
 exact ⟨g1, g2⟩
def RzF (b : TBoard) (kind w : Int) (src : Nat) (o : List Int) : Prop := Rz b kind w src o ∧ ∀ x, x < b.Map.Terrain.length → ∀ d, d < 6 → Fixd b kind w o x d
structure Pass (b : TBoard) (kind w : Int) (src : Nat) (o0 : List Int) (x d : Nat) (ch : Bool) (o : List Int) : Prop where
 rz : Rz b kind w src o
 same : ch = false → o = o0 ∧ (∀ x', x' < x → ∀ d', d' < 6 → Fixd b kind w o0 x' d') ∧ ∀ d', d' < d → Fixd b kind w o0 x d'
 less : ch = true → msum o < msum o0
theorem Pass.fix {b : TBoard} {kind w : Int} {src : Nat} {o0 : List Int} {x d : Nat} {ch : Bool} {o : List Int} (h : Pass b kind w src o0 x d ch o) (hf : Fixd b kind w o x d) : Pass b kind w src o0 x (d + 1) ch o :=
 ⟨h.rz, fun e => by
  obtain ⟨e1, e2, e3⟩ := h.same e
  refine ⟨e1, e2, fun d' hd' => ?_⟩
  by_cases e : d' = d
  ·subst e; rw [← e1]; exact hf
  ·exact e3 d' (by omega), h.less⟩
theorem Pass.low {b : TBoard} {kind w : Int} {src : Nat} {o0 : List Int} {x d : Nat} {ch : Bool} {o o' : List Int} (h : Pass b kind w src o0 x d ch o) (h1 : Rz b kind w src o') (h2 : msum o' < msum o) : Pass b kind w src o0 x (d + 1) true o' :=
 ⟨h1, fun e => absurd e (by decide), fun _ => by
  cases ch with
  | false => rw [← (h.same rfl).1]; exact h2
  | true => have := h.less rfl; omega⟩
theorem Pass.next {b : TBoard} {kind w : Int} {src : Nat} {o0 : List Int} {x : Nat} {ch : Bool} {o : List Int} (h : Pass b kind w src o0 x 6 ch o) : Pass b kind w src o0 (x + 1) 0 ch o :=
 ⟨h.rz, fun e => by
  obtain ⟨e1, e2, e3⟩ := h.same e
  refine ⟨e1, fun x' hx' => ?_, fun d' hd' => by omega⟩
  by_cases e : x' = x
  ·subst e; exact e3
  ·exact e2 x' (by omega), h.less⟩
theorem relaxed_eq {b : TBoard} (hb : pBoard b = true) (q : smTBoard b) {kind : Nat} (hk : kind < b.Rules.Kinds.length) {w : Int} (hw : 0 ≤ w ∧ w ≤ 2) {src : Nat} (hs : src < b.Map.Terrain.length) :
  ∃ o, X.i_relaxed b (kind : Int) w (src : Int) false [] = some o ∧ RzF b (kind : Int) w src o := by
 obtain ⟨_, z2, z3⟩ := size_of hb
 obtain ⟨hsd, hl⟩ := sides_of hb
 have hm := mL
 unfold X.i_relaxed
 rw [show X.i_sizeOf b = some (b.Map.Terrain.length : Int) from rfl]
 simp only [Option.bind_some, Int.toNat_natCast, List.length_replicate]
 rw [if_pos ⟨by omega, by unfold LIM; omega⟩, fill_run _ (by omega) (fun _ _ => ?_)]
 rotate_left
 ·rfl
 simp only [List.length_replicate, Int.toNat_natCast]
 rw [if_pos ⟨by omega, by omega⟩]
 refine run_ind (fun t => ∃ o, t = some o ∧ RzF b (kind : Int) w src o) (fun s => Rz b (kind : Int) w src s.2 ∧ (s.1 = false → ∀ x, x < b.Map.Terrain.length → ∀ d, d < 6 → Fixd b (kind : Int) w s.2 x d)) (fun s => 2 * msum s.2 + (if s.1 = true then 1 else 0)) (RzF b (kind : Int) w src) ⟨rz_first b _ w hs, fun e => by cases e⟩ ?_ fun r hr => ⟨r, rfl, hr⟩
 rintro ⟨ch, o⟩ ⟨h1, h2⟩
 cases ch with
 | false => exact .inr ⟨o, rfl, h1, h2 rfl⟩
 | true =>
 left
 simp only [cond_true]
 refine run_ind (fun t => ∃ s' : Bool × List Int, t = some (Sum.inl s') ∧ (Rz b (kind : Int) w src s'.2 ∧ (s'.1 = false → ∀ x, x < b.Map.Terrain.length → ∀ d, d < 6 → Fixd b (kind : Int) w s'.2 x d)) ∧ 2 * msum s'.2 + (if s'.1 = true then 1 else 0) < 2 * msum o + (if True then 1 else 0))
  (fun s => ∃ x : Nat, s.2.1 = (x : Int) ∧ x ≤ b.Map.Terrain.length ∧ Pass b (kind : Int) w src o x 0 s.1 s.2.2) (fun s => b.Map.Terrain.length - s.2.1.toNat) (fun r => Pass b (kind : Int) w src o b.Map.Terrain.length 0 r.1 r.2)
  ⟨0, rfl, Nat.zero_le _, h1, fun _ => ⟨rfl, fun _ h => by omega, fun _ h => by omega⟩, fun e => Bool.noConfusion e⟩ ?_ ?_
 ·rintro ⟨c, xi, o1⟩ ⟨x, hxe, hx, hp⟩
  dsimp only at hxe hp ⊢
  subst hxe
  by_cases hxl : x < b.Map.Terrain.length
  ·left
   rw [h1.len, lt_cast hxl, cond_true]
   refine run_ind (fun t => ∃ s' : Bool × Int × List Int, t = some (Sum.inl s') ∧ (∃ x : Nat, s'.2.1 = (x : Int) ∧ x ≤ b.Map.Terrain.length ∧ Pass b (kind : Int) w src o x 0 s'.1 s'.2.2) ∧ b.Map.Terrain.length - s'.2.1.toNat < b.Map.Terrain.length - (x : Int).toNat)
    (fun s => ∃ d : Nat, s.2.1 = (d : Int) ∧ d ≤ 6 ∧ Pass b (kind : Int) w src o x d s.1 s.2.2) (fun s => 6 - s.2.1.toNat) (fun r => Pass b (kind : Int) w src o x 6 r.1 r.2) ⟨0, rfl, Nat.zero_le _, hp⟩ ?_ ?_
   ·rintro ⟨c2, di, o2⟩ ⟨d, hde, hd, hp2⟩
    dsimp only at hde hp2 ⊢
    subst hde
    by_cases hd6 : d < 6
    ·left
     have hz : ∀ (c' : Bool) (o' : List Int), Pass b (kind : Int) w src o x (d + 1) c' o' → (∃ d' : Nat, ((d + 1 : Nat) : Int) = (d' : Int) ∧ d' ≤ 6 ∧ Pass b (kind : Int) w src o x d' c' o') ∧ 6 - (((d + 1 : Nat) : Int)).toNat < 6 - ((d : Int)).toNat := fun c' o' h => ⟨⟨d + 1, rfl, by omega, h⟩, by omega⟩
     have h6 : decide ((d : Int) < 6) = true := decide_eq_true (by omega)
     simp only [h6, cond_true, (step_cost hb q hk hw hxl hd6).2.1, Option.bind_some, W_succ (show d < 4611686018427387904 by omega)]
     by_cases hc : pStep b (kind : Int) w x d = 0
     ·simp only [hc, beq_self_eq_true, cond_true]
      exact ⟨_, rfl, hz _ _ (hp2.fix fun h => absurd hc h)⟩
     ·obtain ⟨y, y1, y2, y3, y4, y5, y6⟩ := rlx hb q hk hw hp2.rz hxl hd6 hc
      have hbne : (pStep b (kind : Int) w x d == 0) = false := beq_eq_false_iff_ne.2 hc
      have hxo : x < o2.length := by rw [hp2.rz.len]; exact hxl
      simp only [hbne, cond_false, (next_eq b.Map hsd (x : Int) (d : Int) (by omega) (by omega)).2, y1, Option.bind_some, contains_int [] _ (by simp), List.any_nil, Int.toNat_natCast]
      rw [if_pos ⟨by omega, by omega⟩]
      by_cases h0 : o2.getD x zI ≥ 0
      ·rw [decide_eq_true h0, cond_true, if_pos ⟨by omega, by omega⟩]
       simp only [y3 h0]
       by_cases ha : o2.getD y zI < 0
       ·rw [decide_eq_true ha, cond_true]
        have := y5 h0 (.inl ha)
        exact ⟨_, rfl, hz _ _ (hp2.low this.1 this.2)⟩
       ·rw [decide_eq_false ha, cond_false]
        by_cases hlt : o2.getD x zI + pStep b (kind : Int) w x d < o2.getD y zI
        ·rw [decide_eq_true hlt, cond_true]
         have := y5 h0 (.inr hlt)
         exact ⟨_, rfl, hz _ _ (hp2.low this.1 this.2)⟩
        ·rw [decide_eq_false hlt, cond_false]
         exact ⟨_, rfl, hz _ _ (hp2.fix (y6 (by omega) (by omega)))⟩
      ·rw [decide_eq_false h0, cond_false]
       exact ⟨_, rfl, hz _ _ (hp2.fix fun _ h => absurd h h0)⟩
    ·right
     have : d = 6 := by omega
     subst this
     exact ⟨(c2, o2), rfl, hp2⟩
   ·rintro ⟨c2, o2⟩ hp2
    dsimp only at hp2 ⊢
    rw [W_succ (show x < 4611686018427387904 by omega)]
    refine ⟨_, rfl, ⟨x + 1, rfl, by omega, hp2.next⟩, ?_⟩
    dsimp only
    omega
  ·right
   have : x = b.Map.Terrain.length := by omega
   subst this
   rw [h1.len, nlt_self, cond_false]
   exact ⟨_, rfl, hp⟩
 ·rintro ⟨c, o1⟩ hp
  refine ⟨_, rfl, ⟨hp.rz, fun e => ?_⟩, ?_⟩
  ·dsimp only at e hp ⊢
   obtain ⟨e1, e2, _⟩ := hp.same e
   rw [e1]; exact e2
  ·dsimp only at hp ⊢
   cases c with
   | false => rw [(hp.same rfl).1]; simp
   | true => have := hp.less rfl; simp; omega
theorem fixd_mono {b : TBoard} {kind w : Int} {o o1 : List Int} {x d : Nat} (h : Fixd b kind w o x d) (hx : o1.getD x zI = o.getD x zI) (hm : ∀ k, 0 ≤ o.getD k zI → 0 ≤ o1.getD k zI ∧ o1.getD k zI ≤ o.getD k zI) : Fixd b kind w o1 x d := fun h1 h2 y hy => by
 rw [hx] at h2 ⊢
 obtain ⟨g1, g2⟩ := h h1 h2 y hy
 have := hm y g1
 omega
def opn (l : List Bool) : Nat := l.countP fun v => !v
theorem opn_set {l : List Bool} {i : Nat} (hi : i < l.length) (h0 : l.getD i zB = false) : opn (l.set i true) < opn l := by
 have hg : l.getD i zB = l[i] := by simp [List.getD, hi]
 rw [hg] at h0
 have h3 : 0 < l.countP fun v => !v := List.countP_pos_iff.2 ⟨l[i], List.getElem_mem hi, by simp [h0]⟩
 unfold opn
 rw [List.countP_set hi]
 simp [h0]; omega
theorem set_getB {l : List Bool} {i j : Nat} {x : Bool} (hi : i < l.length) : (l.set i x).getD j zB = if i = j then x else l.getD j zB := by
 by_cases e : i = j
 ·subst e; simp [List.getD, hi]
 ·simp [List.getD, List.getElem?_set, e]
structure Dij (b : TBoard) (kind w : Int) (src : Nat) (o : List Int) (dn : List Bool) : Prop where
 rz : Rz b kind w src o
 len : dn.length = b.Map.Terrain.length
 fx : ∀ x, x < b.Map.Terrain.length → dn.getD x zB = true → 0 ≤ o.getD x zI ∧ ∀ d, d < 6 → Fixd b kind w o x d
 lo : ∀ x z, x < b.Map.Terrain.length → z < b.Map.Terrain.length → dn.getD x zB = true → dn.getD z zB = false → 0 ≤ o.getD z zI → o.getD x zI ≤ o.getD z zI
def Best (o : List Int) (dn : List Bool) (k : Nat) (best : Int) : Prop :=
 (best = -1 ∧ ∀ z, z < k → ¬ (0 ≤ o.getD z zI ∧ dn.getD z zB = false)) ∨ ∃ m : Nat, best = (m : Int) ∧ m < k ∧ 0 ≤ o.getD m zI ∧ dn.getD m zB = false ∧ ∀ z, z < k → dn.getD z zB = false → 0 ≤ o.getD z zI → o.getD m zI ≤ o.getD z zI
theorem best_pass {o : List Int} {dn : List Bool} {k : Nat} {best : Int} (h : Best o dn k best) (hk : ¬ (0 ≤ o.getD k zI ∧ dn.getD k zB = false)) : Best o dn (k + 1) best := by
 have hz : ∀ z, z < k + 1 → z ≠ k → z < k := fun z h1 h2 => by omega
 rcases h with ⟨h1, h2⟩ | ⟨m, h1, h2, h3, h4, h5⟩
 ·refine .inl ⟨h1, fun z hz' => ?_⟩
  by_cases e : z = k
  ·subst e; exact hk
  ·exact h2 z (hz z hz' e)
 ·refine .inr ⟨m, h1, by omega, h3, h4, fun z hz' g1 g2 => ?_⟩
  by_cases e : z = k
  ·subst e; exact absurd ⟨g2, g1⟩ hk
  ·exact h5 z (hz z hz' e) g1 g2
theorem best_stay {o : List Int} {dn : List Bool} {k m : Nat} (h : Best o dn k (m : Int)) (hk : o.getD m zI ≤ o.getD k zI) : Best o dn (k + 1) (m : Int) := by
 rcases h with ⟨h1, h2⟩ | ⟨m', h1, h2, h3, h4, h5⟩
 ·omega
 ·have : m = m' := by omega
  subst this
  refine .inr ⟨m, rfl, by omega, h3, h4, fun z hz g1 g2 => ?_⟩
  by_cases e : z = k
  ·subst e; exact hk
  ·exact h5 z (by omega) g1 g2
theorem best_new {o : List Int} {dn : List Bool} {k : Nat} {best : Int} (h : Best o dn k best) (h0 : 0 ≤ o.getD k zI) (hd : dn.getD k zB = false) (hb : ∀ m : Nat, best = (m : Int) → o.getD k zI < o.getD m zI) : Best o dn (k + 1) (k : Int) := by
 refine .inr ⟨k, rfl, by omega, h0, hd, fun z hz g1 g2 => ?_⟩
 by_cases e : z = k
 ·subst e; exact Int.le_refl _
 ·rcases h with ⟨h1, h2⟩ | ⟨m', h1, h2, h3, h4, h5⟩
  ·exact absurd ⟨g2, g1⟩ (h2 z (by omega))
  ·have := hb m' h1
   have := h5 z (by omega) g1 g2
   omega
structure Rlx (b : TBoard) (kind w : Int) (src : Nat) (o : List Int) (dn : List Bool) (m d : Nat) (o1 : List Int) : Prop where
 rz : Rz b kind w src o1
 me : o1.getD m zI = o.getD m zI
 dd : ∀ x, x < b.Map.Terrain.length → dn.getD x zB = true → o1.getD x zI = o.getD x zI
 fx : ∀ x, x < b.Map.Terrain.length → dn.getD x zB = true → ∀ d', d' < 6 → Fixd b kind w o1 x d'
 up : ∀ z, z < b.Map.Terrain.length → dn.getD z zB = false → 0 ≤ o1.getD z zI → o.getD m zI ≤ o1.getD z zI
 fm : ∀ d', d' < d → Fixd b kind w o1 m d'
theorem Rlx.low {b : TBoard} {kind w : Int} {src : Nat} {o : List Int} {dn : List Bool} (hj : Dij b kind w src o dn) {m d : Nat} (hm : m < b.Map.Terrain.length) (h0 : 0 ≤ o.getD m zI) (hdn : dn.getD m zB = false) {o1 : List Int} (h : Rlx b kind w src o dn m d o1) {y : Nat} {c : Int} (hc : c = pStep b kind w m d) (hc0 : 0 < c) (hy : pNext b.Map (m : Int) (d : Int) = (y : Int)) (hyl : y < o1.length)
  (hup : o1.getD y zI < 0 ∨ o1.getD m zI + c < o1.getD y zI) (h1 : Rz b kind w src (o1.set y (o1.getD m zI + c))) : Rlx b kind w src o dn m (d + 1) (o1.set y (o1.getD m zI + c)) := by
 have hme := h.me
 have hyN : y < b.Map.Terrain.length := by rw [← h.rz.len]; exact hyl
 have hym : y ≠ m := fun e => by subst e; omega
 have hyd : ∀ x, x < b.Map.Terrain.length → dn.getD x zB = true → y ≠ x := fun x hx hd e => by
  subst e
  have e1 := h.dd y hx hd
  have e2 := (hj.fx y hx hd).1
  have e3 := hj.lo y m hx hm hd hdn h0
  omega
 have mono : ∀ k, 0 ≤ o1.getD k zI → 0 ≤ (o1.set y (o1.getD m zI + c)).getD k zI ∧ (o1.set y (o1.getD m zI + c)).getD k zI ≤ o1.getD k zI := fun k hk => by
  rw [set_get hyl]
  split
  ·rename_i e; subst e; omega
  ·omega
 refine ⟨h1, by rw [set_get hyl, if_neg hym]; exact hme, fun x hx hd => by rw [set_get hyl, if_neg (hyd x hx hd)]; exact h.dd x hx hd,
  fun x hx hd d' hd' => fixd_mono (h.fx x hx hd d' hd') (by rw [set_get hyl, if_neg (hyd x hx hd)]) mono, fun z hz hd hz0 => ?_, fun d' hd' => ?_⟩
 ·rw [set_get hyl] at hz0 ⊢
  split
  ·omega
  ·rename_i e; rw [if_neg e] at hz0; exact h.up z hz hd hz0
 ·by_cases e : d' = d
  ·subst e
   intro g1 g2 y' hy'
   have : y' = y := by omega
   subst this
   rw [set_get hyl, set_get hyl, if_pos rfl, if_neg hym]
   omega
  ·exact fixd_mono (h.fm d' (by omega)) (by rw [set_get hyl, if_neg hym]) mono
theorem Rlx.fix {b : TBoard} {kind w : Int} {src : Nat} {o : List Int} {dn : List Bool} {m d : Nat} {o1 : List Int} (h : Rlx b kind w src o dn m d o1) (hf : Fixd b kind w o1 m d) : Rlx b kind w src o dn m (d + 1) o1 :=
 ⟨h.rz, h.me, h.dd, h.fx, h.up, fun d' hd' => by
  by_cases e : d' = d
  ·subst e; exact hf
  ·exact h.fm d' (by omega)⟩
theorem Rlx.done {b : TBoard} {kind w : Int} {src : Nat} {o : List Int} {dn : List Bool} (hj : Dij b kind w src o dn) {m : Nat} (hm : m < b.Map.Terrain.length) (h0 : 0 ≤ o.getD m zI) (hdn : dn.getD m zB = false) {o1 : List Int} (h : Rlx b kind w src o dn m 6 o1) : Dij b kind w src o1 (dn.set m true) := by
 have hml : m < dn.length := by rw [hj.len]; exact hm
 have hme := h.me
 refine ⟨h.rz, by rw [List.length_set]; exact hj.len, fun x hx hd => ?_, fun x z hx hz hd hz' hz0 => ?_⟩
 ·rw [set_getB hml] at hd
  by_cases e : m = x
  ·subst e; exact ⟨by omega, h.fm⟩
  ·rw [if_neg e] at hd
   exact ⟨by rw [h.dd x hx hd]; exact (hj.fx x hx hd).1, h.fx x hx hd⟩
 ·rw [set_getB hml] at hd hz'
  have ez : m ≠ z := fun e => by subst e; simp at hz'
  rw [if_neg ez] at hz'
  have := h.up z hz hz' hz0
  by_cases e : m = x
  ·subst e; omega
  ·rw [if_neg e] at hd
   rw [h.dd x hx hd]
   have := hj.lo x m hx hm hd hdn h0
   omega
theorem pfrom_eq {b : TBoard} (hb : pBoard b = true) (q : smTBoard b) {kind : Nat} (hk : kind < b.Rules.Kinds.length) {w : Int} (hw : 0 ≤ w ∧ w ≤ 2) {src : Nat} (hs : src < b.Map.Terrain.length) :
  ∃ o, X.s_pFrom b (kind : Int) w (src : Int) [] = some o ∧ RzF b (kind : Int) w src o := by
 obtain ⟨z1, z2, z3⟩ := size_of hb
 obtain ⟨hsd, hl⟩ := sides_of hb
 have hm := mL
 unfold X.s_pFrom
 rw [z1]
 simp only [Option.bind_some, Int.toNat_natCast, List.length_replicate]
 rw [if_pos ⟨by omega, by unfold LIM; omega⟩, if_pos ⟨by omega, by unfold LIM; omega⟩, fill_run _ (by omega) (fun _ _ => ?_)]
 rotate_left
 ·rfl
 simp only [List.length_replicate, Int.toNat_natCast]
 rw [if_pos ⟨by omega, by omega⟩]
 have hrep : ∀ x, (List.replicate b.Map.Terrain.length zB).getD x zB = false := fun x => by
  by_cases h : x < b.Map.Terrain.length
  ·simp [List.getD, h]; rfl
  ·simp [List.getD, h]; rfl
 refine run_ind (fun t => ∃ o, t = some o ∧ RzF b (kind : Int) w src o) (fun s => Dij b (kind : Int) w src s.1 s.2) (fun s => opn s.2) (RzF b (kind : Int) w src)
  ⟨rz_first b _ w hs, by simp, fun x _ h => absurd ((hrep x).symm.trans h) (by decide), fun x z _ _ h => absurd ((hrep x).symm.trans h) (by decide)⟩ ?_ fun r hr => ⟨r, rfl, hr⟩
 rintro ⟨o, dn⟩ hj
 dsimp only at hj ⊢
 have hol := hj.rz.len
 have hdl := hj.len
 refine run_ind (fun t => (∃ s' : List Int × List Bool, t = some (Sum.inl s') ∧ Dij b (kind : Int) w src s'.1 s'.2 ∧ opn s'.2 < opn dn) ∨ (∃ r : List Int, t = some (Sum.inr r) ∧ RzF b (kind : Int) w src r))
  (fun s => ∃ k : Nat, s.2 = (k : Int) ∧ k ≤ b.Map.Terrain.length ∧ Best o dn k s.1) (fun s => b.Map.Terrain.length - s.2.toNat) (fun r => Best o dn b.Map.Terrain.length r) ⟨0, rfl, Nat.zero_le _, .inl ⟨rfl, fun _ h => by omega⟩⟩ ?_ ?_
 ·rintro ⟨best, ki⟩ ⟨k, hke, hk', hB⟩
  dsimp only at hke hB ⊢
  subst hke
  by_cases hkl : k < b.Map.Terrain.length
  ·left
   have hz : ∀ (c : Int), Best o dn (k + 1) c → (∃ d' : Nat, ((k + 1 : Nat) : Int) = (d' : Int) ∧ d' ≤ b.Map.Terrain.length ∧ Best o dn d' c) ∧ b.Map.Terrain.length - (((k + 1 : Nat) : Int)).toNat < b.Map.Terrain.length - ((k : Int)).toNat := fun c h => ⟨⟨k + 1, rfl, by omega, h⟩, by omega⟩
   rw [hol, lt_cast hkl, cond_true, if_pos ⟨by omega, by omega⟩, hdl, W_succ (show k < 4611686018427387904 by omega)]
   simp only [Int.toNat_natCast]
   by_cases h0 : o.getD k zI ≥ 0
   ·rw [decide_eq_true h0, cond_true, if_pos ⟨by omega, by omega⟩]
    cases hdk : dn.getD k zB with
    | true => exact ⟨_, rfl, hz _ (best_pass hB fun h => by rw [hdk] at h; cases h.2)⟩
    | false =>
     simp only [Bool.not_false, cond_true]
     by_cases hn : best < 0
     ·rw [decide_eq_true hn, cond_true]
      exact ⟨_, rfl, hz _ (best_new hB h0 hdk fun m e => by omega)⟩
     ·rw [decide_eq_false hn, cond_false]
      obtain ⟨h1, _⟩ | ⟨m, rfl, h2, h3, h4, h5⟩ := id hB
      ·omega
      ·rw [if_pos ⟨by omega, by omega⟩, Int.toNat_natCast]
       by_cases hlt : o.getD k zI < o.getD m zI
       ·rw [decide_eq_true hlt, cond_true]
        exact ⟨_, rfl, hz _ (best_new hB h0 hdk fun m' e => by cases (show m = m' by omega); exact hlt)⟩
       ·rw [decide_eq_false hlt, cond_false]
        exact ⟨_, rfl, hz _ (best_stay hB (by omega))⟩
   ·rw [decide_eq_false h0, cond_false]
    exact ⟨_, rfl, hz _ (best_pass hB fun h => h0 h.1)⟩
  ·right
   have : k = b.Map.Terrain.length := by omega
   subst this
   rw [hol, nlt_self, cond_false]
   exact ⟨_, rfl, hB⟩
 ·rintro r (⟨rfl, hB⟩ | ⟨m, rfl, hmN, hm0, hmd, hB⟩)
  ·right
   refine ⟨o, rfl, hj.rz, fun x hx d hd h1 h2 => ?_⟩
   cases hdx : dn.getD x zB with
   | false => exact absurd ⟨h2, hdx⟩ (hB x hx)
   | true => exact (hj.fx x hx hdx).2 d hd h1 h2
  ·left
   rw [decide_eq_false (show ¬ (m : Int) < 0 by omega), cond_false, if_pos ⟨by omega, by omega⟩]
   refine run_ind (fun t => ∃ s' : List Int × List Bool, t = some (Sum.inl s') ∧ Dij b (kind : Int) w src s'.1 s'.2 ∧ opn s'.2 < opn dn)
    (fun s => ∃ d : Nat, s.1 = (d : Int) ∧ d ≤ 6 ∧ Rlx b (kind : Int) w src o dn m d s.2) (fun s => 6 - s.1.toNat) (fun r => Rlx b (kind : Int) w src o dn m 6 r.1 ∧ r.2 = dn.set m true)
    ⟨0, rfl, Nat.zero_le _, hj.rz, rfl, fun _ _ _ => rfl, fun x hx hd => (hj.fx x hx hd).2, fun z hz hd h => hB z hz hd h, fun _ h => by omega⟩ ?_ ?_
   ·rintro ⟨di, o2⟩ ⟨d, hde, hd, hp2⟩
    dsimp only at hde hp2 ⊢
    subst hde
    by_cases hd6 : d < 6
    ·left
     have hz : ∀ (o' : List Int), Rlx b (kind : Int) w src o dn m (d + 1) o' → (∃ d' : Nat, ((d + 1 : Nat) : Int) = (d' : Int) ∧ d' ≤ 6 ∧ Rlx b (kind : Int) w src o dn m d' o') ∧ 6 - (((d + 1 : Nat) : Int)).toNat < 6 - ((d : Int)).toNat := fun o' h => ⟨⟨d + 1, rfl, by omega, h⟩, by omega⟩
     have h6 : decide ((d : Int) < 6) = true := decide_eq_true (by omega)
     simp only [h6, cond_true, (step_cost hb q hk hw hmN hd6).1, Option.bind_some, W_succ (show d < 4611686018427387904 by omega)]
     by_cases hc : pStep b (kind : Int) w m d = 0
     ·simp only [hc, beq_self_eq_true, cond_true]
      exact ⟨_, rfl, hz _ (hp2.fix fun h => absurd hc h)⟩
     ·obtain ⟨y, y1, y2, y3, y4, y5, y6⟩ := rlx hb q hk hw hp2.rz hmN hd6 hc
      have hbne : (pStep b (kind : Int) w m d == 0) = false := beq_eq_false_iff_ne.2 hc
      have hxo : m < o2.length := by rw [hp2.rz.len]; exact hmN
      have hme := hp2.me
      simp only [hbne, cond_false, (next_eq b.Map hsd (m : Int) (d : Int) (by omega) (by omega)).1, y1, Option.bind_some, has_eq [] _ (by simp), List.any_nil, Int.toNat_natCast, Bool.not_false, cond_true]
      rw [if_pos ⟨by omega, by omega⟩, if_pos ⟨by omega, by omega⟩]
      have h0 : 0 ≤ o2.getD m zI := by omega
      simp only [y3 h0]
      by_cases ha : o2.getD y zI < 0
      ·rw [decide_eq_true ha, cond_true]
       have := y5 h0 (.inl ha)
       exact ⟨_, rfl, hz _ (hp2.low hj hmN hm0 hmd rfl y4 y1 y2 (.inl ha) this.1)⟩
      ·rw [decide_eq_false ha, cond_false]
       by_cases hlt : o2.getD m zI + pStep b (kind : Int) w m d < o2.getD y zI
       ·rw [decide_eq_true hlt, cond_true]
        have := y5 h0 (.inr hlt)
        exact ⟨_, rfl, hz _ (hp2.low hj hmN hm0 hmd rfl y4 y1 y2 (.inr hlt) this.1)⟩
       ·rw [decide_eq_false hlt, cond_false]
        exact ⟨_, rfl, hz _ (hp2.fix (y6 (by omega) (by omega)))⟩
    ·right
     have : d = 6 := by omega
     subst this
     exact ⟨(o2, dn.set m true), rfl, hp2, rfl⟩
   ·rintro ⟨o2, dn2⟩ ⟨hp2, he⟩
    dsimp only at hp2 he ⊢
    subst he
    exact ⟨_, rfl, hp2.done hj hmN hm0 hmd, opn_set (by omega) hmd⟩
theorem core (a0 : TBoard) (a1 : TState) (a2 : Int) (k0 : okTBoard a0) (k1 : okTState a1) (k2 : okI a2) (q0 : smTBoard a0) (q1 : smTState a1) : ∃ w, X.s_MobilityOf a0 a1 a2 = some w ∧ X.i_MobilityOf a0 a1 a2 = some w := by
 have hm := mL
 unfold X.s_MobilityOf X.i_MobilityOf X.s_uHas X.i_hasUnit
 rw [(fits_eq q0 a1 q1).1, (fits_eq q0 a1 q1).2]
 simp only [Option.bind_some]
 cases hf : pBoard a0 && pState a0 a1
 ·exact ⟨_, rfl, rfl⟩
 rw [Bool.and_eq_true] at hf
 obtain ⟨hb, hs⟩ := hf
 have hU := units_of hs
 simp only [cond_true, Option.bind_some, s_in, i_idx _ _ (show 0 ≤ (a1.Units.length : Int) ∧ (a1.Units.length : Int) ≤ (SM : Int) by unfold SM; omega), W_of (n := (a1.Units.length : Int) - 1) (by omega)]
 cases hu : pIn a2 0 ((a1.Units.length : Int) - 1)
 ·exact ⟨_, rfl, rfl⟩
 rw [pIn_iff] at hu
 obtain ⟨u, rfl⟩ := Int.eq_ofNat_of_zero_le hu.1
 have hul : u < a1.Units.length := by omega
 simp only [Bool.not_true, cond_false, cond_true, Option.bind_some, at_getD hul]
 have hw : 0 ≤ a1.Weather ∧ a1.Weather ≤ 2 := by
  have h := hs
  unfold pState at h
  simp only [Bool.and_eq_true, pIn_iff] at h
  exact h.2.1
 obtain ⟨p1, p2, p3, p4, p5, p6⟩ := pUnit_iff (unit_of hs hul)
 obtain ⟨z1, z2, z3⟩ := size_of hb
 generalize a1.Units.getD u zTUnit = U at *
 by_cases hA : U.At < 0
 ·simp only [decide_eq_true hA, cond_true]
  exact ⟨_, rfl, rfl⟩
 obtain ⟨src, hsrc⟩ := Int.eq_ofNat_of_zero_le (show 0 ≤ U.At by omega)
 obtain ⟨kind, hkind⟩ := Int.eq_ofNat_of_zero_le p2
 have hk : kind < a0.Rules.Kinds.length := by omega
 have hsN : src < a0.Map.Terrain.length := by
  rcases p6 with p6 | p6 <;> omega
 obtain ⟨o, o1, o2, o3⟩ := pfrom_eq hb q0 hk hw hsN
 obtain ⟨o', r1, r2, r3⟩ := relaxed_eq hb q0 hk hw hsN
 have e : o = o' := rz_uniq o2 r2 (fun x hx => o3 x (by rw [← o2.len]; exact hx)) (fun x hx => r3 x (by rw [← r2.len]; exact hx))
 subst e
 have hol := o2.len
 have hi : X.i_hexesThat a0 (fun q0 => X.i_reachFrom_1 q0 o a0 U) = some (idxs (fun k => pIn (o.getD k zI) 0 (a0.Rules.Kinds.getD kind zTKind).Moves) a0.Map.Terrain.length) :=
  hexes_eq (by unfold SM; omega) fun j hj => by
   unfold X.i_reachFrom_1
   simp only [at_getD (show j < o.length by omega), hkind, at_getD hk, Option.bind_some, i_in]
 have hlen := idxs_len (fun k => pIn (o.getD k zI) 0 (a0.Rules.Kinds.getD kind zTKind).Moves) a0.Map.Terrain.length
 simp only [decide_eq_false hA, cond_false, X.i_reachFrom]
 rw [hsrc, hkind, o1, r1]
 simp only [Option.bind_some, hi]
 refine ⟨_, ?_, rfl⟩
 rw [run_st a0.Map.Terrain.length (fun k => (((idxs (fun k => pIn (o.getD k zI) 0 (a0.Rules.Kinds.getD kind zTKind).Moves) k).length : Int) - 1, (k : Int))) (((idxs (fun k => pIn (o.getD k zI) 0 (a0.Rules.Kinds.getD kind zTKind).Moves) a0.Map.Terrain.length).length : Int) - 1) (by rfl) ?_ ?_]
 ·rw [W_of (by omega)]
 ·intro k hk'
  have hl2 := idxs_len (fun k => pIn (o.getD k zI) 0 (a0.Rules.Kinds.getD kind zTKind).Moves) k
  rw [hol]
  simp only [lt_cast hk', cond_true, at_getD (show k < o.length by omega), at_getD hk, Option.bind_some, s_in, W_succ (show k < 4611686018427387904 by omega), idxs_succ]
  cases pIn (o.getD k zI) 0 (a0.Rules.Kinds.getD kind zTKind).Moves
  ·rfl
  ·simp only [cond_true, List.length_append, List.length_cons, List.length_nil]
   rw [W_of (by omega)]
   simp only [Option.some.injEq, Sum.inl.injEq, Prod.mk.injEq, and_true]
   omega
 ·rw [hol]
  simp only [nlt_self, cond_false]
theorem law (a0 : TBoard) (a1 : TState) (a2 : Int) (k0 : okTBoard a0) (k1 : okTState a1) (k2 : okI a2) : X.l_FnExactMobilityOf a0 a1 a2 = some true := by
 unfold X.l_FnExactMobilityOf
 refine law_sz (l_szBoard_sz a0 k0 1048576 (by unfold SM; omega)) (by unfold SM; omega) fun r1 g1 q1 => ?_
 refine law_sz (l_szState_sz a1 k1 r1 g1) g1 fun r2 g2 q2 => ?_
 obtain ⟨w, hs, hi⟩ := core a0 a1 a2 k0 k1 k2 q1 q2
 simp [l_toBoard_eq a0 q1, l_eqBoard_eq a0 q1, l_toState_eq a1 q2, l_eqState_eq a1 q2, hs, hi]
end Go.Proofs.YtgfgmjefikefeaaGreatDoor.X0
