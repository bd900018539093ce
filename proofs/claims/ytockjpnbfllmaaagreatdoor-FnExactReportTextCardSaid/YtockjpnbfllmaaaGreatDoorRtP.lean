/- The plain law behind FnExactReportText, for arguments that a machine can hold. -/
import Derived.Test.YtockjpnbfllmaaaGreatDoorRtWb
import Derived.Test.YtockjpnbfllmaaaGreatDoorAmCore3
set_option linter.unusedVariables false
set_option linter.unusedSimpArgs false
set_option maxRecDepth 100000
namespace Go.Proofs.YtockjpnbfllmaaaGreatDoor.X0
open Go Go.Proofs.YtockjpnbfllmaaaGreatDoor.Ab
theorem obs {α β : Type} (a : α) (f : α → Option β) : (some a).bind f = f a := rfl
abbrev okLI (x : (List Int)) : Prop := okL okI x
abbrev smLI (x : (List Int)) : Prop := smL smI x
theorem l_szIntS_sz (x : (List Int)) (h : okLI x) : SzOk X.l_szIntS smLI x := szS_ok h.1 fun y _ => trivI y
theorem l_toIntS_eq (x : (List Int)) (h : smLI x) : X.l_toIntS x = some x := (toL_eq (z := zI) (f := some) h.1 fun _ _ => rfl : _)
theorem l_eqIntS_eq (x : (List Int)) (h : smLI x) : X.l_eqIntS x x = some true := (eqL_self (z := zI) (f := fun a b => some (a == b)) h.1 fun x _ => by simp : _)
abbrev okTTerrain (x : TTerrain) : Prop := okS x.Name ∧ okLI x.Cost ∧ okI x.Shift ∧ okI x.Height ∧ okB x.Blocks ∧ True
abbrev smTTerrain (x : TTerrain) : Prop := smS x.Name ∧ smLI x.Cost ∧ smI x.Shift ∧ smI x.Height ∧ smB x.Blocks ∧ True
theorem l_szTerrain_sz (x : TTerrain) (h : okTTerrain x) : SzOk X.l_szTerrain smTTerrain x := by
 intro n hn
 unfold X.l_szTerrain
 obtain ⟨r1, e1, l1, f1⟩ := len_cases (xs := x.Name) (h.1) hn
 rw [e1]
 refine szr_bif f1 l1 fun g1 q1 => ?_
 refine szr_step (l_szIntS_sz x.Cost (h.2.1) r1 g1) g1 fun r2 g2 q2 => ?_
 exact szr_last g2 ⟨q1, q2, trivI x.Shift, trivI x.Height, trivB x.Blocks, trivial⟩
theorem l_toTerrain_eq (x : TTerrain) (h : smTTerrain x) : X.l_toTerrain x = some x := by
 unfold X.l_toTerrain
 rw [l_toIntS_eq x.Cost (h.2.1)]; rfl
theorem l_eqTerrain_eq (x : TTerrain) (h : smTTerrain x) : X.l_eqTerrain x x = some true := by
 unfold X.l_eqTerrain
 simp [l_eqIntS_eq x.Cost (h.2.1)]
abbrev okLTTerrain (x : (List TTerrain)) : Prop := okL okTTerrain x
abbrev smLTTerrain (x : (List TTerrain)) : Prop := smL smTTerrain x
theorem l_szTerrainS_sz (x : (List TTerrain)) (h : okLTTerrain x) : SzOk X.l_szTerrainS smLTTerrain x := szL_ok (z := zTTerrain) (f := X.l_szTerrain) h.1 fun y hy => l_szTerrain_sz y (h.2 y hy)
theorem l_toTerrainS_eq (x : (List TTerrain)) (h : smLTTerrain x) : X.l_toTerrainS x = some x := toL_eq (z := zTTerrain) (f := X.l_toTerrain) h.1 fun y hy => l_toTerrain_eq y (h.2 y hy)
theorem l_eqTerrainS_eq (x : (List TTerrain)) (h : smLTTerrain x) : X.l_eqTerrainS x x = some true := eqL_self (z := zTTerrain) (f := X.l_eqTerrain) h.1 fun y hy => l_eqTerrain_eq y (h.2 y hy)
abbrev okTKind (x : TKind) : Prop := okS x.Name ∧ okI x.Strength ∧ okI x.Moves ∧ okI x.Steps ∧ okB x.Zone ∧ okI x.View ∧ True
abbrev smTKind (x : TKind) : Prop := smS x.Name ∧ smI x.Strength ∧ smI x.Moves ∧ smI x.Steps ∧ smB x.Zone ∧ smI x.View ∧ True
theorem l_szKind_sz (x : TKind) (h : okTKind x) : SzOk X.l_szKind smTKind x := by
 intro n hn
 unfold X.l_szKind
 obtain ⟨r1, e1, l1, f1⟩ := len_cases (xs := x.Name) (h.1) hn
 rw [e1]
 refine szr_bif f1 l1 fun g1 q1 => ?_
 exact szr_last g1 ⟨q1, trivI x.Strength, trivI x.Moves, trivI x.Steps, trivB x.Zone, trivI x.View, trivial⟩
theorem l_toKind_eq (x : TKind) (h : smTKind x) : X.l_toKind x = some x := by
 unfold X.l_toKind
 rfl
theorem l_eqKind_eq (x : TKind) (h : smTKind x) : X.l_eqKind x x = some true := by
 unfold X.l_eqKind
 simp []
abbrev okLTKind (x : (List TKind)) : Prop := okL okTKind x
abbrev smLTKind (x : (List TKind)) : Prop := smL smTKind x
theorem l_szKindS_sz (x : (List TKind)) (h : okLTKind x) : SzOk X.l_szKindS smLTKind x := szL_ok (z := zTKind) (f := X.l_szKind) h.1 fun y hy => l_szKind_sz y (h.2 y hy)
theorem l_toKindS_eq (x : (List TKind)) (h : smLTKind x) : X.l_toKindS x = some x := toL_eq (z := zTKind) (f := X.l_toKind) h.1 fun y hy => l_toKind_eq y (h.2 y hy)
theorem l_eqKindS_eq (x : (List TKind)) (h : smLTKind x) : X.l_eqKindS x x = some true := eqL_self (z := zTKind) (f := X.l_eqKind) h.1 fun y hy => l_eqKind_eq y (h.2 y hy)
abbrev okTRules (x : TRules) : Prop := okLTTerrain x.Terrains ∧ okLTKind x.Kinds ∧ okI x.Stack ∧ okI x.River ∧ okI x.Road ∧ okI x.Supply ∧ okI x.Turns ∧ True
abbrev smTRules (x : TRules) : Prop := smLTTerrain x.Terrains ∧ smLTKind x.Kinds ∧ smI x.Stack ∧ smI x.River ∧ smI x.Road ∧ smI x.Supply ∧ smI x.Turns ∧ True
theorem l_szRules_sz (x : TRules) (h : okTRules x) : SzOk X.l_szRules smTRules x := by
 intro n hn
 unfold X.l_szRules
 refine szr_step (l_szTerrainS_sz x.Terrains (h.1) n hn) hn fun r1 g1 q1 => ?_
 refine szr_step (l_szKindS_sz x.Kinds (h.2.1) r1 g1) g1 fun r2 g2 q2 => ?_
 exact szr_last g2 ⟨q1, q2, trivI x.Stack, trivI x.River, trivI x.Road, trivI x.Supply, trivI x.Turns, trivial⟩
theorem l_toRules_eq (x : TRules) (h : smTRules x) : X.l_toRules x = some x := by
 unfold X.l_toRules
 simp only [l_toTerrainS_eq x.Terrains (h.1), l_toKindS_eq x.Kinds (h.2.1), obs]
theorem l_eqRules_eq (x : TRules) (h : smTRules x) : X.l_eqRules x x = some true := by
 unfold X.l_eqRules
 simp [l_eqTerrainS_eq x.Terrains (h.1), l_eqKindS_eq x.Kinds (h.2.1)]
abbrev okTMap (x : TMap) : Prop := okI x.Width ∧ okI x.Height ∧ okLI x.Terrain ∧ okLI x.Rivers ∧ okLI x.Roads ∧ True
abbrev smTMap (x : TMap) : Prop := smI x.Width ∧ smI x.Height ∧ smLI x.Terrain ∧ smLI x.Rivers ∧ smLI x.Roads ∧ True
theorem l_szMap_sz (x : TMap) (h : okTMap x) : SzOk X.l_szMap smTMap x := by
 intro n hn
 unfold X.l_szMap
 refine szr_step (l_szIntS_sz x.Terrain (h.2.2.1) n hn) hn fun r1 g1 q1 => ?_
 refine szr_step (l_szIntS_sz x.Rivers (h.2.2.2.1) r1 g1) g1 fun r2 g2 q2 => ?_
 refine szr_step (l_szIntS_sz x.Roads (h.2.2.2.2.1) r2 g2) g2 fun r3 g3 q3 => ?_
 exact szr_last g3 ⟨trivI x.Width, trivI x.Height, q1, q2, q3, trivial⟩
theorem l_toMap_eq (x : TMap) (h : smTMap x) : X.l_toMap x = some x := by
 unfold X.l_toMap
 simp only [l_toIntS_eq x.Terrain (h.2.2.1), l_toIntS_eq x.Rivers (h.2.2.2.1), l_toIntS_eq x.Roads (h.2.2.2.2.1), obs]
theorem l_eqMap_eq (x : TMap) (h : smTMap x) : X.l_eqMap x x = some true := by
 unfold X.l_eqMap
 simp [l_eqIntS_eq x.Terrain (h.2.2.1), l_eqIntS_eq x.Rivers (h.2.2.2.1), l_eqIntS_eq x.Roads (h.2.2.2.2.1)]
abbrev okTBoard (x : TBoard) : Prop := okTRules x.Rules ∧ okTMap x.Map ∧ True
abbrev smTBoard (x : TBoard) : Prop := smTRules x.Rules ∧ smTMap x.Map ∧ True
theorem l_szBoard_sz (x : TBoard) (h : okTBoard x) : SzOk X.l_szBoard smTBoard x := by
 intro n hn
 unfold X.l_szBoard
 refine szr_step (l_szRules_sz x.Rules (h.1) n hn) hn fun r1 g1 q1 => ?_
 refine szr_step (l_szMap_sz x.Map (h.2.1) r1 g1) g1 fun r2 g2 q2 => ?_
 exact szr_last g2 ⟨q1, q2, trivial⟩
theorem l_toBoard_eq (x : TBoard) (h : smTBoard x) : X.l_toBoard x = some x := by
 unfold X.l_toBoard
 simp only [l_toRules_eq x.Rules (h.1), l_toMap_eq x.Map (h.2.1), obs]
theorem l_eqBoard_eq (x : TBoard) (h : smTBoard x) : X.l_eqBoard x x = some true := by
 unfold X.l_eqBoard
 simp [l_eqRules_eq x.Rules (h.1), l_eqMap_eq x.Map (h.2.1)]
abbrev okTUnit (x : TUnit) : Prop := okI x.Side ∧ okI x.Kind ∧ okI x.At ∧ okI x.Steps ∧ True
abbrev smTUnit (x : TUnit) : Prop := smI x.Side ∧ smI x.Kind ∧ smI x.At ∧ smI x.Steps ∧ True
theorem trivTUnit (x : TUnit) : smTUnit x := ⟨trivI x.Side, trivI x.Kind, trivI x.At, trivI x.Steps, trivial⟩
theorem l_toUnit_eq (x : TUnit) (h : smTUnit x) : X.l_toUnit x = some x := by
 unfold X.l_toUnit
 rfl
theorem l_eqUnit_eq (x : TUnit) (h : smTUnit x) : X.l_eqUnit x x = some true := by
 unfold X.l_eqUnit
 simp []
abbrev okLTUnit (x : (List TUnit)) : Prop := okL okTUnit x
abbrev smLTUnit (x : (List TUnit)) : Prop := smL smTUnit x
theorem l_szUnitS_sz (x : (List TUnit)) (h : okLTUnit x) : SzOk X.l_szUnitS smLTUnit x := szS_ok h.1 fun y _ => trivTUnit y
theorem l_toUnitS_eq (x : (List TUnit)) (h : smLTUnit x) : X.l_toUnitS x = some x := toL_eq (z := zTUnit) (f := X.l_toUnit) h.1 fun y hy => l_toUnit_eq y (h.2 y hy)
theorem l_eqUnitS_eq (x : (List TUnit)) (h : smLTUnit x) : X.l_eqUnitS x x = some true := eqL_self (z := zTUnit) (f := X.l_eqUnit) h.1 fun y hy => l_eqUnit_eq y (h.2 y hy)
abbrev okTView (x : TView) : Prop := okI x.Side ∧ okI x.Turn ∧ okI x.Weather ∧ okLI x.Seen ∧ okLTUnit x.Own ∧ okLTUnit x.Enemies ∧ True
abbrev smTView (x : TView) : Prop := smI x.Side ∧ smI x.Turn ∧ smI x.Weather ∧ smLI x.Seen ∧ smLTUnit x.Own ∧ smLTUnit x.Enemies ∧ True
theorem l_szView_sz (x : TView) (h : okTView x) : SzOk X.l_szView smTView x := by
 intro n hn
 unfold X.l_szView
 refine szr_step (l_szIntS_sz x.Seen (h.2.2.2.1) n hn) hn fun r1 g1 q1 => ?_
 refine szr_step (l_szUnitS_sz x.Own (h.2.2.2.2.1) r1 g1) g1 fun r2 g2 q2 => ?_
 refine szr_step (l_szUnitS_sz x.Enemies (h.2.2.2.2.2.1) r2 g2) g2 fun r3 g3 q3 => ?_
 exact szr_last g3 ⟨trivI x.Side, trivI x.Turn, trivI x.Weather, q1, q2, q3, trivial⟩
theorem l_toView_eq (x : TView) (h : smTView x) : X.l_toView x = some x := by
 unfold X.l_toView
 simp only [l_toIntS_eq x.Seen (h.2.2.2.1), l_toUnitS_eq x.Own (h.2.2.2.2.1), l_toUnitS_eq x.Enemies (h.2.2.2.2.2.1), obs]
theorem l_eqView_eq (x : TView) (h : smTView x) : X.l_eqView x x = some true := by
 unfold X.l_eqView
 simp [l_eqIntS_eq x.Seen (h.2.2.2.1), l_eqUnitS_eq x.Own (h.2.2.2.2.1), l_eqUnitS_eq x.Enemies (h.2.2.2.2.2.1)]
end Go.Proofs.YtockjpnbfllmaaaGreatDoor.X0

set_option maxRecDepth 100000
namespace Go.Proofs.YtockjpnbfllmaaaGreatDoor.X0
open Go Go.Proofs.YtockjpnbfllmaaaGreatDoor.Ab
theorem s_l1In_eq (n lo hi : Int) : X.s_l1In n lo hi = some (decide (lo ≤ n) && decide (n ≤ hi)) := by
 unfold X.s_l1In
 by_cases h : lo ≤ n
 ·simp [h]
 ·simp [h]
theorem i_inRange_eq (n lo hi : Int) : X.i_inRange n lo hi = some (decide (lo ≤ n) && decide (n ≤ hi)) := by
 unfold X.i_inRange
 by_cases h : lo ≤ n
 ·simp [h]
 ·simp [h]
theorem s_l1All_eq (xs : List Int) (lo hi : Int) (hl : xs.length ≤ SM) : X.s_l1All xs lo hi = some (xs.all fun x => decide (lo ≤ x) && decide (x ≤ hi)) := by
 unfold SM at hl
 unfold X.s_l1All
 rw [run_all xs (fun x => decide (lo ≤ x) && decide (x ≤ hi)) (.inr false) (.inl ()) rfl ?_ ?_]
 ·cases xs.all fun x => decide (lo ≤ x) && decide (x ≤ hi) <;> rfl
 ·intro k hk
  have hk' : (k : Int) < xs.length := by omega
  simp only [hk', decide_true, cond_true, at_nat hk, obs, s_l1In_eq, W_up hk (show xs.length ≤ maxLen from Nat.le_trans hl (by decide))]
  cases (decide (lo ≤ xs[k]) && decide (xs[k] ≤ hi)) <;> simp
 ·simp
theorem contains_int (xs : List Int) (x : Int) (hl : xs.length ≤ maxLen) : X.g_Contains_int xs x = some (xs.any fun v => x == v) := (hasF_eq (z := zI) (f := fun v => some (x == v)) (p := fun v => x == v) hl (fun _ _ => rfl) : _)
def pIn (n lo hi : Int) : Bool := decide (lo ≤ n) && decide (n ≤ hi)
theorem s_in (n lo hi : Int) : X.s_l1In n lo hi = some (pIn n lo hi) := s_l1In_eq n lo hi
theorem i_in (n lo hi : Int) : X.i_inRange n lo hi = some (pIn n lo hi) := i_inRange_eq n lo hi
theorem pIn_iff {n lo hi : Int} : pIn n lo hi = true ↔ lo ≤ n ∧ n ≤ hi := by simp [pIn]
theorem mL : maxLen = 9223372036854775807 := by decide
theorem s_all (xs : List Int) (lo hi : Int) (hl : xs.length ≤ SM) : X.s_l1All xs lo hi = some (xs.all fun x => pIn x lo hi) := s_l1All_eq xs lo hi hl
noncomputable def pName (s : List UInt8) : Bool := (X.s_rName s).getD false
theorem name_eq (s : List UInt8) (h : s.length ≤ maxLen) : X.s_rName s = some (pName s) ∧ X.i_isName s = some (pName s) := by
 have e : X.i_isName s = X.s_rName s := by
  unfold X.i_isName X.s_rName
  simp only [i_in, s_in]
 have hs : ∃ b, X.s_rName s = some b := by
  unfold X.s_rName
  rw [run_allN s.length (fun k => !(decide ((((s.getD k 0).toNat : Nat) : Int) < 97)) && !(decide ((((s.getD k 0).toNat : Nat) : Int) > 122))) (.inr false) (.inl ()) ?_ ?_]
  ·cases allFrom s.length 0 _
   ·exact ⟨_, rfl⟩
   ·simp only [cond_true, Sum.elim_inl, s_in, obs]; exact ⟨_, rfl⟩
  ·intro k hk
   have h1 : 0 ≤ (k : Int) ∧ (k : Int) < (s.length : Int) := by omega
   simp only [lt_cast hk, cond_true, if_pos h1, W_up hk h, Int.toNat_natCast]
   cases decide ((((s.getD k 0).toNat : Nat) : Int) < 97) <;> cases decide ((((s.getD k 0).toNat : Nat) : Int) > 122) <;> rfl
  ·simp only [nlt_self, cond_false]
 obtain ⟨b, hb⟩ := hs
 have hp : X.s_rName s = some (pName s) := by unfold pName; rw [hb]; rfl
 exact ⟨hp, e.trans hp⟩
noncomputable def pTI (xs : List TTerrain) (s : List UInt8) : Int := (X.s_rTerrain xs s).getD 0
noncomputable def pKI (xs : List TKind) (s : List UInt8) : Int := (X.s_rKind xs s).getD 0
theorem ti_eq (xs : List TTerrain) (s : List UInt8) (h : xs.length ≤ maxLen) : X.s_rTerrain xs s = some (pTI xs s) ∧ X.i_terrainIndex xs s = some (pTI xs s) := by
 have e : X.s_rTerrain xs s = idxF zTTerrain (fun v => some (v.Name == s)) xs := rfl
 obtain ⟨i, h1, _⟩ := idxF_ok (z := zTTerrain) (f := fun v => some (v.Name == s)) (p := fun v => v.Name == s) (xs := xs) h (fun _ _ => rfl)
 have hp : X.s_rTerrain xs s = some (pTI xs s) := by unfold pTI; rw [e, h1]; rfl
 refine ⟨hp, ?_⟩
 have e2 : X.i_terrainIndex xs s = (idxF zTTerrain (fun v => some (v.Name == s)) xs).bind some := rfl
 rw [e2, ← e, hp]; rfl
theorem ki_eq (xs : List TKind) (s : List UInt8) (h : xs.length ≤ maxLen) : X.s_rKind xs s = some (pKI xs s) ∧ X.i_kindIndex xs s = some (pKI xs s) := by
 have e : X.s_rKind xs s = idxF zTKind (fun v => some (v.Name == s)) xs := rfl
 obtain ⟨i, h1, _⟩ := idxF_ok (z := zTKind) (f := fun v => some (v.Name == s)) (p := fun v => v.Name == s) (xs := xs) h (fun _ _ => rfl)
 have hp : X.s_rKind xs s = some (pKI xs s) := by unfold pKI; rw [e, h1]; rfl
 refine ⟨hp, ?_⟩
 have e2 : X.i_kindIndex xs s = (idxF zTKind (fun v => some (v.Name == s)) xs).bind some := rfl
 rw [e2, ← e, hp]; rfl
noncomputable def qT (r : TRules) (k : Nat) : Bool :=
 let t := r.Terrains.getD k zTTerrain
 pName t.Name && ((pTI r.Terrains t.Name == (k : Int)) && (((t.Cost.length : Int) == (r.Kinds.length : Int)) && ((t.Cost.all fun x => pIn x 0 9) && (pIn t.Shift (-3) 3 && pIn t.Height 0 3))))
noncomputable def qK (r : TRules) (k : Nat) : Bool :=
 let t := r.Kinds.getD k zTKind
 pName t.Name && ((pKI r.Kinds t.Name == (k : Int)) && (pIn t.Strength 1 9 && (pIn t.Moves 0 9 && (pIn t.Steps 1 4 && pIn t.View 0 4))))
noncomputable def pRules (r : TRules) : Bool :=
 pIn (r.Terrains.length : Int) 1 6 && (pIn (r.Kinds.length : Int) 1 4 && (allFrom r.Terrains.length 0 (qT r) && (allFrom r.Kinds.length 0 (qK r) && (pIn r.Stack 1 4 && (pIn r.River 0 9 && (pIn r.Road 1 9 && (pIn r.Supply 0 20 && pIn r.Turns 1 30)))))))
theorem costs_eq (xs : List Int) (h : xs.length ≤ SM) : X.g_ContainsFunc_int xs (fun q0 => X.i_goodTerrain_1 q0) = some (!(xs.all fun x => pIn x 0 9)) := by
 have hm := mL
 have := hasF_eq (z := zI) (f := fun q0 => X.i_goodTerrain_1 q0) (p := fun x => !(pIn x 0 9)) (xs := xs) (by unfold SM at h; omega) (fun x _ => by unfold X.i_goodTerrain_1; rw [i_in]; rfl)
 rw [List.not_all_eq_any_not]
 exact this
theorem getD_mem {α : Type} {xs : List α} {k : Nat} {z : α} (h : k < xs.length) : xs.getD k z ∈ xs := by
 have : xs.getD k z = xs[k] := by simp [List.getD, h]
 rw [this]; exact List.getElem_mem h
theorem rules_eq (r : TRules) (q : smTRules r) : X.s_rGood r = some (pRules r) ∧ X.i_IsRules r = some (pRules r) := by
 have hm := mL
 have hT : r.Terrains.length ≤ maxLen := by have := q.1.1; unfold SM at this; omega
 have hK : r.Kinds.length ≤ maxLen := by have := q.2.1.1; unfold SM at this; omega
 have hTn : ∀ k, k < r.Terrains.length → (r.Terrains.getD k zTTerrain).Name.length ≤ maxLen ∧ (r.Terrains.getD k zTTerrain).Cost.length ≤ SM := fun k hk => by
  have := q.1.2 _ (getD_mem (z := zTTerrain) hk)
  exact ⟨by have := this.1; unfold smS SM at this; omega, this.2.1.1⟩
 have hKn : ∀ k, k < r.Kinds.length → (r.Kinds.getD k zTKind).Name.length ≤ maxLen := fun k hk => by
  have := (q.2.1.2 _ (getD_mem (z := zTKind) hk)).1
  unfold smS SM at this; omega
 constructor
 ·unfold X.s_rGood pRules
  simp only [s_in, obs, bif_not]
  cases pIn (r.Terrains.length : Int) 1 6
  ·rfl
  cases pIn (r.Kinds.length : Int) 1 4
  ·rfl
  simp only [cond_true, Bool.true_and]
  rw [run_allN r.Terrains.length (qT r) (.inr false) (.inl ()) ?_ ?_]
  ·cases allFrom r.Terrains.length 0 (qT r)
   ·rfl
   simp only [cond_true, Sum.elim_inl, Bool.true_and]
   rw [run_allN r.Kinds.length (qK r) (.inr false) (.inl ()) ?_ ?_]
   ·cases allFrom r.Kinds.length 0 (qK r)
    ·rfl
    simp only [cond_true, Sum.elim_inl, Bool.true_and]
    cases pIn r.Stack 1 4 <;> cases pIn r.River 0 9 <;> cases pIn r.Road 1 9 <;> cases pIn r.Supply 0 20 <;> rfl
   ·intro k hk
    simp only [lt_cast hk, cond_true, at_getD hk, obs, (name_eq _ (hKn k hk)).1, (ki_eq _ _ hK).1, W_up hk hK, qK]
    cases pName (r.Kinds.getD k zTKind).Name
    ·rfl
    cases h : pKI r.Kinds (r.Kinds.getD k zTKind).Name == (k : Int)
    ·simp only [bne, h]; rfl
    simp only [bne, h, Bool.not_true, cond_false, cond_true, Bool.true_and]
    cases pIn (r.Kinds.getD k zTKind).Strength 1 9 <;> cases pIn (r.Kinds.getD k zTKind).Moves 0 9 <;> cases pIn (r.Kinds.getD k zTKind).Steps 1 4 <;> cases pIn (r.Kinds.getD k zTKind).View 0 4 <;> rfl
   ·simp only [nlt_self, cond_false]
  ·intro k hk
   simp only [lt_cast hk, cond_true, at_getD hk, obs, (name_eq _ (hTn k hk).1).1, (ti_eq _ _ hT).1, s_all _ _ _ (hTn k hk).2, W_up hk hT, qT]
   cases pName (r.Terrains.getD k zTTerrain).Name
   ·rfl
   cases h : pTI r.Terrains (r.Terrains.getD k zTTerrain).Name == (k : Int)
   ·simp only [bne, h]; rfl
   cases h2 : ((r.Terrains.getD k zTTerrain).Cost.length : Int) == (r.Kinds.length : Int)
   ·simp only [bne, h, h2]; rfl
   simp only [bne, h, h2, Bool.not_true, cond_false, cond_true, Bool.true_and]
   cases ((r.Terrains.getD k zTTerrain).Cost.all fun x => pIn x 0 9) <;> cases pIn (r.Terrains.getD k zTTerrain).Shift (-3) 3 <;> cases pIn (r.Terrains.getD k zTTerrain).Height 0 3 <;> rfl
  ·simp only [nlt_self, cond_false]
 ·unfold X.i_IsRules pRules
  simp only [i_in, obs, bif_not]
  cases pIn (r.Terrains.length : Int) 1 6
  ·rfl
  cases pIn (r.Kinds.length : Int) 1 4
  ·rfl
  simp only [cond_true, Bool.true_and]
  rw [run_allN r.Terrains.length (qT r) (.inr false) (.inl ()) ?_ ?_]
  ·cases allFrom r.Terrains.length 0 (qT r)
   ·rfl
   simp only [cond_true, Sum.elim_inl, Bool.true_and]
   rw [run_allN r.Kinds.length (qK r) (.inr false) (.inl ()) ?_ ?_]
   ·cases allFrom r.Kinds.length 0 (qK r)
    ·rfl
    simp only [cond_true, Sum.elim_inl, Bool.true_and]
    cases pIn r.Stack 1 4 <;> cases pIn r.River 0 9 <;> cases pIn r.Road 1 9 <;> cases pIn r.Supply 0 20 <;> rfl
   ·intro k hk
    simp only [lt_cast hk, cond_true, at_getD hk, obs, X.i_goodKind, i_in, (name_eq _ (hKn k hk)).2, (ki_eq _ _ hK).2, W_up hk hK, qK]
    cases pName (r.Kinds.getD k zTKind).Name
    ·rfl
    cases h : pKI r.Kinds (r.Kinds.getD k zTKind).Name == (k : Int) <;> simp only [bne, h] <;>
    cases pIn (r.Kinds.getD k zTKind).Strength 1 9 <;> cases pIn (r.Kinds.getD k zTKind).Moves 0 9 <;> cases pIn (r.Kinds.getD k zTKind).Steps 1 4 <;> cases pIn (r.Kinds.getD k zTKind).View 0 4 <;> rfl
   ·simp only [nlt_self, cond_false]
  ·intro k hk
   simp only [lt_cast hk, cond_true, at_getD hk, obs, X.i_goodTerrain, i_in, (name_eq _ (hTn k hk).1).2, (ti_eq _ _ hT).2, costs_eq _ (hTn k hk).2, W_up hk hT, qT]
   cases pName (r.Terrains.getD k zTTerrain).Name
   ·rfl
   cases h2 : ((r.Terrains.getD k zTTerrain).Cost.length : Int) == (r.Kinds.length : Int)
   ·simp only [bne, h2]; cases (pTI r.Terrains (r.Terrains.getD k zTTerrain).Name == (k : Int)) <;> rfl
   cases h : pTI r.Terrains (r.Terrains.getD k zTTerrain).Name == (k : Int) <;> simp only [bne, h, h2, Bool.not_true, cond_false, cond_true, Bool.true_and] <;>
   cases ((r.Terrains.getD k zTTerrain).Cost.all fun x => pIn x 0 9) <;> cases pIn (r.Terrains.getD k zTTerrain).Shift (-3) 3 <;> cases pIn (r.Terrains.getD k zTTerrain).Height 0 3 <;> rfl
  ·simp only [nlt_self, cond_false]
def dQ : List Int := [1, 1, 0, -1, -1, 0]
def dR : List Int := [0, -1, -1, 0, 1, 1]
def okSides (m : TMap) : Prop := 1 ≤ m.Width ∧ m.Width ≤ 10 ∧ 1 ≤ m.Height ∧ m.Height ≤ 10
def pIdx (m : TMap) (a b : Int) : Int := bif pIn a 0 (m.Width - 1) && pIn b 0 (m.Height - 1) then b * m.Width + a else -1
def pNext (m : TMap) (i : Int) (d : Int) : Int := pIdx m (i % m.Width + dQ.getD d.toNat 0) (i / m.Width + dR.getD d.toNat 0)
theorem size_eq (m : TMap) (h : okSides m) : W (m.Width * m.Height) = m.Width * m.Height ∧ 1 ≤ m.Width * m.Height ∧ m.Width * m.Height ≤ 100 := by
 obtain ⟨h1, h2, h3, h4⟩ := h
 have a : 1 * 1 ≤ m.Width * m.Height := Int.mul_le_mul h1 h3 (by omega) (by omega)
 have b : m.Width * m.Height ≤ 10 * 10 := Int.mul_le_mul h2 h4 (by omega) (by omega)
 exact ⟨W_of (by omega), by omega, by omega⟩
theorem tmod_nn {a b : Int} (ha : 0 ≤ a) (hb : 1 ≤ b) : Int.tmod a b = a % b := Int.tmod_eq_emod_of_nonneg ha
theorem tdiv_nn {a b : Int} (ha : 0 ≤ a) : Int.tdiv a b = a / b := Int.tdiv_eq_ediv_of_nonneg ha
theorem idx_eq (m : TMap) (h : okSides m) (a b : Int) : X.s_mIndex m ⟨a, b⟩ = some (pIdx m a b) ∧ X.i_indexOf m ⟨a, b⟩ = some (pIdx m a b) := by
 have hw := h
 obtain ⟨h1, h2, h3, h4⟩ := h
 unfold X.s_mIndex X.i_indexOf X.i_isIndex pIdx
 simp only [s_in, i_in, obs]
 rw [W_of (n := m.Width - 1) (by omega), W_of (n := m.Height - 1) (by omega)]
 cases ha : pIn a 0 (m.Width - 1)
 ·exact ⟨rfl, rfl⟩
 cases hb : pIn b 0 (m.Height - 1)
 ·exact ⟨rfl, rfl⟩
 simp only [Bool.not_true, cond_false, Bool.and_self, cond_true]
 rw [pIn_iff] at ha hb
 have e1 : 0 * 1 ≤ b * m.Width := Int.mul_le_mul (by omega) (by omega) (by omega) (by omega)
 have e2 : b * m.Width ≤ 10 * 10 := Int.mul_le_mul (by omega) (by omega) (by omega) (by omega)
 rw [W_of (n := b * m.Width) (by omega), W_of (by omega)]
 exact ⟨rfl, rfl⟩
theorem dirs_getD (d : Nat) (h : d < 6) : dirs.getD d zTHex = ⟨dQ.getD d 0, dR.getD d 0⟩ ∧ -1 ≤ dQ.getD d 0 ∧ dQ.getD d 0 ≤ 1 ∧ -1 ≤ dR.getD d 0 ∧ dR.getD d 0 ≤ 1 := by
 match d, h with
 | 0, _ => exact ⟨rfl, by decide⟩
 | 1, _ => exact ⟨rfl, by decide⟩
 | 2, _ => exact ⟨rfl, by decide⟩
 | 3, _ => exact ⟨rfl, by decide⟩
 | 4, _ => exact ⟨rfl, by decide⟩
 | 5, _ => exact ⟨rfl, by decide⟩
theorem next_eq (m : TMap) (h : okSides m) (i d : Int) (hi : 0 ≤ i ∧ i < 4611686018427387904) (hd : 0 ≤ d ∧ d < 6) : X.s_mNext m i d = some (pNext m i d) ∧ X.i_nextTo m i d = some (pNext m i d) := by
 have hw := h
 obtain ⟨h1, h2, h3, h4⟩ := h
 obtain ⟨k, rfl⟩ := Int.eq_ofNat_of_zero_le hd.1
 have hk : k < 6 := by omega
 obtain ⟨g0, g1, g2, g3, g4⟩ := dirs_getD k hk
 have hne : m.Width ≠ 0 := by omega
 have hm1 : 0 ≤ i % m.Width := Int.emod_nonneg _ hne
 have hm2 : i % m.Width < m.Width := Int.emod_lt_of_pos _ (by omega)
 have hd1 : 0 ≤ i / m.Width := Int.ediv_nonneg hi.1 (by omega)
 have hd2 : i / m.Width ≤ i := Int.ediv_le_self _ hi.1
 have e : pNext m i (k : Int) = pIdx m (i % m.Width + dQ.getD k 0) (i / m.Width + dR.getD k 0) := rfl
 constructor
 ·unfold X.s_mNext X.s_mHex X.s_hStep
  rw [if_pos hne, if_pos hne]
  simp only [obs]
  have hl1 : 0 ≤ (k : Int) ∧ (k : Int) < (([1, 1, 0, -1, -1, 0] : List Int).length : Int) := ⟨by omega, by simp; omega⟩
  have hl2 : 0 ≤ (k : Int) ∧ (k : Int) < (([0, -1, -1, 0, 1, 1] : List Int).length : Int) := ⟨by omega, by simp; omega⟩
  rw [if_pos hl1, if_pos hl2]
  simp only [obs, Int.toNat_natCast]
  rw [tmod_nn hi.1 h1, tdiv_nn hi.1, W_of (n := i / m.Width) (by omega)]
  change ((X.s_mIndex m (THex.mk (W (i % m.Width + dQ.getD k 0)) (W (i / m.Width + dR.getD k 0)))).bind fun v5 => some v5) = _
  rw [W_of (n := i % m.Width + dQ.getD k 0) (by omega), W_of (n := i / m.Width + dR.getD k 0) (by omega), (idx_eq m hw _ _).1, e]; rfl
 ·unfold X.i_nextTo X.i_hexOf X.i_stepBy
  rw [if_pos hne, if_pos hne]
  simp only [obs]
  rw [tmod_nn hi.1 h1, tdiv_nn hi.1, W_of (n := i / m.Width) (by omega)]
  rw [at_getD (z := zTHex) (xs := dirs) (k := k) hk, g0]
  simp only [obs, Int.one_mul]
  rw [W_of (n := dQ.getD k 0) (by omega), W_of (n := dR.getD k 0) (by omega)]
  rw [W_of (n := i % m.Width + dQ.getD k 0) (by omega), W_of (n := i / m.Width + dR.getD k 0) (by omega), (idx_eq m hw _ _).2, e]; rfl
def pEdge (m : TMap) (e : Int) : Bool := pIn e 0 (3 * (m.Width * m.Height) - 1) && decide (0 ≤ pNext m (e / 3) (e % 3))
def pIncr (l : List Int) : Bool := allFrom (l.length - 1) 1 fun k => decide (l.getD (k - 1) 0 < l.getD k 0)
def pEdges (m : TMap) (l : List Int) : Bool := l.all (pEdge m) && pIncr l
theorem isEdge_eq (m : TMap) (h : okSides m) (e : Int) : X.i_isEdge m e = some (pEdge m e) := by
 obtain ⟨h5, h6, h7⟩ := size_eq m h
 have hw := h
 obtain ⟨h1, h2, h3, h4⟩ := h
 unfold X.i_isEdge pEdge
 have e3 : W ((W ((W (3 * m.Width)) * m.Height)) - 1) = 3 * (m.Width * m.Height) - 1 := by
  rw [W_of (n := 3 * m.Width) (by omega), Int.mul_assoc, W_of (n := 3 * (m.Width * m.Height)) (by omega), W_of (by omega)]
 rw [e3]
 simp only [i_in, obs]
 cases hp : pIn e 0 (3 * (m.Width * m.Height) - 1)
 ·rfl
 ·rw [pIn_iff] at hp
  simp only [cond_true, Bool.true_and]
  have q1 : Int.tdiv e 3 = e / 3 := tdiv_nn hp.1
  have q2 : Int.tmod e 3 = e % 3 := tmod_nn hp.1 (by omega)
  rw [q1, q2, W_of (n := e / 3) (by omega), (next_eq m hw (e / 3) (e % 3) (by omega) (by omega)).2]
  simp
theorem s_edge (m : TMap) (h : okSides m) (e : Int) : ((X.s_mSize m).bind fun v73 => (X.s_l1In e 0 (W ((W (3 * v73)) - 1)))) = some (pIn e 0 (3 * (m.Width * m.Height) - 1)) ∧
  (pIn e 0 (3 * (m.Width * m.Height) - 1) = true → X.s_mNext m (W (Int.tdiv e 3)) (Int.tmod e 3) = some (pNext m (e / 3) (e % 3))) := by
 obtain ⟨h5, h6, h7⟩ := size_eq m h
 unfold X.s_mSize
 simp only [obs, s_in]
 rw [h5, W_of (n := 3 * (m.Width * m.Height)) (by omega), W_of (by omega)]
 refine ⟨rfl, fun hp => ?_⟩
 rw [pIn_iff] at hp
 have q1 : Int.tdiv e 3 = e / 3 := tdiv_nn hp.1
 have q2 : Int.tmod e 3 = e % 3 := tmod_nn hp.1 (by omega)
 rw [q1, q2, W_of (n := e / 3) (by omega)]
 exact (next_eq m h (e / 3) (e % 3) (by omega) (by omega)).1
theorem incr_eq (l : List Int) (h : l.length ≤ SM) : X.i_increasing l = some (pIncr l) := by
 have hm := mL
 have h' := h
 unfold SM at h'
 unfold X.i_increasing pIncr
 by_cases h0 : l.length = 0
 ·rw [loop_eq, h0]; rfl
 ·have := loop_allFrom (body := (fun (x16 : Int) => ((bif (decide (x16 < (l.length : Int))) then ((at' zI l (W (x16 - 1))).bind fun v19 => ((at' zI l x16).bind fun v21 => (bif (decide (v19 ≥ v21)) then some (Sum.inr (Sum.inr false)) else some (Sum.inl (W (x16 + 1)))))) else some (Sum.inr (Sum.inl ()))) : Option (Int ⊕ (Unit ⊕ Bool)))))
   (fun k => decide (l.getD (k - 1) 0 < l.getD k 0)) (.inr false) (.inl ()) (l.length - 1) 1 (fun j h1 h2 => by
    have hj : j < l.length := by omega
    have e1 : W ((j : Int) - 1) = ((j - 1 : Nat) : Int) := by rw [W_of (by omega)]; omega
    simp only [lt_cast hj, cond_true, e1, at_getD (show j - 1 < l.length by omega), at_getD hj, obs, W_up hj (show l.length ≤ maxLen by omega)]
    show _ = some (bif decide (l.getD (j - 1) zI < l.getD j zI) then _ else _)
    by_cases e : l.getD (j - 1) zI < l.getD j zI
    ·have e' : ¬ l.getD (j - 1) zI ≥ l.getD j zI := by omega
     simp only [e, e', decide_true, decide_false, cond_true, cond_false]
    ·have e' : l.getD (j - 1) zI ≥ l.getD j zI := by omega
     simp only [e, e', decide_true, decide_false, cond_true, cond_false]) (by
    have : 1 + (l.length - 1) = l.length := by omega
    rw [this]; simp only [nlt_self, cond_false])
  rw [show ((1 : Nat) : Int) = 1 from rfl] at this
  rw [this]
  cases allFrom (l.length - 1) 1 fun k => decide (l.getD (k - 1) 0 < l.getD k 0) <;> rfl
theorem rising_eq (l : List Int) (lo hi : Int) (h : l.length ≤ SM) : X.s_l1Rising l lo hi = some (allFrom l.length 0 fun k => pIn (l.getD k 0) lo hi && (decide (k = 0) || decide (l.getD (k - 1) 0 < l.getD k 0))) := by
 have hm := mL
 have h' := h
 unfold SM at h'
 unfold X.s_l1Rising
 rw [run_allN l.length (fun k => pIn (l.getD k 0) lo hi && (decide (k = 0) || decide (l.getD (k - 1) 0 < l.getD k 0))) (.inr false) (.inl ()) ?_ ?_]
 ·cases allFrom l.length 0 _ <;> rfl
 ·intro k hk
  simp only [lt_cast hk, cond_true, at_getD hk, obs, s_in, W_up hk (show l.length ≤ maxLen by omega)]
  show _ = some (bif pIn (l.getD k zI) lo hi && (decide (k = 0) || decide (l.getD (k - 1) zI < l.getD k zI)) then _ else _)
  cases pIn (l.getD k zI) lo hi
  ·rfl
  simp only [Bool.not_true, cond_false, Bool.true_and]
  by_cases h0 : k = 0
  ·subst h0; simp
  ·have e0 : (k : Int) > 0 := by omega
   have e1 : W ((k : Int) - 1) = ((k - 1 : Nat) : Int) := by rw [W_of (by omega)]; omega
   simp only [e0, decide_true, cond_true, e1, at_getD (show k - 1 < l.length by omega), obs, h0, decide_false, Bool.false_or]
   by_cases e : l.getD (k - 1) zI < l.getD k zI
   ·have e' : ¬ l.getD (k - 1) zI ≥ l.getD k zI := by omega
    simp only [e, e', decide_true, decide_false, cond_true, cond_false]
   ·have e' : l.getD (k - 1) zI ≥ l.getD k zI := by omega
    simp only [e, e', decide_true, decide_false, cond_true, cond_false]
 ·simp only [nlt_self, cond_false]
theorem rising_incr (l : List Int) (lo hi : Int) (h : ∀ k, k < l.length → pIn (l.getD k 0) lo hi = true) : (allFrom l.length 0 fun k => pIn (l.getD k 0) lo hi && (decide (k = 0) || decide (l.getD (k - 1) 0 < l.getD k 0))) = pIncr l := by
 rw [Bool.eq_iff_iff]
 unfold pIncr
 rw [allFrom_iff, allFrom_iff]
 constructor
 ·intro g j h1 h2
  have := g j (by omega) (by omega)
  simp only [Bool.and_eq_true, Bool.or_eq_true, decide_eq_true_eq] at this ⊢
  rcases this.2 with e | e
  ·omega
  ·exact e
 ·intro g j _ h2
  simp only [Bool.and_eq_true, Bool.or_eq_true, decide_eq_true_eq]
  refine ⟨h j (by omega), ?_⟩
  by_cases e : j = 0
  ·exact .inl e
  ·have := g j (by omega) (by omega)
   exact .inr (by simpa using this)
theorem edges_eq (m : TMap) (h : okSides m) (l : List Int) (hl : l.length ≤ SM) : X.s_mEdges m l = some (pEdges m l) := by
 have hm := mL
 have hl' := hl
 unfold SM at hl'
 obtain ⟨h5, h6, h7⟩ := size_eq m h
 have e3 : W ((W (3 * (W (m.Width * m.Height)))) - 1) = 3 * (m.Width * m.Height) - 1 := by rw [h5, W_of (n := 3 * (m.Width * m.Height)) (by omega), W_of (by omega)]
 unfold X.s_mEdges pEdges
 rw [run_all l (pEdge m) (.inr false) (.inl ()) rfl ?_ ?_]
 ·cases ha : l.all (pEdge m)
  ·rfl
  ·simp only [cond_true, Sum.elim_inl, X.s_mSize, obs, Bool.true_and, e3, rising_eq l _ _ hl]
   rw [rising_incr]
   intro k hk
   have := List.all_eq_true.1 ha _ (getD_mem (z := 0) hk)
   unfold pEdge at this
   rw [Bool.and_eq_true] at this
   exact this.1
 ·intro k hk
  simp only [lt_cast hk, cond_true, at_nat hk, obs, X.s_mSize, e3, s_in, W_up hk (show l.length ≤ maxLen by omega)]
  unfold pEdge
  cases hp : pIn l[k] 0 (3 * (m.Width * m.Height) - 1)
  ·rfl
  ·simp only [Bool.not_true, cond_false, (s_edge m h l[k]).2 hp, obs, Bool.true_and]
   by_cases e : pNext m (l[k] / 3) (l[k] % 3) < 0
   ·have e' : ¬ 0 ≤ pNext m (l[k] / 3) (l[k] % 3) := by omega
    simp only [e, e', decide_true, decide_false, cond_true, cond_false]
   ·have e' : 0 ≤ pNext m (l[k] / 3) (l[k] % 3) := by omega
    simp only [e, e', decide_true, decide_false, cond_true, cond_false]
 ·simp only [nlt_self, cond_false]
def pMap (m : TMap) : Bool :=
 pIn m.Width 1 10 && (pIn m.Height 1 10 && (((m.Terrain.length : Int) == m.Width * m.Height) && ((m.Terrain.all fun x => pIn x 0 5) && (pEdges m m.Rivers && pEdges m m.Roads))))
theorem map_eq (m : TMap) (q : smTMap m) : X.s_mGood m = some (pMap m) ∧ X.i_IsMap m = some (pMap m) := by
 have hm := mL
 have hT : m.Terrain.length ≤ maxLen := by have := q.2.2.1.1; unfold SM at this; omega
 have ed : ∀ l : List Int, l.length ≤ SM → okSides m → ∀ {γ : Type} (f : Unit ⊕ Bool → Option γ), ((loop (fun (x167 : Int) => ((bif (decide (x167 < (l.length : Int))) then ((at' zI l x167).bind fun v170 => ((X.i_isEdge m v170).bind fun v172 => (bif (!v172) then some (Sum.inr (Sum.inr false)) else some (Sum.inl (W (x167 + 1)))))) else some (Sum.inr (Sum.inl ()))) : Option (Int ⊕ (Unit ⊕ Bool)))) 0).bind f) = f (bif l.all (pEdge m) then .inl () else .inr false) := by
  intro l hl hs γ f
  have hl' := hl
  unfold SM at hl'
  rw [run_all l (pEdge m) (.inr false) (.inl ()) rfl ?_ ?_]
  ·intro k hk
   simp only [lt_cast hk, cond_true, at_nat hk, obs, isEdge_eq m hs, W_up hk (show l.length ≤ maxLen by omega)]
   cases pEdge m l[k] <;> rfl
  ·simp only [nlt_self, cond_false]
 unfold X.s_mGood X.i_IsMap pMap
 simp only [s_in, i_in, obs]
 cases h1 : pIn m.Width 1 10
 ·exact ⟨rfl, rfl⟩
 cases h2 : pIn m.Height 1 10
 ·exact ⟨rfl, rfl⟩
 rw [pIn_iff] at h1 h2
 have hs : okSides m := ⟨h1.1, h1.2, h2.1, h2.2⟩
 obtain ⟨h5, h6, h7⟩ := size_eq m hs
 simp only [Bool.not_true, cond_false, cond_true, Bool.true_and, X.s_mSize, obs, h5]
 cases h3 : (m.Terrain.length : Int) == m.Width * m.Height
 ·refine ⟨rfl, ?_⟩
  simp only [bne, h3]; rfl
 simp only [bne, h3, Bool.not_true, cond_false, cond_true, Bool.true_and]
 rw [s_all _ _ _ q.2.2.1.1]
 rw [run_all m.Terrain (fun x => pIn x 0 5) (.inr false) (.inl ()) rfl ?_ ?_]
 ·cases ht : (m.Terrain.all fun x => pIn x 0 5)
  ·exact ⟨rfl, rfl⟩
  simp only [cond_true, Sum.elim_inl, obs, Bool.true_and, edges_eq m hs _ q.2.2.2.1.1, edges_eq m hs _ q.2.2.2.2.1.1]
  refine ⟨by cases pEdges m m.Rivers <;> rfl, ?_⟩
  rw [run_allN 2 (fun k => pIncr (([m.Rivers, m.Roads] : List (List Int)).getD k zLI) && (([m.Rivers, m.Roads] : List (List Int)).getD k zLI).all (pEdge m)) (.inr false) (.inl ()) ?_ ?_]
  ·simp only [allFrom, pEdges, Bool.and_true]
   show _ = some ((m.Rivers.all (pEdge m) && pIncr m.Rivers) && (m.Roads.all (pEdge m) && pIncr m.Roads))
   change Sum.elim _ _ (bif ((pIncr m.Rivers && m.Rivers.all (pEdge m)) && (pIncr m.Roads && m.Roads.all (pEdge m))) then _ else _) = _
   cases pIncr m.Rivers <;> cases m.Rivers.all (pEdge m) <;> cases pIncr m.Roads <;> cases m.Roads.all (pEdge m) <;> rfl
  ·intro k hk
   have g1 : (([m.Rivers, m.Roads] : List (List Int)).getD k zLI).length ≤ SM := by
    rcases (show k = 0 ∨ k = 1 by omega) with rfl | rfl
    ·exact q.2.2.2.1.1
    ·exact q.2.2.2.2.1.1
   have g2 : 0 ≤ (k : Int) ∧ (k : Int) < (([m.Rivers, m.Roads] : List (List Int)).length : Int) := ⟨by omega, by simp; omega⟩
   rw [show decide ((k : Int) < (([m.Rivers, m.Roads] : List (List Int)).length : Int)) = true from decide_eq_true g2.2]
   simp only [cond_true]
   rw [if_pos g2]
   simp only [Int.toNat_natCast]
   rw [incr_eq _ g1]
   simp only [obs]
   cases pIncr (([m.Rivers, m.Roads] : List (List Int)).getD k zLI)
   ·rfl
   simp only [Bool.not_true, cond_false, Bool.true_and]
   rw [ed _ g1 hs]
   have : W ((k : Int) + 1) = ((k + 1 : Nat) : Int) := by rw [W_of (by omega)]; omega
   rw [this]
   cases (([m.Rivers, m.Roads] : List (List Int)).getD k zLI).all (pEdge m) <;> rfl
  ·rfl
 ·intro k hk
  have e6 : W ((6 : Int) - 1) = 5 := rfl
  simp only [lt_cast hk, cond_true, at_nat hk, obs, X.i_isIndex, i_in, e6, W_up hk hT]
  cases pIn m.Terrain[k] 0 5 <;> rfl
 ·simp only [nlt_self, cond_false]
noncomputable def pBoard (b : TBoard) : Bool := pRules b.Rules && (pMap b.Map && b.Map.Terrain.all fun x => pIn x 0 ((b.Rules.Terrains.length : Int) - 1))
theorem board_eq (b : TBoard) (q : smTBoard b) : X.s_bGood b = some (pBoard b) ∧ X.i_IsBoard b = some (pBoard b) := by
 have hm := mL
 have hl := q.2.1.2.2.1.1
 have hl' := hl
 unfold SM at hl'
 have hn := q.1.1.1
 unfold SM at hn
 unfold X.s_bGood X.i_IsBoard pBoard
 rw [(rules_eq _ q.1).1, (rules_eq _ q.1).2, (map_eq _ q.2.1).1, (map_eq _ q.2.1).2]
 simp only [obs]
 cases pRules b.Rules
 ·exact ⟨rfl, rfl⟩
 cases hmap : pMap b.Map
 ·exact ⟨rfl, rfl⟩
 simp only [Bool.not_true, cond_false, cond_true, Bool.true_and]
 rw [W_of (n := (b.Rules.Terrains.length : Int) - 1) (by omega), s_all _ _ _ hl]
 refine ⟨rfl, ?_⟩
 have hc : X.g_ContainsFunc_int b.Map.Terrain (fun q0 => X.i_IsBoard_1 q0 b) = some (b.Map.Terrain.any fun x => decide (x ≥ (b.Rules.Terrains.length : Int))) :=
  (hasF_eq (z := zI) (f := fun q0 => X.i_IsBoard_1 q0 b) (p := fun x => decide (x ≥ (b.Rules.Terrains.length : Int))) (by omega) (fun x _ => rfl) : _)
 rw [hc]
 simp only [obs, Option.some.injEq]
 unfold pMap at hmap
 simp only [Bool.and_eq_true] at hmap
 have h0 := hmap.2.2.2.1
 rw [Bool.eq_iff_iff]
 simp only [Bool.not_eq_true', List.any_eq_false, List.all_eq_true, decide_eq_true_eq]
 constructor
 ·intro h x hx
  have h1 := h x hx
  have h2 := List.all_eq_true.1 h0 x hx
  rw [pIn_iff] at h2 ⊢
  omega
 ·intro h x hx
  have h1 := h x hx
  rw [pIn_iff] at h1
  omega
theorem sides_of {b : TBoard} (h : pBoard b = true) : okSides b.Map ∧ ((b.Map.Terrain.length : Int) = b.Map.Width * b.Map.Height) := by
 unfold pBoard at h
 simp only [Bool.and_eq_true] at h
 have h1 := h.2.1
 unfold pMap at h1
 simp only [Bool.and_eq_true, pIn_iff, beq_iff_eq] at h1
 exact ⟨⟨h1.1.1, h1.1.2, h1.2.1.1, h1.2.1.2⟩, h1.2.2.1⟩
theorem size_of {b : TBoard} (h : pBoard b = true) : X.s_mSize b.Map = some (b.Map.Terrain.length : Int) ∧ 1 ≤ (b.Map.Terrain.length : Int) ∧ (b.Map.Terrain.length : Int) ≤ 100 := by
 obtain ⟨hs, hl⟩ := sides_of h
 obtain ⟨h1, h2, h3⟩ := size_eq _ hs
 unfold X.s_mSize
 rw [h1, hl]
 exact ⟨rfl, h2, h3⟩
theorem i_idx (i n : Int) (hn : 0 ≤ n ∧ n ≤ (SM : Int)) : X.i_isIndex i n = some (pIn i 0 (n - 1)) := by
 unfold X.i_isIndex
 unfold SM at hn
 rw [W_of (by omega), i_in]; rfl
theorem rising_split (l : List Int) (lo hi : Int) : (allFrom l.length 0 fun k => pIn (l.getD k 0) lo hi && (decide (k = 0) || decide (l.getD (k - 1) 0 < l.getD k 0))) = (pIncr l && l.all fun x => pIn x lo hi) := by
 cases h : l.all fun x => pIn x lo hi
 ·rw [Bool.and_false]
  cases g : allFrom l.length 0 fun k => pIn (l.getD k 0) lo hi && (decide (k = 0) || decide (l.getD (k - 1) 0 < l.getD k 0))
  ·rfl
  ·rw [allFrom_iff] at g
   have : (l.all fun x => pIn x lo hi) = true := List.all_eq_true.2 fun x hx => by
    obtain ⟨j, hj, rfl⟩ := List.getElem_of_mem hx
    have := g j (by omega) (by omega)
    rw [Bool.and_eq_true] at this
    simpa [List.getD, hj] using this.1
   rw [h] at this; cases this
 ·rw [Bool.and_true, rising_incr]
  intro k hk
  exact List.all_eq_true.1 h _ (getD_mem hk)
def terr (b : TBoard) (i : Nat) : TTerrain := b.Rules.Terrains.getD (b.Map.Terrain.getD i zI).toNat zTTerrain
def pCost (b : TBoard) (kind i : Nat) : Int := (terr b i).Cost.getD kind zI
theorem kinds_of {b : TBoard} (h : pBoard b = true) : 1 ≤ b.Rules.Kinds.length ∧ b.Rules.Kinds.length ≤ 4 ∧ 1 ≤ b.Rules.Terrains.length ∧ b.Rules.Terrains.length ≤ 6 ∧ (1 ≤ b.Rules.Stack ∧ b.Rules.Stack ≤ 4) ∧ (1 ≤ b.Rules.Turns ∧ b.Rules.Turns ≤ 30) := by
 unfold pBoard pRules at h
 simp only [Bool.and_eq_true, pIn_iff] at h
 omega
theorem kind_of {b : TBoard} (h : pBoard b = true) {k : Nat} (hk : k < b.Rules.Kinds.length) : 1 ≤ (b.Rules.Kinds.getD k zTKind).Strength ∧ (b.Rules.Kinds.getD k zTKind).Strength ≤ 9 ∧ 0 ≤ (b.Rules.Kinds.getD k zTKind).Moves ∧ (b.Rules.Kinds.getD k zTKind).Moves ≤ 9 ∧
  1 ≤ (b.Rules.Kinds.getD k zTKind).Steps ∧ (b.Rules.Kinds.getD k zTKind).Steps ≤ 4 ∧ 0 ≤ (b.Rules.Kinds.getD k zTKind).View ∧ (b.Rules.Kinds.getD k zTKind).View ≤ 4 := by
 unfold pBoard pRules at h
 simp only [Bool.and_eq_true, allFrom_iff] at h
 have := h.1.2.2.2.1 k (by omega) (by omega)
 unfold qK at this
 simp only [Bool.and_eq_true, pIn_iff] at this
 omega
theorem terr_of {b : TBoard} (h : pBoard b = true) {i : Nat} (hi : i < b.Map.Terrain.length) : 0 ≤ b.Map.Terrain.getD i zI ∧ b.Map.Terrain.getD i zI < (b.Rules.Terrains.length : Int) := by
 unfold pBoard at h
 simp only [Bool.and_eq_true, List.all_eq_true, pIn_iff] at h
 have := h.2.2 _ (getD_mem (z := zI) hi)
 omega
theorem costs_of {b : TBoard} (h : pBoard b = true) {t : Nat} (ht : t < b.Rules.Terrains.length) : (b.Rules.Terrains.getD t zTTerrain).Cost.length = b.Rules.Kinds.length ∧ (∀ x ∈ (b.Rules.Terrains.getD t zTTerrain).Cost, 0 ≤ x ∧ x ≤ 9) ∧
  0 ≤ (b.Rules.Terrains.getD t zTTerrain).Height ∧ (b.Rules.Terrains.getD t zTTerrain).Height ≤ 3 ∧ -3 ≤ (b.Rules.Terrains.getD t zTTerrain).Shift ∧ (b.Rules.Terrains.getD t zTTerrain).Shift ≤ 3 := by
 unfold pBoard pRules at h
 simp only [Bool.and_eq_true, allFrom_iff] at h
 have := h.1.2.2.1 t (by omega) (by omega)
 unfold qT at this
 simp only [Bool.and_eq_true, pIn_iff, List.all_eq_true, beq_iff_eq] at this
 refine ⟨by omega, fun x hx => this.2.2.2.1 x hx, by omega, by omega, by omega, by omega⟩
theorem terr_eq {b : TBoard} (h : pBoard b = true) {i : Nat} (hi : i < b.Map.Terrain.length) : X.s_bTerrain b (i : Int) = some (terr b i) ∧ X.i_terrainAt b (i : Int) = some (terr b i) := by
 obtain ⟨h1, h2⟩ := terr_of h hi
 obtain ⟨t, ht⟩ := Int.eq_ofNat_of_zero_le h1
 have ht2 : t < b.Rules.Terrains.length := by omega
 unfold X.s_bTerrain X.i_terrainAt terr
 simp only [at_getD hi, obs, ht, at_getD ht2, Int.toNat_natCast, and_self]
theorem cost_eq {b : TBoard} (h : pBoard b = true) {k i : Nat} (hk : k < b.Rules.Kinds.length) (hi : i < b.Map.Terrain.length) :
  X.s_bCost b (k : Int) (i : Int) = some (pCost b k i) ∧ X.i_enterCost b (k : Int) (i : Int) = some (pCost b k i) ∧ 0 ≤ pCost b k i ∧ pCost b k i ≤ 9 := by
 obtain ⟨h1, h2⟩ := terr_of h hi
 obtain ⟨t, ht⟩ := Int.eq_ofNat_of_zero_le h1
 have ht2 : t < b.Rules.Terrains.length := by omega
 obtain ⟨c1, c2, _⟩ := costs_of h ht2
 have hk2 : k < (terr b i).Cost.length := by
  unfold terr
  rw [ht, Int.toNat_natCast, c1]; exact hk
 have hc : 0 ≤ pCost b k i ∧ pCost b k i ≤ 9 := by
  unfold pCost
  refine c2 _ ?_
  have := getD_mem (z := zI) hk2
  unfold terr at this ⊢
  rw [ht, Int.toNat_natCast] at this ⊢
  exact this
 unfold X.s_bCost X.i_enterCost
 rw [(terr_eq h hi).1, (terr_eq h hi).2]
 simp only [obs, at_getD hk2]
 exact ⟨rfl, rfl, hc⟩
def pUnit (b : TBoard) (u : TUnit) : Bool :=
 pIn u.Side 0 1 && (pIn u.Kind 0 ((b.Rules.Kinds.length : Int) - 1) && (pIn u.Steps 0 (b.Rules.Kinds.getD u.Kind.toNat zTKind).Steps &&
  ((u.At == -1) || (decide (u.Steps > 0) && (pIn u.At 0 ((b.Map.Terrain.length : Int) - 1) && decide (pCost b u.Kind.toNat u.At.toNat > 0))))))
theorem pUnit_iff {b : TBoard} {u : TUnit} (h : pUnit b u = true) : (u.Side = 0 ∨ u.Side = 1) ∧ 0 ≤ u.Kind ∧ u.Kind < (b.Rules.Kinds.length : Int) ∧ 0 ≤ u.Steps ∧ u.Steps ≤ (b.Rules.Kinds.getD u.Kind.toNat zTKind).Steps ∧
  (u.At = -1 ∨ (0 < u.Steps ∧ 0 ≤ u.At ∧ u.At < (b.Map.Terrain.length : Int) ∧ 0 < pCost b u.Kind.toNat u.At.toNat)) := by
 unfold pUnit at h
 simp only [Bool.and_eq_true, Bool.or_eq_true, pIn_iff, beq_iff_eq, decide_eq_true_eq] at h
 omega
theorem unit_eq {b : TBoard} (h : pBoard b = true) (u : TUnit) : X.s_sUnit b u = some (pUnit b u) ∧ X.i_goodUnit b u = some (pUnit b u) := by
 obtain ⟨g1, g2, _, _⟩ := kinds_of h
 obtain ⟨s1, s2, s3⟩ := size_of h
 unfold X.s_sUnit X.i_goodUnit pUnit X.i_isSide
 simp only [s_in, i_in, obs, i_idx _ _ (show 0 ≤ (b.Rules.Kinds.length : Int) ∧ (b.Rules.Kinds.length : Int) ≤ (SM : Int) by unfold SM; omega), W_of (n := (b.Rules.Kinds.length : Int) - 1) (by omega)]
 cases pIn u.Side 0 1
 ·exact ⟨rfl, rfl⟩
 cases hk : pIn u.Kind 0 ((b.Rules.Kinds.length : Int) - 1)
 ·exact ⟨rfl, rfl⟩
 rw [pIn_iff] at hk
 obtain ⟨k, ek⟩ := Int.eq_ofNat_of_zero_le hk.1
 have hk2 : k < b.Rules.Kinds.length := by omega
 simp only [Bool.not_true, cond_false, Bool.true_and, ek, at_getD hk2, obs, Int.toNat_natCast]
 cases pIn u.Steps 0 (b.Rules.Kinds.getD k zTKind).Steps
 ·exact ⟨rfl, rfl⟩
 cases ha : u.At == -1
 case true => exact ⟨rfl, rfl⟩
 simp only [Bool.not_true, cond_false, Bool.true_and, Bool.false_or]
 cases hst : decide (u.Steps > 0)
 ·exact ⟨rfl, rfl⟩
 simp only [cond_true, s1, X.i_sizeOf, obs, i_idx _ _ (show 0 ≤ (b.Map.Terrain.length : Int) ∧ (b.Map.Terrain.length : Int) ≤ (SM : Int) by unfold SM; omega), W_of (n := (b.Map.Terrain.length : Int) - 1) (by omega), Bool.true_and]
 cases hp : pIn u.At 0 ((b.Map.Terrain.length : Int) - 1)
 ·exact ⟨rfl, rfl⟩
 rw [pIn_iff] at hp
 obtain ⟨i, ei⟩ := Int.eq_ofNat_of_zero_le hp.1
 have hi : i < b.Map.Terrain.length := by omega
 obtain ⟨c1, c2, c3, _⟩ := cost_eq h hk2 hi
 simp only [cond_true, ei, c1, c2, obs, Bool.true_and, Int.toNat_natCast]
 refine ⟨trivial, ?_⟩
 congr 1
 rw [Bool.eq_iff_iff]
 simp only [bne_iff_ne, ne_eq, decide_eq_true_eq]
 omega
theorem has_eq (l : List Int) (x : Int) (h : l.length ≤ maxLen) : X.s_l1Has l x = some (l.any fun v => v == x) := by
 unfold X.s_l1Has
 rw [run_all l (fun v => !(v == x)) (.inr true) (.inl ()) rfl ?_ ?_]
 ·rw [List.any_eq_not_all_not]
  cases l.all fun v => !(v == x) <;> rfl
 ·intro k hk
  simp only [lt_cast hk, cond_true, at_nat hk, obs, W_up hk h]
  cases l[k] == x <;> rfl
 ·simp only [nlt_self, cond_false]
def uBefore (a b : TUnit) : Bool := bif a.At != b.At then decide (a.At < b.At) else bif a.Kind != b.Kind then decide (a.Kind < b.Kind) else decide (a.Steps < b.Steps)
theorem before_eq (a b : TUnit) : X.s_fgBefore a b = some (uBefore a b) := by
 unfold X.s_fgBefore uBefore
 cases a.At != b.At <;> cases a.Kind != b.Kind <;> rfl
theorem compare_eq (a b : TUnit) (ha : 0 ≤ a.Kind ∧ a.Kind < 100 ∧ 0 ≤ a.Steps ∧ a.Steps < 100 ∧ -1 ≤ a.At ∧ a.At < 1000) (hb : 0 ≤ b.Kind ∧ b.Kind < 100 ∧ 0 ≤ b.Steps ∧ b.Steps < 100 ∧ -1 ≤ b.At ∧ b.At < 1000) :
  ∃ v : Int, X.i_compareUnits a b = some v ∧ decide (v < 0) = uBefore a b := by
 unfold X.i_compareUnits uBefore
 cases a.At != b.At
 ·cases a.Kind != b.Kind
  ·refine ⟨_, rfl, ?_⟩
   simp only [cond_false]
   rw [W_of (by omega), Bool.eq_iff_iff]
   simp only [decide_eq_true_eq]; omega
  ·refine ⟨_, rfl, ?_⟩
   simp only [cond_false, cond_true]
   rw [W_of (by omega), Bool.eq_iff_iff]
   simp only [decide_eq_true_eq]; omega
 ·refine ⟨_, rfl, ?_⟩
  simp only [cond_true]
  rw [W_of (by omega), Bool.eq_iff_iff]
  simp only [decide_eq_true_eq]; omega
theorem unit_small {b : TBoard} (h : pBoard b = true) {u : TUnit} (hu : pUnit b u = true) : 0 ≤ u.Kind ∧ u.Kind < 100 ∧ 0 ≤ u.Steps ∧ u.Steps < 100 ∧ -1 ≤ u.At ∧ u.At < 1000 := by
 obtain ⟨_, h1, h2, h3, h4, h5⟩ := pUnit_iff hu
 obtain ⟨j, hj⟩ := Int.eq_ofNat_of_zero_le h1
 have hjl : j < b.Rules.Kinds.length := by omega
 have := kind_of h hjl
 rw [hj, Int.toNat_natCast] at h4
 obtain ⟨g1, g2, _⟩ := kinds_of h
 obtain ⟨_, s2, s3⟩ := size_of h
 omega
def pSorted (us : List TUnit) : Bool := allFrom us.length 0 fun k => decide (k = 0) || !(uBefore (us.getD k zTUnit) (us.getD (k - 1) zTUnit))
theorem sorted_eq (us : List TUnit) (hl : us.length ≤ SM) (h : ∀ k, k < us.length → 0 ≤ (us.getD k zTUnit).Kind ∧ (us.getD k zTUnit).Kind < 100 ∧ 0 ≤ (us.getD k zTUnit).Steps ∧ (us.getD k zTUnit).Steps < 100 ∧ -1 ≤ (us.getD k zTUnit).At ∧ (us.getD k zTUnit).At < 1000) :
  X.g_IsSortedFunc_Unit us (fun q0 q1 => X.i_compareUnits q0 q1) = some (pSorted us) := by
 have hm := mL
 unfold SM at hl
 unfold X.g_IsSortedFunc_Unit
 by_cases h0 : us.length = 0
 ·rw [h0]
  have e1 : W (((0 : Nat) : Int) - 1) = -1 := rfl
  rw [e1, loop_eq]
  have : pSorted us = true := by unfold pSorted; rw [h0]; rfl
  rw [this]; rfl
 ·have e1 : W ((us.length : Int) - 1) = ((us.length - 1 : Nat) : Int) := by rw [W_of (by omega)]; omega
  rw [e1]
  have := loop_down (body := (fun (x20 : Int) => ((bif (decide (x20 > 0)) then ((at' zTUnit us x20).bind fun v23 => ((at' zTUnit us (W (x20 - 1))).bind fun v25 => ((X.i_compareUnits v23 v25).bind fun v27 => (bif (decide (v27 < 0)) then some (Sum.inr (Sum.inr false)) else some (Sum.inl (W (x20 - 1))))))) else some (Sum.inr (Sum.inl ()))) : Option (Int ⊕ (Unit ⊕ Bool)))))
   (fun k => !(uBefore (us.getD k zTUnit) (us.getD (k - 1) zTUnit))) (.inr false) (.inl ()) (us.length - 1) (fun j h1 h2 => by
    have hj : j < us.length := by omega
    have e2 : W ((j : Int) - 1) = ((j - 1 : Nat) : Int) := by rw [W_of (by omega)]; omega
    have e3 : (j : Int) > 0 := by omega
    obtain ⟨v, hv, hv2⟩ := compare_eq (us.getD j zTUnit) (us.getD (j - 1) zTUnit) (h j hj) (h (j - 1) (by omega))
    simp only [decide_eq_true e3, cond_true, e2, at_getD hj, at_getD (show j - 1 < us.length by omega), obs, hv, hv2]
    cases uBefore (us.getD j zTUnit) (us.getD (j - 1) zTUnit) <;> rfl) rfl
  rw [this]
  have hp : allDown (us.length - 1) (fun k => !(uBefore (us.getD k zTUnit) (us.getD (k - 1) zTUnit))) = pSorted us := by
   unfold pSorted
   rw [Bool.eq_iff_iff, allDown_iff, allFrom_iff]
   simp only [Bool.or_eq_true, decide_eq_true_eq]
   constructor
   ·intro g j _ hj
    by_cases e : j = 0
    ·exact .inl e
    ·exact .inr (g j (by omega) (by omega))
   ·intro g j h1 h2
    rcases g j (by omega) (by omega) with e | e
    ·omega
    ·exact e
  rw [hp]
  cases pSorted us <;> rfl
def pUnits (b : TBoard) (us : List TUnit) (d : Int) : Bool := allFrom us.length 0 fun k => ((us.getD k zTUnit).Side == d) && pUnit b (us.getD k zTUnit)
def pView (b : TBoard) (v : TView) : Bool :=
 pIn v.Side 0 1 && (pIn v.Turn 0 b.Rules.Turns && (pIn v.Weather 0 2 && ((pIncr v.Seen && v.Seen.all fun x => pIn x 0 ((b.Map.Terrain.length : Int) - 1)) && ((pUnits b v.Own v.Side && decide ((v.Own.length : Int) ≤ 12)) &&
  ((pUnits b v.Enemies (1 - v.Side) && decide ((v.Enemies.length : Int) ≤ 12)) && ((allFrom v.Enemies.length 0 fun k => v.Seen.any fun x => x == (v.Enemies.getD k zTUnit).At) && pSorted v.Enemies))))))
theorem yUnits_eq {b : TBoard} (h : pBoard b = true) (us : List TUnit) (d : Int) (hl : us.length ≤ SM) : X.s_yUnits b us d = some (pUnits b us d && decide ((us.length : Int) ≤ 12)) := by
 have hm := mL
 unfold SM at hl
 unfold X.s_yUnits pUnits
 rw [run_allN us.length (fun k => ((us.getD k zTUnit).Side == d) && pUnit b (us.getD k zTUnit)) (.inr false) (.inl ()) ?_ ?_]
 ·cases allFrom us.length 0 _ <;> rfl
 ·intro k hk
  simp only [lt_cast hk, cond_true, at_getD hk, obs, (unit_eq h _).1, bne, W_up hk (show us.length ≤ maxLen by omega)]
  cases ((us.getD k zTUnit).Side == d) <;> cases pUnit b (us.getD k zTUnit) <;> rfl
 ·simp only [nlt_self, cond_false]
theorem view_eq {b : TBoard} (h : pBoard b = true) (v : TView) (q : smTView v) : X.s_yGood b v = some (pView b v) ∧ X.i_goodView b v = some (pView b v) := by
 have hm := mL
 obtain ⟨s1, s2, s3⟩ := size_of h
 have hS := q.2.2.2.1.1
 have hO := q.2.2.2.2.1.1
 have hE := q.2.2.2.2.2.1.1
 have hS' := hS
 have hO' := hO
 have hE' := hE
 unfold SM at hS' hO' hE'
 constructor
 ·unfold X.s_yGood pView
  simp only [s_in, obs, s1, W_of (n := (b.Map.Terrain.length : Int) - 1) (by omega), rising_eq _ _ _ hS, rising_split]
  cases hsd : pIn v.Side 0 1
  ·rfl
  rw [pIn_iff] at hsd
  have ew : W (1 - v.Side) = 1 - v.Side := W_of (by omega)
  simp only [yUnits_eq h _ _ hO, yUnits_eq h _ _ hE, ew, obs]
  cases pIn v.Turn 0 b.Rules.Turns
  ·rfl
  cases pIn v.Weather 0 2
  ·rfl
  cases pIncr v.Seen && v.Seen.all fun x => pIn x 0 ((b.Map.Terrain.length : Int) - 1)
  ·rfl
  cases pUnits b v.Own v.Side && decide ((v.Own.length : Int) ≤ 12)
  ·rfl
  cases pUnits b v.Enemies (1 - v.Side) && decide ((v.Enemies.length : Int) ≤ 12)
  ·rfl
  simp only [Bool.not_true, cond_false, Bool.true_and]
  unfold pSorted
  rw [← allFrom_and]
  rw [run_allN v.Enemies.length (fun k => (v.Seen.any fun x => x == (v.Enemies.getD k zTUnit).At) && (decide (k = 0) || !(uBefore (v.Enemies.getD k zTUnit) (v.Enemies.getD (k - 1) zTUnit)))) (.inr false) (.inl ()) ?_ ?_]
  ·cases allFrom v.Enemies.length 0 _ <;> rfl
  ·intro k hk
   simp only [lt_cast hk, cond_true, at_getD hk, obs, has_eq _ _ (show v.Seen.length ≤ maxLen by omega), W_up hk (show v.Enemies.length ≤ maxLen by omega)]
   cases (v.Seen.any fun x => x == (v.Enemies.getD k zTUnit).At)
   ·rfl
   simp only [Bool.not_true, cond_false, Bool.true_and]
   by_cases h0 : k = 0
   ·subst h0; rfl
   ·have e0 : (k : Int) > 0 := by omega
    have e1 : W ((k : Int) - 1) = ((k - 1 : Nat) : Int) := by rw [W_of (by omega)]; omega
    simp only [decide_eq_true e0, cond_true, e1, at_getD (show k - 1 < v.Enemies.length by omega), obs, before_eq, decide_eq_false h0, Bool.false_or]
    cases uBefore (v.Enemies.getD k zTUnit) (v.Enemies.getD (k - 1) zTUnit) <;> rfl
  ·simp only [nlt_self, cond_false]
 ·unfold X.i_goodView pView X.i_isSide X.i_isWeather
  simp only [i_in, obs, incr_eq _ hS]
  cases hsd : pIn v.Side 0 1
  ·rfl
  rw [pIn_iff] at hsd
  cases pIn v.Turn 0 b.Rules.Turns
  ·rfl
  cases pIn v.Weather 0 2
  ·rfl
  cases pIncr v.Seen
  ·rfl
  simp only [Bool.not_true, cond_false, Bool.true_and]
  have hc : X.g_ContainsFunc_int v.Seen (fun q0 => X.i_goodView_1 q0 b) = some (v.Seen.any fun x => !(pIn x 0 ((b.Map.Terrain.length : Int) - 1))) :=
   (hasF_eq (z := zI) (f := fun q0 => X.i_goodView_1 q0 b) (p := fun x => !(pIn x 0 ((b.Map.Terrain.length : Int) - 1))) (by omega) (fun x _ => by
    unfold X.i_goodView_1 X.i_sizeOf
    simp only [obs, i_idx _ _ (show 0 ≤ (b.Map.Terrain.length : Int) ∧ (b.Map.Terrain.length : Int) ≤ (SM : Int) by unfold SM; omega)]) : _)
  have hn : (v.Seen.any fun x => !(pIn x 0 ((b.Map.Terrain.length : Int) - 1))) = !(v.Seen.all fun x => pIn x 0 ((b.Map.Terrain.length : Int) - 1)) := by rw [List.not_all_eq_any_not]
  rw [hc, hn]
  have d1 : decide ((v.Own.length : Int) > 12) = !(decide ((v.Own.length : Int) ≤ 12)) := by rw [Bool.eq_iff_iff]; simp only [decide_eq_true_eq, Bool.not_eq_true', decide_eq_false_iff_not]; omega
  have d2 : decide ((v.Enemies.length : Int) > 12) = !(decide ((v.Enemies.length : Int) ≤ 12)) := by rw [Bool.eq_iff_iff]; simp only [decide_eq_true_eq, Bool.not_eq_true', decide_eq_false_iff_not]; omega
  simp only [d1, d2, obs]
  have l1 : ∀ {γ : Type} (f : Unit ⊕ Bool → Option γ), ((loop (fun (x82 : Int) => ((bif (decide (x82 < (v.Own.length : Int))) then ((at' zTUnit v.Own x82).bind fun v85 => ((X.i_goodUnit b v85).bind fun v87 => (bif (!v87) then some (Sum.inr (Sum.inr false)) else (bif (v85.Side != v.Side) then some (Sum.inr (Sum.inr false)) else some (Sum.inl (W (x82 + 1))))))) else some (Sum.inr (Sum.inl ()))) : Option (Int ⊕ (Unit ⊕ Bool)))) 0).bind f) = f (bif pUnits b v.Own v.Side then .inl () else .inr false) := by
   intro γ f
   rw [run_allN v.Own.length (fun k => ((v.Own.getD k zTUnit).Side == v.Side) && pUnit b (v.Own.getD k zTUnit)) (.inr false) (.inl ()) ?_ ?_]
   ·rfl
   ·intro k hk
    simp only [lt_cast hk, cond_true, at_getD hk, obs, (unit_eq h _).2, bne, W_up hk (show v.Own.length ≤ maxLen by omega)]
    cases ((v.Own.getD k zTUnit).Side == v.Side) <;> cases pUnit b (v.Own.getD k zTUnit) <;> rfl
   ·simp only [nlt_self, cond_false]
  have l2 : ∀ {γ : Type} (f : Unit ⊕ Bool → Option γ), ((loop (fun (x118 : Int) => ((bif (decide (x118 < (v.Enemies.length : Int))) then ((at' zTUnit v.Enemies x118).bind fun v121 => ((X.i_goodUnit b v121).bind fun v123 => (bif (!v123) then some (Sum.inr (Sum.inr false)) else (bif (v121.Side == v.Side) then some (Sum.inr (Sum.inr false)) else ((X.g_Contains_int v.Seen v121.At).bind fun v127 => (bif (!v127) then some (Sum.inr (Sum.inr false)) else some (Sum.inl (W (x118 + 1))))))))) else some (Sum.inr (Sum.inl ()))) : Option (Int ⊕ (Unit ⊕ Bool)))) 0).bind f) =
    f (bif pUnits b v.Enemies (1 - v.Side) && (allFrom v.Enemies.length 0 fun k => v.Seen.any fun x => x == (v.Enemies.getD k zTUnit).At) then .inl () else .inr false) := by
   intro γ f
   unfold pUnits
   rw [← allFrom_and]
   rw [run_allN v.Enemies.length (fun k => (((v.Enemies.getD k zTUnit).Side == 1 - v.Side) && pUnit b (v.Enemies.getD k zTUnit)) && (v.Seen.any fun x => x == (v.Enemies.getD k zTUnit).At)) (.inr false) (.inl ()) ?_ ?_]
   ·intro k hk
    have hcn : X.g_Contains_int v.Seen (v.Enemies.getD k zTUnit).At = some (v.Seen.any fun x => x == (v.Enemies.getD k zTUnit).At) := by
     rw [contains_int _ _ (by omega)]
     congr 2
     funext x
     rw [Bool.eq_iff_iff]; simp only [beq_iff_eq]; exact eq_comm
    simp only [lt_cast hk, cond_true, at_getD hk, obs, (unit_eq h _).2, hcn, W_up hk (show v.Enemies.length ≤ maxLen by omega)]
    cases hu : pUnit b (v.Enemies.getD k zTUnit)
    ·cases ((v.Enemies.getD k zTUnit).Side == 1 - v.Side) <;> rfl
    ·have hsu := (pUnit_iff hu).1
     have e : ((v.Enemies.getD k zTUnit).Side == 1 - v.Side) = !((v.Enemies.getD k zTUnit).Side == v.Side) := by
      rw [Bool.eq_iff_iff]; simp only [beq_iff_eq, Bool.not_eq_true', beq_eq_false_iff_ne]; omega
     rw [e]
     cases ((v.Enemies.getD k zTUnit).Side == v.Side) <;> cases (v.Seen.any fun x => x == (v.Enemies.getD k zTUnit).At) <;> rfl
   ·simp only [nlt_self, cond_false]
  rw [l1]
  cases decide ((v.Own.length : Int) ≤ 12)
  ·simp only [Bool.not_false, cond_true, Bool.and_false, Bool.false_and]
  cases he : decide ((v.Enemies.length : Int) ≤ 12)
  ·simp only [Bool.not_false, Bool.not_true, cond_true, cond_false, Bool.and_false, Bool.false_and]
  simp only [Bool.not_true, cond_false, Bool.and_true]
  cases v.Seen.all fun x => pIn x 0 ((b.Map.Terrain.length : Int) - 1)
  ·rfl
  simp only [Bool.not_true, cond_false, Bool.true_and]
  cases pUnits b v.Own v.Side
  ·rfl
  simp only [cond_true, Sum.elim_inl, Bool.true_and]
  rw [l2]
  cases hpu : pUnits b v.Enemies (1 - v.Side)
  ·rfl
  simp only [Bool.true_and]
  cases allFrom v.Enemies.length 0 fun k => v.Seen.any fun x => x == (v.Enemies.getD k zTUnit).At
  ·rfl
  simp only [cond_true, Sum.elim_inl, Bool.true_and]
  rw [sorted_eq _ hE]
  ·rfl
  ·intro k hk
   unfold pUnits at hpu
   rw [allFrom_iff] at hpu
   have := hpu k (by omega) (by omega)
   rw [Bool.and_eq_true] at this
   exact unit_small h this.2
theorem name_len {s : List UInt8} (hl : s.length ≤ maxLen) (h : pName s = true) : s.length ≤ 8 := by
 have h0 := (name_eq s hl).1
 rw [h] at h0
 unfold X.s_rName at h0
 rw [run_allN s.length (fun k => !(decide ((((s.getD k 0).toNat : Nat) : Int) < 97)) && !(decide ((((s.getD k 0).toNat : Nat) : Int) > 122))) (.inr false) (.inl ()) ?_ ?_] at h0
 ·cases hA : allFrom s.length 0 (fun k => !(decide ((((s.getD k 0).toNat : Nat) : Int) < 97)) && !(decide ((((s.getD k 0).toNat : Nat) : Int) > 122))) with
  | false => rw [hA] at h0; cases h0
  | true =>
   rw [hA] at h0
   simp only [cond_true, Sum.elim_inl, s_in, obs, Option.some.injEq, pIn_iff] at h0
   omega
 ·intro k hk
  have h1 : 0 ≤ (k : Int) ∧ (k : Int) < (s.length : Int) := by omega
  simp only [lt_cast hk, cond_true, if_pos h1, W_up hk hl, Int.toNat_natCast]
  cases decide ((((s.getD k 0).toNat : Nat) : Int) < 97) <;> cases decide ((((s.getD k 0).toNat : Nat) : Int) > 122) <;> rfl
 ·simp only [nlt_self, cond_false]
theorem kname {b : TBoard} (hb : pBoard b = true) {j : Nat} (hj : j < b.Rules.Kinds.length) : pName (b.Rules.Kinds.getD j zTKind).Name = true ∧ pKI b.Rules.Kinds (b.Rules.Kinds.getD j zTKind).Name = (j : Int) := by
 unfold pBoard pRules at hb
 simp only [Bool.and_eq_true, allFrom_iff] at hb
 have := hb.1.2.2.2.1 j (by omega) (by omega)
 unfold qK at this
 simp only [Bool.and_eq_true, beq_iff_eq] at this
 exact ⟨this.1, this.2.1⟩
noncomputable def num (n : Nat) : List UInt8 := (X.x_strconv_Itoa (n : Int)).getD []
theorem num_all : ((List.range 100).all fun n => decide (X.s_l1Num 64 (n : Int) = some (num n) ∧ X.x_strconv_Itoa (n : Int) = some (num n) ∧ (num n).length ≤ 2)) = true := by kernel_rfl
theorem num_eq {n : Nat} (h : n < 100) : X.s_l1Num 64 (n : Int) = some (num n) ∧ X.x_strconv_Itoa (n : Int) = some (num n) ∧ (num n).length ≤ 2 :=
 of_decide_eq_true (List.all_eq_true.1 num_all n (List.mem_range.2 h))
theorem num_int {n : Int} (h : 0 ≤ n ∧ n < 100) : X.s_l1Num 64 n = some (num n.toNat) ∧ X.x_strconv_Itoa n = some (num n.toNat) ∧ (num n.toNat).length ≤ 2 := by
 have := num_eq (n := n.toNat) (by omega)
 rwa [Int.toNat_of_nonneg h.1] at this
noncomputable def words (w : List UInt8) (l : List Int) : List UInt8 := w ++ l.flatMap fun n => 32 :: num n.toNat
theorem flat_len {α β : Type} {f : α → List β} {B : Nat} : ∀ l : List α, (∀ x ∈ l, (f x).length ≤ B) → (l.flatMap f).length ≤ B * l.length
 | [], _ => by simp
 | x :: r, h => by
  have h1 := h x (by simp)
  have h2 := flat_len r fun y hy => h y (by simp [hy])
  simp only [List.flatMap_cons, List.length_append, List.length_cons, Nat.mul_add, Nat.mul_one]
  omega
theorem flat_take {α β : Type} {f : α → List β} {l : List α} {k : Nat} (h : k < l.length) : (l.take (k + 1)).flatMap f = (l.take k).flatMap f ++ f l[k] := by
 rw [List.take_succ_eq_append_getElem h, List.flatMap_append]; simp
theorem mlist_eq {w : List UInt8} {l : List Int} (hw : w.length ≤ 100) (hl : l.length ≤ 1048576) (h : ∀ x ∈ l, 0 ≤ x ∧ x < 100) : X.s_mList w l = some (words w l ++ [10]) := by
 have hm := mL
 have hB : ∀ k, ((l.take k).flatMap fun n => 32 :: num n.toNat).length ≤ 3 * l.length := fun k =>
  Nat.le_trans (flat_len (B := 3) _ fun x hx => by have := (num_int (h x (List.mem_of_mem_take hx))).2.2; simp; omega) (Nat.mul_le_mul_left 3 (by simp [List.length_take]; omega))
 unfold X.s_mList
 rw [run_st l.length (fun k => (w ++ (l.take k).flatMap (fun n => 32 :: num n.toNat), (k : Int))) (words w l) (by simp) ?_ ?_]
 ·have := hB l.length
  rw [List.take_length] at this
  unfold words
  rw [if_pos (by simp only [List.length_append, List.length_cons, List.length_nil]; omega)]
 ·intro k hk
  have hn := num_int (h _ (List.getElem_mem hk))
  have := hB k
  simp only [lt_cast hk, cond_true, at_nat hk, obs, hn.1]
  rw [if_pos (by simp only [List.length_cons, List.length_nil]; omega), if_pos (by simp only [List.length_append, List.length_cons, List.length_nil]; omega), flat_take hk, W_up hk (show l.length ≤ maxLen by omega)]
  simp only [List.append_assoc, List.cons_append, List.nil_append]
 ·simp only [nlt_self, cond_false, List.take_length]; rfl
theorem icl (s w : List UInt8) (f : Int → List UInt8) : ∀ l : List Int, s.intercalate (w :: l.map f) = w ++ l.flatMap fun n => s ++ f n
 | [] => by simp [List.intercalate, List.intersperse]
 | x :: r => by
  have := icl s (f x) f r
  simp only [List.intercalate, List.map_cons, List.intersperse, List.flatten_cons, List.flatMap_cons, List.append_assoc] at this ⊢
  rw [this]
theorem words_eq {w : List UInt8} {l : List Int} (hw : w.length ≤ 100) (hl : l.length ≤ 1048576) (h : ∀ x ∈ l, 0 ≤ x ∧ x < 100) : X.i_wordsText w l = some (words w l) := by
 have hm := mL
 have hB : (words w l).length ≤ 100 + 3 * l.length := by
  have := flat_len (f := fun n : Int => 32 :: num n.toNat) (B := 3) l fun x hx => by have := (num_int (h x hx)).2.2; simp; omega
  unfold words
  simp only [List.length_append]; omega
 have hj : ([32] : List UInt8).intercalate (w :: l.map fun n => num n.toNat) = words w l := by rw [icl]; rfl
 unfold X.i_wordsText
 rw [run_st l.length (fun k => ((k : Int), w :: (l.take k).map fun n => num n.toNat)) (w :: l.map fun n => num n.toNat) (by simp) ?_ ?_]
 ·unfold X.x_strings_Join
  rw [hj, if_pos ⟨by simp; omega, by omega⟩]; rfl
 ·intro k hk
  have hn := num_int (h _ (List.getElem_mem hk))
  simp only [lt_cast hk, cond_true, at_nat hk, obs, hn.2.1]
  rw [if_pos (by simp [List.length_take]; unfold LIM; omega), W_up hk (show l.length ≤ maxLen by omega), List.take_succ_eq_append_getElem hk]
  simp only [List.map_append, List.map_cons, List.map_nil, List.cons_append]
 ·simp only [nlt_self, cond_false, List.take_length]
noncomputable def place (i : Int) : List UInt8 := if i < 0 then [45] else num i.toNat
noncomputable def uline (b : TBoard) (w : List UInt8) (u : TUnit) : List UInt8 := ((((((w ++ [32]) ++ (b.Rules.Kinds.getD u.Kind.toNat zTKind).Name) ++ [32]) ++ place u.At) ++ [32]) ++ num u.Steps.toNat) ++ [10]
theorem place_len {i : Int} (h : i < 100) : (place i).length ≤ 2 := by
 unfold place
 split
 ·simp
 ·exact (num_int (n := i) ⟨by omega, h⟩).2.2
theorem uline_eq {b : TBoard} (hb : pBoard b = true) (q : smTBoard b) {w : List UInt8} (hw : w.length ≤ 100) {u : TUnit} (hu : pUnit b u = true) :
  X.s_yUnit b w u = some (uline b w u) ∧ X.i_reportText_1 w u b = some (uline b w u) ∧ (uline b w u).length ≤ 1048576 + 200 := by
 have hm := mL
 obtain ⟨_, p2, p3, p4, p5, p6⟩ := pUnit_iff hu
 obtain ⟨_, z2, z3⟩ := size_of hb
 obtain ⟨j, hj⟩ := Int.eq_ofNat_of_zero_le p2
 have hjl : j < b.Rules.Kinds.length := by omega
 have hst := (kind_of hb hjl).2.2.2.2.2.1
 have hnm : (b.Rules.Kinds.getD j zTKind).Name.length ≤ 1048576 := Nat.le_trans (name_len (Nat.le_trans (q.1.2.1.2 _ (getD_mem (z := zTKind) hjl)).1 (by decide)) (kname hb hjl).1) (by decide)
 have hAt : u.At < 100 ∧ -1 ≤ u.At := by omega
 rw [hj, Int.toNat_natCast] at p5
 have n1 := num_int (n := u.Steps) ⟨p4, by omega⟩
 have n2 := place_len hAt.1
 have e1 : (((bif (decide (u.At ≥ 0)) then ((X.s_l1Num 64 u.At).bind fun v5 => some v5) else some [45]) : Option (List UInt8))) = some (place u.At) := by
  unfold place
  by_cases h : u.At < 0
  ·rw [decide_eq_false (by omega), cond_false, if_pos h]
  ·rw [decide_eq_true (by omega), cond_true, if_neg h, (num_int (n := u.At) ⟨by omega, by omega⟩).1]; rfl
 have e2 : X.i_placeText u.At = some (place u.At) := by
  unfold X.i_placeText place
  by_cases h : u.At < 0
  ·rw [decide_eq_true h, cond_true, if_pos h]
  ·rw [decide_eq_false h, cond_false, if_neg h, (num_int (n := u.At) ⟨by omega, by omega⟩).2.1]; rfl
 refine ⟨?_, ?_, ?_⟩
 ·unfold X.s_yUnit
  rw [e1, hj, at_getD hjl]
  simp only [obs, n1.1]
  unfold uline
  rw [hj, Int.toNat_natCast]
  generalize (b.Rules.Kinds.getD j zTKind).Name = N at hnm ⊢
  generalize place u.At = p at n2 ⊢
  generalize num u.Steps.toNat = n at n1 ⊢
  repeat rw [if_pos (by simp only [List.length_append, List.length_cons, List.length_nil]; omega)]
 ·unfold X.i_reportText_1
  rw [e2, hj, at_getD hjl]
  simp only [obs, n1.2.1]
  unfold uline
  rw [hj, Int.toNat_natCast]
  generalize (b.Rules.Kinds.getD j zTKind).Name = N at hnm ⊢
  generalize place u.At = p at n2 ⊢
  generalize num u.Steps.toNat = n at n1 ⊢
  repeat rw [if_pos (by simp only [List.length_append, List.length_cons, List.length_nil]; omega)]
 ·unfold uline
  rw [hj, Int.toNat_natCast]
  simp only [List.length_append, List.length_cons, List.length_nil]
  omega
theorem lines_run {b : TBoard} {us : List TUnit} {g : TUnit → Option (List UInt8)} {F : TUnit → List UInt8} (hl : us.length ≤ 12) (hg : ∀ u ∈ us, g u = some (F u) ∧ (F u).length ≤ 1048576 + 200) {acc : List UInt8} (ha : acc.length ≤ 100000000) {γ : Type} (f : List UInt8 → Option γ) :
  ((loop (fun (x56 : ((List UInt8) × Int)) => ((bif (decide (x56.2 < (us.length : Int))) then ((at' zTUnit us x56.2).bind fun v59 => ((g v59).bind fun v61 => (if x56.1.length + v61.length ≤ maxLen then some (Sum.inl ((x56.1 ++ v61), (W (x56.2 + 1)))) else none))) else some (Sum.inr x56.1)) : Option (((List UInt8) × Int) ⊕ (List UInt8)))) (acc, 0)).bind f) = f (acc ++ us.flatMap F) := by
 have hm := mL
 rw [run_st us.length (fun k => (acc ++ (us.take k).flatMap F, (k : Int))) (acc ++ us.flatMap F) (by simp) ?_ ?_]
 ·intro k hk
  have h1 := hg _ (List.getElem_mem hk)
  have h2 : ((us.take k).flatMap F).length ≤ (1048576 + 200) * 12 := Nat.le_trans (flat_len _ fun x hx => (hg x (List.mem_of_mem_take hx)).2) (Nat.mul_le_mul_left _ (by simp [List.length_take]; omega))
  simp only [lt_cast hk, cond_true, at_nat hk, obs, h1.1]
  rw [if_pos (by simp only [List.length_append]; omega), flat_take hk, W_up hk (show us.length ≤ maxLen by omega)]
  simp only [List.append_assoc]
 ·simp only [nlt_self, cond_false, List.take_length]
noncomputable def text (b : TBoard) (v : TView) : List UInt8 :=
 ((words [115, 105, 100, 101] [v.Side] ++ [32] ++ words [116, 117, 114, 110] [v.Turn] ++ [32] ++ words [119, 101, 97, 116, 104, 101, 114] [v.Weather] ++ [10] ++ words [115, 101, 101, 110] v.Seen ++ [10]) ++ v.Own.flatMap (uline b [111, 119, 110])) ++ v.Enemies.flatMap (uline b [101, 110, 101, 109, 121])
theorem text_eq {b : TBoard} (hb : pBoard b = true) (q : smTBoard b) {v : TView} (h1 : 0 ≤ v.Side ∧ v.Side < 100) (h2 : 0 ≤ v.Turn ∧ v.Turn < 100) (h3 : 0 ≤ v.Weather ∧ v.Weather < 100) (h4 : v.Seen.length ≤ 1048576 ∧ ∀ x ∈ v.Seen, 0 ≤ x ∧ x < 100)
  (h5 : v.Own.length ≤ 12 ∧ ∀ u ∈ v.Own, pUnit b u = true) (h6 : v.Enemies.length ≤ 12 ∧ ∀ u ∈ v.Enemies, pUnit b u = true) : X.s_yText b v = some (text b v) ∧ X.i_reportText b v = some (text b v) := by
 have hm := mL
 have hS := h4.1
 have n1 := num_int h1
 have n2 := num_int h2
 have n3 := num_int h3
 have one : ∀ {w : List UInt8} {n : Int}, w.length ≤ 100 → 0 ≤ n ∧ n < 100 → X.i_wordsText w [n] = some (words w [n]) := fun hw hn => words_eq hw (by simp) fun x hx => by
  rw [List.mem_singleton] at hx; subst hx; exact hn
 have wl : (words [115, 101, 101, 110] v.Seen).length ≤ 3 * v.Seen.length + 4 := by
  have := flat_len (f := fun n : Int => 32 :: num n.toNat) (B := 3) v.Seen fun x hx => by have := (num_int (h4.2 x hx)).2.2; simp; omega
  unfold words
  simp only [List.length_append, List.length_cons, List.length_nil]; omega
 have w1 : ∀ (w : List UInt8) (n : Int), words w [n] = w ++ 32 :: num n.toNat := fun w n => by unfold words; simp
 have so := fun u hu => uline_eq (w := [111, 119, 110]) hb q (by simp) (h5.2 u hu)
 have se := fun u hu => uline_eq (w := [101, 110, 101, 109, 121]) hb q (by simp) (h6.2 u hu)
 have lo : (v.Own.flatMap (uline b [111, 119, 110])).length ≤ (1048576 + 200) * 12 := Nat.le_trans (flat_len _ fun x hx => (so x hx).2.2) (Nat.mul_le_mul_left _ h5.1)
 constructor
 ·unfold X.s_yText
  rw [n1.1, n2.1, n3.1, mlist_eq (by simp) h4.1 h4.2]
  simp only [obs]
  unfold text
  rw [w1, w1, w1]
  generalize num v.Side.toNat = a1 at n1 ⊢
  generalize num v.Turn.toNat = a2 at n2 ⊢
  generalize num v.Weather.toNat = a3 at n3 ⊢
  generalize words [115, 101, 101, 110] v.Seen = a4 at wl ⊢
  repeat rw [if_pos (by simp only [List.length_append, List.length_cons, List.length_nil]; omega)]
  rw [lines_run (b := b) h5.1 (fun u hu => ⟨(so u hu).1, (so u hu).2.2⟩) (by simp only [List.length_append, List.length_cons, List.length_nil]; omega),
   lines_run (b := b) h6.1 (fun u hu => ⟨(se u hu).1, (se u hu).2.2⟩) (by simp only [List.length_append, List.length_cons, List.length_nil]; omega)]
  simp only [List.append_assoc, List.cons_append, List.nil_append]
 ·unfold X.i_reportText
  rw [one (by simp) h1, one (by simp) h2, one (by simp) h3, words_eq (by simp) h4.1 h4.2]
  simp only [obs]
  unfold text
  rw [w1, w1, w1]
  generalize num v.Side.toNat = a1 at n1 ⊢
  generalize num v.Turn.toNat = a2 at n2 ⊢
  generalize num v.Weather.toNat = a3 at n3 ⊢
  generalize words [115, 101, 101, 110] v.Seen = a4 at wl ⊢
  repeat rw [if_pos (by simp only [List.length_append, List.length_cons, List.length_nil]; omega)]
  rw [lines_run (b := b) h5.1 (fun u hu => ⟨(so u hu).2.1, (so u hu).2.2⟩) (by simp only [List.length_append, List.length_cons, List.length_nil]; omega),
   lines_run (b := b) h6.1 (fun u hu => ⟨(se u hu).2.1, (se u hu).2.2⟩) (by simp only [List.length_append, List.length_cons, List.length_nil]; omega)]
theorem units_mem {b : TBoard} {us : List TUnit} {d : Int} (h : pUnits b us d = true) : ∀ u ∈ us, pUnit b u = true := fun u hu => by
 obtain ⟨i, hi, rfl⟩ := List.getElem_of_mem hu
 unfold pUnits at h
 rw [allFrom_iff] at h
 have := h i (by omega) (by omega)
 simp only [Bool.and_eq_true] at this
 simpa [List.getD, hi] using this.2
theorem text_view {b : TBoard} (hb : pBoard b = true) (q : smTBoard b) {v : TView} (hv : pView b v = true) (qv : v.Seen.length ≤ 1048576) : X.s_yText b v = some (text b v) ∧ X.i_reportText b v = some (text b v) := by
 have hT := (kinds_of hb).2.2.2.2.2
 obtain ⟨_, z2, z3⟩ := size_of hb
 unfold pView at hv
 simp only [Bool.and_eq_true, pIn_iff, List.all_eq_true, decide_eq_true_eq] at hv
 obtain ⟨a1, a2, a3, ⟨_, a4⟩, ⟨a5, a6⟩, ⟨a7, a8⟩, _⟩ := hv
 exact text_eq hb q ⟨by omega, by omega⟩ ⟨by omega, by omega⟩ ⟨by omega, by omega⟩ ⟨qv, fun x hx => by have := a4 x hx; omega⟩ ⟨by omega, units_mem a5⟩ ⟨by omega, units_mem a7⟩
theorem core (a0 : TBoard) (a1 : TView) (k0 : okTBoard a0) (k1 : okTView a1) (q0 : smTBoard a0) (q1 : smTView a1) : ∃ w, X.s_ReportText a0 a1 = some w ∧ X.i_ReportText a0 a1 = some w := by
 unfold X.s_ReportText X.i_ReportText X.s_yAsked X.i_hasView
 rw [(board_eq a0 q0).1, (board_eq a0 q0).2]
 simp only [obs]
 cases hb : pBoard a0
 ·exact ⟨_, rfl, rfl⟩
 simp only [cond_true, (view_eq hb a1 q1).1, (view_eq hb a1 q1).2, obs]
 cases hv : pView a0 a1
 ·exact ⟨_, rfl, rfl⟩
 obtain ⟨t1, t2⟩ := text_view hb q0 hv q1.2.2.2.1.1
 simp only [Bool.not_true, cond_false, t1, t2, obs]
 exact ⟨_, rfl, rfl⟩
theorem law (a0 : TBoard) (a1 : TView) (k0 : okTBoard a0) (k1 : okTView a1) : X.l_FnExactReportText a0 a1 = some true := by
 unfold X.l_FnExactReportText
 refine law_sz (l_szBoard_sz a0 k0 1048576 (by unfold SM; omega)) (by unfold SM; omega) fun r1 g1 q1 => ?_
 refine law_sz (l_szView_sz a1 k1 r1 g1) g1 fun r2 g2 q2 => ?_
 obtain ⟨w, hs, hi⟩ := core a0 a1 k0 k1 q1 q2
 simp [l_toBoard_eq a0 q1, l_eqBoard_eq a0 q1, l_toView_eq a1 q2, l_eqView_eq a1 q2, hs, hi]
end Go.Proofs.YtockjpnbfllmaaaGreatDoor.X0
