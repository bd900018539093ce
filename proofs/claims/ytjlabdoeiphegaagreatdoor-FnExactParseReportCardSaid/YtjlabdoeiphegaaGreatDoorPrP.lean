/- The plain law behind FnExactParseReport, for arguments that a machine can hold. -/
import Derived.Test.YtjlabdoeiphegaaGreatDoorPrWc
import Derived.Test.YtjlabdoeiphegaaGreatDoorAmCore3
import Derived.Lib.ItoaLen
set_option linter.unusedVariables false
set_option linter.unusedSimpArgs false
set_option maxRecDepth 100000
namespace Go.Proofs.YtjlabdoeiphegaaGreatDoor.X0
open Go Go.Proofs.YtjlabdoeiphegaaGreatDoor.Ab
theorem obs {α β : Type} (a : α) (f : α → Option β) : (some a).bind f = f a := rfl
abbrev okLI (x : (List Int)) : Prop := okL okI x
abbrev smLI (x : (List Int)) : Prop := smL smI x
theorem l_szIntS_sz (x : (List Int)) (h : okLI x) : SzOk X.l_szIntS smLI x := szS_ok h.1 fun y _ => trivI y
theorem l_toIntS_eq (x : (List Int)) (h : smLI x) : X.l_toIntS x = some x := (toL_eq (z := zI) (f := some) h.1 fun _ _ => rfl : _)
theorem l_eqIntS_eq (x : (List Int)) (h : smLI x) : X.l_eqIntS x x = some true := (eqL_self (z := zI) (f := fun a b => some (a == b)) h.1 fun x _ => by simp : _)
abbrev okTTerrain (x : TTerrain) : Prop := okS x.Name ∧ okLI x.Cost ∧ okI x.Shift ∧ okI x.Height ∧ okB x.Blocks ∧ True
abbrev smTTerrain (x : TTerrain) : Prop := smS x.Name ∧ smLI x.Cost ∧ smI x.Shift ∧ smI x.Height ∧ smB x.Blocks ∧ True
theorem l_szTerrain_sz (x : TTerrain) (h : okTTerrain x) : SzOk X.l_szTerrain smTTerrain x := by
 intro n hn
 unfold X.l_szTerrain
 obtain ⟨r1, e1, l1, f1⟩ := len_cases (xs := x.Name) (h.1) hn
 rw [e1]
 refine szr_bif f1 l1 fun g1 q1 => ?_
 refine szr_step (l_szIntS_sz x.Cost (h.2.1) r1 g1) g1 fun r2 g2 q2 => ?_
 exact szr_last g2 ⟨q1, q2, trivI x.Shift, trivI x.Height, trivB x.Blocks, trivial⟩
theorem l_toTerrain_eq (x : TTerrain) (h : smTTerrain x) : X.l_toTerrain x = some x := by
 unfold X.l_toTerrain
 rw [l_toIntS_eq x.Cost (h.2.1)]; rfl
theorem l_eqTerrain_eq (x : TTerrain) (h : smTTerrain x) : X.l_eqTerrain x x = some true := by
 unfold X.l_eqTerrain
 simp [l_eqIntS_eq x.Cost (h.2.1)]
abbrev okLTTerrain (x : (List TTerrain)) : Prop := okL okTTerrain x
abbrev smLTTerrain (x : (List TTerrain)) : Prop := smL smTTerrain x
theorem l_szTerrainS_sz (x : (List TTerrain)) (h : okLTTerrain x) : SzOk X.l_szTerrainS smLTTerrain x := szL_ok (z := zTTerrain) (f := X.l_szTerrain) h.1 fun y hy => l_szTerrain_sz y (h.2 y hy)
theorem l_toTerrainS_eq (x : (List TTerrain)) (h : smLTTerrain x) : X.l_toTerrainS x = some x := toL_eq (z := zTTerrain) (f := X.l_toTerrain) h.1 fun y hy => l_toTerrain_eq y (h.2 y hy)
theorem l_eqTerrainS_eq (x : (List TTerrain)) (h : smLTTerrain x) : X.l_eqTerrainS x x = some true := eqL_self (z := zTTerrain) (f := X.l_eqTerrain) h.1 fun y hy => l_eqTerrain_eq y (h.2 y hy)
abbrev okTKind (x : TKind) : Prop := okS x.Name ∧ okI x.Strength ∧ okI x.Moves ∧ okI x.Steps ∧ okB x.Zone ∧ okI x.View ∧ True
abbrev smTKind (x : TKind) : Prop := smS x.Name ∧ smI x.Strength ∧ smI x.Moves ∧ smI x.Steps ∧ smB x.Zone ∧ smI x.View ∧ True
theorem l_szKind_sz (x : TKind) (h : okTKind x) : SzOk X.l_szKind smTKind x := by
 intro n hn
 unfold X.l_szKind
 obtain ⟨r1, e1, l1, f1⟩ := len_cases (xs := x.Name) (h.1) hn
 rw [e1]
 refine szr_bif f1 l1 fun g1 q1 => ?_
 exact szr_last g1 ⟨q1, trivI x.Strength, trivI x.Moves, trivI x.Steps, trivB x.Zone, trivI x.View, trivial⟩
theorem l_toKind_eq (x : TKind) (h : smTKind x) : X.l_toKind x = some x := by
 unfold X.l_toKind
 rfl
theorem l_eqKind_eq (x : TKind) (h : smTKind x) : X.l_eqKind x x = some true := by
 unfold X.l_eqKind
 simp []
abbrev okLTKind (x : (List TKind)) : Prop := okL okTKind x
abbrev smLTKind (x : (List TKind)) : Prop := smL smTKind x
theorem l_szKindS_sz (x : (List TKind)) (h : okLTKind x) : SzOk X.l_szKindS smLTKind x := szL_ok (z := zTKind) (f := X.l_szKind) h.1 fun y hy => l_szKind_sz y (h.2 y hy)
theorem l_toKindS_eq (x : (List TKind)) (h : smLTKind x) : X.l_toKindS x = some x := toL_eq (z := zTKind) (f := X.l_toKind) h.1 fun y hy => l_toKind_eq y (h.2 y hy)
theorem l_eqKindS_eq (x : (List TKind)) (h : smLTKind x) : X.l_eqKindS x x = some true := eqL_self (z := zTKind) (f := X.l_eqKind) h.1 fun y hy => l_eqKind_eq y (h.2 y hy)
abbrev okTRules (x : TRules) : Prop := okLTTerrain x.Terrains ∧ okLTKind x.Kinds ∧ okI x.Stack ∧ okI x.River ∧ okI x.Road ∧ okI x.Supply ∧ okI x.Turns ∧ True
abbrev smTRules (x : TRules) : Prop := smLTTerrain x.Terrains ∧ smLTKind x.Kinds ∧ smI x.Stack ∧ smI x.River ∧ smI x.Road ∧ smI x.Supply ∧ smI x.Turns ∧ True
theorem l_szRules_sz (x : TRules) (h : okTRules x) : SzOk X.l_szRules smTRules x := by
 intro n hn
 unfold X.l_szRules
 refine szr_step (l_szTerrainS_sz x.Terrains (h.1) n hn) hn fun r1 g1 q1 => ?_
 refine szr_step (l_szKindS_sz x.Kinds (h.2.1) r1 g1) g1 fun r2 g2 q2 => ?_
 exact szr_last g2 ⟨q1, q2, trivI x.Stack, trivI x.River, trivI x.Road, trivI x.Supply, trivI x.Turns, trivial⟩
theorem l_toRules_eq (x : TRules) (h : smTRules x) : X.l_toRules x = some x := by
 unfold X.l_toRules
 simp only [l_toTerrainS_eq x.Terrains (h.1), l_toKindS_eq x.Kinds (h.2.1), obs]
theorem l_eqRules_eq (x : TRules) (h : smTRules x) : X.l_eqRules x x = some true := by
 unfold X.l_eqRules
 simp [l_eqTerrainS_eq x.Terrains (h.1), l_eqKindS_eq x.Kinds (h.2.1)]
abbrev okTMap (x : TMap) : Prop := okI x.Width ∧ okI x.Height ∧ okLI x.Terrain ∧ okLI x.Rivers ∧ okLI x.Roads ∧ True
abbrev smTMap (x : TMap) : Prop := smI x.Width ∧ smI x.Height ∧ smLI x.Terrain ∧ smLI x.Rivers ∧ smLI x.Roads ∧ True
theorem l_szMap_sz (x : TMap) (h : okTMap x) : SzOk X.l_szMap smTMap x := by
 intro n hn
 unfold X.l_szMap
 refine szr_step (l_szIntS_sz x.Terrain (h.2.2.1) n hn) hn fun r1 g1 q1 => ?_
 refine szr_step (l_szIntS_sz x.Rivers (h.2.2.2.1) r1 g1) g1 fun r2 g2 q2 => ?_
 refine szr_step (l_szIntS_sz x.Roads (h.2.2.2.2.1) r2 g2) g2 fun r3 g3 q3 => ?_
 exact szr_last g3 ⟨trivI x.Width, trivI x.Height, q1, q2, q3, trivial⟩
theorem l_toMap_eq (x : TMap) (h : smTMap x) : X.l_toMap x = some x := by
 unfold X.l_toMap
 simp only [l_toIntS_eq x.Terrain (h.2.2.1), l_toIntS_eq x.Rivers (h.2.2.2.1), l_toIntS_eq x.Roads (h.2.2.2.2.1), obs]
theorem l_eqMap_eq (x : TMap) (h : smTMap x) : X.l_eqMap x x = some true := by
 unfold X.l_eqMap
 simp [l_eqIntS_eq x.Terrain (h.2.2.1), l_eqIntS_eq x.Rivers (h.2.2.2.1), l_eqIntS_eq x.Roads (h.2.2.2.2.1)]
abbrev okTBoard (x : TBoard) : Prop := okTRules x.Rules ∧ okTMap x.Map ∧ True
abbrev smTBoard (x : TBoard) : Prop := smTRules x.Rules ∧ smTMap x.Map ∧ True
theorem l_szBoard_sz (x : TBoard) (h : okTBoard x) : SzOk X.l_szBoard smTBoard x := by
 intro n hn
 unfold X.l_szBoard
 refine szr_step (l_szRules_sz x.Rules (h.1) n hn) hn fun r1 g1 q1 => ?_
 refine szr_step (l_szMap_sz x.Map (h.2.1) r1 g1) g1 fun r2 g2 q2 => ?_
 exact szr_last g2 ⟨q1, q2, trivial⟩
theorem l_toBoard_eq (x : TBoard) (h : smTBoard x) : X.l_toBoard x = some x := by
 unfold X.l_toBoard
 simp only [l_toRules_eq x.Rules (h.1), l_toMap_eq x.Map (h.2.1), obs]
theorem l_eqBoard_eq (x : TBoard) (h : smTBoard x) : X.l_eqBoard x x = some true := by
 unfold X.l_eqBoard
 simp [l_eqRules_eq x.Rules (h.1), l_eqMap_eq x.Map (h.2.1)]
abbrev smTUnit (x : TUnit) : Prop := smI x.Side ∧ smI x.Kind ∧ smI x.At ∧ smI x.Steps ∧ True
theorem trivTUnit (x : TUnit) : smTUnit x := ⟨trivI x.Side, trivI x.Kind, trivI x.At, trivI x.Steps, trivial⟩
theorem l_eqUnit_eq (x : TUnit) (h : smTUnit x) : X.l_eqUnit x x = some true := by
 unfold X.l_eqUnit
 simp []
abbrev smLTUnit (x : (List TUnit)) : Prop := smL smTUnit x
theorem l_eqUnitS_eq (x : (List TUnit)) (h : smLTUnit x) : X.l_eqUnitS x x = some true := eqL_self (z := zTUnit) (f := X.l_eqUnit) h.1 fun y hy => l_eqUnit_eq y (h.2 y hy)
abbrev smTView (x : TView) : Prop := smI x.Side ∧ smI x.Turn ∧ smI x.Weather ∧ smLI x.Seen ∧ smLTUnit x.Own ∧ smLTUnit x.Enemies ∧ True
theorem l_eqView_eq (x : TView) (h : smTView x) : X.l_eqView x x = some true := by
 unfold X.l_eqView
 simp [l_eqIntS_eq x.Seen (h.2.2.2.1), l_eqUnitS_eq x.Own (h.2.2.2.2.1), l_eqUnitS_eq x.Enemies (h.2.2.2.2.2.1)]
end Go.Proofs.YtjlabdoeiphegaaGreatDoor.X0

set_option maxRecDepth 100000
namespace Go.Proofs.YtjlabdoeiphegaaGreatDoor.X0
open Go Go.Proofs.YtjlabdoeiphegaaGreatDoor.Ab
theorem s_l1In_eq (n lo hi : Int) : X.s_l1In n lo hi = some (decide (lo ≤ n) && decide (n ≤ hi)) := by
 unfold X.s_l1In
 by_cases h : lo ≤ n
 ·simp [h]
 ·simp [h]
theorem i_inRange_eq (n lo hi : Int) : X.i_inRange n lo hi = some (decide (lo ≤ n) && decide (n ≤ hi)) := by
 unfold X.i_inRange
 by_cases h : lo ≤ n
 ·simp [h]
 ·simp [h]
theorem s_l1All_eq (xs : List Int) (lo hi : Int) (hl : xs.length ≤ SM) : X.s_l1All xs lo hi = some (xs.all fun x => decide (lo ≤ x) && decide (x ≤ hi)) := by
 unfold SM at hl
 unfold X.s_l1All
 rw [run_all xs (fun x => decide (lo ≤ x) && decide (x ≤ hi)) (.inr false) (.inl ()) rfl ?_ ?_]
 ·cases xs.all fun x => decide (lo ≤ x) && decide (x ≤ hi) <;> rfl
 ·intro k hk
  have hk' : (k : Int) < xs.length := by omega
  simp only [hk', decide_true, cond_true, at_nat hk, obs, s_l1In_eq, W_up hk (show xs.length ≤ maxLen from Nat.le_trans hl (by decide))]
  cases (decide (lo ≤ xs[k]) && decide (xs[k] ≤ hi)) <;> simp
 ·simp
theorem contains_int (xs : List Int) (x : Int) (hl : xs.length ≤ maxLen) : X.g_Contains_int xs x = some (xs.any fun v => x == v) := (hasF_eq (z := zI) (f := fun v => some (x == v)) (p := fun v => x == v) hl (fun _ _ => rfl) : _)
def pIn (n lo hi : Int) : Bool := decide (lo ≤ n) && decide (n ≤ hi)
theorem s_in (n lo hi : Int) : X.s_l1In n lo hi = some (pIn n lo hi) := s_l1In_eq n lo hi
theorem i_in (n lo hi : Int) : X.i_inRange n lo hi = some (pIn n lo hi) := i_inRange_eq n lo hi
theorem pIn_iff {n lo hi : Int} : pIn n lo hi = true ↔ lo ≤ n ∧ n ≤ hi := by simp [pIn]
theorem mL : maxLen = 9223372036854775807 := by decide
theorem s_all (xs : List Int) (lo hi : Int) (hl : xs.length ≤ SM) : X.s_l1All xs lo hi = some (xs.all fun x => pIn x lo hi) := s_l1All_eq xs lo hi hl
noncomputable def pName (s : List UInt8) : Bool := (X.s_rName s).getD false
theorem name_eq (s : List UInt8) (h : s.length ≤ maxLen) : X.s_rName s = some (pName s) ∧ X.i_isName s = some (pName s) := by
 have e : X.i_isName s = X.s_rName s := by
  unfold X.i_isName X.s_rName
  simp only [i_in, s_in]
 have hs : ∃ b, X.s_rName s = some b := by
  unfold X.s_rName
  rw [run_allN s.length (fun k => !(decide ((((s.getD k 0).toNat : Nat) : Int) < 97)) && !(decide ((((s.getD k 0).toNat : Nat) : Int) > 122))) (.inr false) (.inl ()) ?_ ?_]
  ·cases allFrom s.length 0 _
   ·exact ⟨_, rfl⟩
   ·simp only [cond_true, Sum.elim_inl, s_in, obs]; exact ⟨_, rfl⟩
  ·intro k hk
   have h1 : 0 ≤ (k : Int) ∧ (k : Int) < (s.length : Int) := by omega
   simp only [lt_cast hk, cond_true, if_pos h1, W_up hk h, Int.toNat_natCast]
   cases decide ((((s.getD k 0).toNat : Nat) : Int) < 97) <;> cases decide ((((s.getD k 0).toNat : Nat) : Int) > 122) <;> rfl
  ·simp only [nlt_self, cond_false]
 obtain ⟨b, hb⟩ := hs
 have hp : X.s_rName s = some (pName s) := by unfold pName; rw [hb]; rfl
 exact ⟨hp, e.trans hp⟩
noncomputable def pTI (xs : List TTerrain) (s : List UInt8) : Int := (X.s_rTerrain xs s).getD 0
noncomputable def pKI (xs : List TKind) (s : List UInt8) : Int := (X.s_rKind xs s).getD 0
theorem ti_eq (xs : List TTerrain) (s : List UInt8) (h : xs.length ≤ maxLen) : X.s_rTerrain xs s = some (pTI xs s) ∧ X.i_terrainIndex xs s = some (pTI xs s) := by
 have e : X.s_rTerrain xs s = idxF zTTerrain (fun v => some (v.Name == s)) xs := rfl
 obtain ⟨i, h1, _⟩ := idxF_ok (z := zTTerrain) (f := fun v => some (v.Name == s)) (p := fun v => v.Name == s) (xs := xs) h (fun _ _ => rfl)
 have hp : X.s_rTerrain xs s = some (pTI xs s) := by unfold pTI; rw [e, h1]; rfl
 refine ⟨hp, ?_⟩
 have e2 : X.i_terrainIndex xs s = (idxF zTTerrain (fun v => some (v.Name == s)) xs).bind some := rfl
 rw [e2, ← e, hp]; rfl
theorem ki_eq (xs : List TKind) (s : List UInt8) (h : xs.length ≤ maxLen) : X.s_rKind xs s = some (pKI xs s) ∧ X.i_kindIndex xs s = some (pKI xs s) := by
 have e : X.s_rKind xs s = idxF zTKind (fun v => some (v.Name == s)) xs := rfl
 obtain ⟨i, h1, _⟩ := idxF_ok (z := zTKind) (f := fun v => some (v.Name == s)) (p := fun v => v.Name == s) (xs := xs) h (fun _ _ => rfl)
 have hp : X.s_rKind xs s = some (pKI xs s) := by unfold pKI; rw [e, h1]; rfl
 refine ⟨hp, ?_⟩
 have e2 : X.i_kindIndex xs s = (idxF zTKind (fun v => some (v.Name == s)) xs).bind some := rfl
 rw [e2, ← e, hp]; rfl
noncomputable def qT (r : TRules) (k : Nat) : Bool :=
 let t := r.Terrains.getD k zTTerrain
 pName t.Name && ((pTI r.Terrains t.Name == (k : Int)) && (((t.Cost.length : Int) == (r.Kinds.length : Int)) && ((t.Cost.all fun x => pIn x 0 9) && (pIn t.Shift (-3) 3 && pIn t.Height 0 3))))
noncomputable def qK (r : TRules) (k : Nat) : Bool :=
 let t := r.Kinds.getD k zTKind
 pName t.Name && ((pKI r.Kinds t.Name == (k : Int)) && (pIn t.Strength 1 9 && (pIn t.Moves 0 9 && (pIn t.Steps 1 4 && pIn t.View 0 4))))
noncomputable def pRules (r : TRules) : Bool :=
 pIn (r.Terrains.length : Int) 1 6 && (pIn (r.Kinds.length : Int) 1 4 && (allFrom r.Terrains.length 0 (qT r) && (allFrom r.Kinds.length 0 (qK r) && (pIn r.Stack 1 4 && (pIn r.River 0 9 && (pIn r.Road 1 9 && (pIn r.Supply 0 20 && pIn r.Turns 1 30)))))))
theorem costs_eq (xs : List Int) (h : xs.length ≤ SM) : X.g_ContainsFunc_int xs (fun q0 => X.i_goodTerrain_1 q0) = some (!(xs.all fun x => pIn x 0 9)) := by
 have hm := mL
 have := hasF_eq (z := zI) (f := fun q0 => X.i_goodTerrain_1 q0) (p := fun x => !(pIn x 0 9)) (xs := xs) (by unfold SM at h; omega) (fun x _ => by unfold X.i_goodTerrain_1; rw [i_in]; rfl)
 rw [List.not_all_eq_any_not]
 exact this
theorem getD_mem {α : Type} {xs : List α} {k : Nat} {z : α} (h : k < xs.length) : xs.getD k z ∈ xs := by
 have : xs.getD k z = xs[k] := by simp [List.getD, h]
 rw [this]; exact List.getElem_mem h
theorem rules_eq (r : TRules) (q : smTRules r) : X.s_rGood r = some (pRules r) ∧ X.i_IsRules r = some (pRules r) := by
 have hm := mL
 have hT : r.Terrains.length ≤ maxLen := by have := q.1.1; unfold SM at this; omega
 have hK : r.Kinds.length ≤ maxLen := by have := q.2.1.1; unfold SM at this; omega
 have hTn : ∀ k, k < r.Terrains.length → (r.Terrains.getD k zTTerrain).Name.length ≤ maxLen ∧ (r.Terrains.getD k zTTerrain).Cost.length ≤ SM := fun k hk => by
  have := q.1.2 _ (getD_mem (z := zTTerrain) hk)
  exact ⟨by have := this.1; unfold smS SM at this; omega, this.2.1.1⟩
 have hKn : ∀ k, k < r.Kinds.length → (r.Kinds.getD k zTKind).Name.length ≤ maxLen := fun k hk => by
  have := (q.2.1.2 _ (getD_mem (z := zTKind) hk)).1
  unfold smS SM at this; omega
 constructor
 ·unfold X.s_rGood pRules
  simp only [s_in, obs, bif_not]
  cases pIn (r.Terrains.length : Int) 1 6
  ·rfl
  cases pIn (r.Kinds.length : Int) 1 4
  ·rfl
  simp only [cond_true, Bool.true_and]
  rw [run_allN r.Terrains.length (qT r) (.inr false) (.inl ()) ?_ ?_]
  ·cases allFrom r.Terrains.length 0 (qT r)
   ·rfl
   simp only [cond_true, Sum.elim_inl, Bool.true_and]
   rw [run_allN r.Kinds.length (qK r) (.inr false) (.inl ()) ?_ ?_]
   ·cases allFrom r.Kinds.length 0 (qK r)
    ·rfl
    simp only [cond_true, Sum.elim_inl, Bool.true_and]
    cases pIn r.Stack 1 4 <;> cases pIn r.River 0 9 <;> cases pIn r.Road 1 9 <;> cases pIn r.Supply 0 20 <;> rfl
   ·intro k hk
    simp only [lt_cast hk, cond_true, at_getD hk, obs, (name_eq _ (hKn k hk)).1, (ki_eq _ _ hK).1, W_up hk hK, qK]
    cases pName (r.Kinds.getD k zTKind).Name
    ·rfl
    cases h : pKI r.Kinds (r.Kinds.getD k zTKind).Name == (k : Int)
    ·simp only [bne, h]; rfl
    simp only [bne, h, Bool.not_true, cond_false, cond_true, Bool.true_and]
    cases pIn (r.Kinds.getD k zTKind).Strength 1 9 <;> cases pIn (r.Kinds.getD k zTKind).Moves 0 9 <;> cases pIn (r.Kinds.getD k zTKind).Steps 1 4 <;> cases pIn (r.Kinds.getD k zTKind).View 0 4 <;> rfl
   ·simp only [nlt_self, cond_false]
  ·intro k hk
   simp only [lt_cast hk, cond_true, at_getD hk, obs, (name_eq _ (hTn k hk).1).1, (ti_eq _ _ hT).1, s_all _ _ _ (hTn k hk).2, W_up hk hT, qT]
   cases pName (r.Terrains.getD k zTTerrain).Name
   ·rfl
   cases h : pTI r.Terrains (r.Terrains.getD k zTTerrain).Name == (k : Int)
   ·simp only [bne, h]; rfl
   cases h2 : ((r.Terrains.getD k zTTerrain).Cost.length : Int) == (r.Kinds.length : Int)
   ·simp only [bne, h, h2]; rfl
   simp only [bne, h, h2, Bool.not_true, cond_false, cond_true, Bool.true_and]
   cases ((r.Terrains.getD k zTTerrain).Cost.all fun x => pIn x 0 9) <;> cases pIn (r.Terrains.getD k zTTerrain).Shift (-3) 3 <;> cases pIn (r.Terrains.getD k zTTerrain).Height 0 3 <;> rfl
  ·simp only [nlt_self, cond_false]
 ·unfold X.i_IsRules pRules
  simp only [i_in, obs, bif_not]
  cases pIn (r.Terrains.length : Int) 1 6
  ·rfl
  cases pIn (r.Kinds.length : Int) 1 4
  ·rfl
  simp only [cond_true, Bool.true_and]
  rw [run_allN r.Terrains.length (qT r) (.inr false) (.inl ()) ?_ ?_]
  ·cases allFrom r.Terrains.length 0 (qT r)
   ·rfl
   simp only [cond_true, Sum.elim_inl, Bool.true_and]
   rw [run_allN r.Kinds.length (qK r) (.inr false) (.inl ()) ?_ ?_]
   ·cases allFrom r.Kinds.length 0 (qK r)
    ·rfl
    simp only [cond_true, Sum.elim_inl, Bool.true_and]
    cases pIn r.Stack 1 4 <;> cases pIn r.River 0 9 <;> cases pIn r.Road 1 9 <;> cases pIn r.Supply 0 20 <;> rfl
   ·intro k hk
    simp only [lt_cast hk, cond_true, at_getD hk, obs, X.i_goodKind, i_in, (name_eq _ (hKn k hk)).2, (ki_eq _ _ hK).2, W_up hk hK, qK]
    cases pName (r.Kinds.getD k zTKind).Name
    ·rfl
    cases h : pKI r.Kinds (r.Kinds.getD k zTKind).Name == (k : Int) <;> simp only [bne, h] <;>
    cases pIn (r.Kinds.getD k zTKind).Strength 1 9 <;> cases pIn (r.Kinds.getD k zTKind).Moves 0 9 <;> cases pIn (r.Kinds.getD k zTKind).Steps 1 4 <;> cases pIn (r.Kinds.getD k zTKind).View 0 4 <;> rfl
   ·simp only [nlt_self, cond_false]
  ·intro k hk
   simp only [lt_cast hk, cond_true, at_getD hk, obs, X.i_goodTerrain, i_in, (name_eq _ (hTn k hk).1).2, (ti_eq _ _ hT).2, costs_eq _ (hTn k hk).2, W_up hk hT, qT]
   cases pName (r.Terrains.getD k zTTerrain).Name
   ·rfl
   cases h2 : ((r.Terrains.getD k zTTerrain).Cost.length : Int) == (r.Kinds.length : Int)
   ·simp only [bne, h2]; cases (pTI r.Terrains (r.Terrains.getD k zTTerrain).Name == (k : Int)) <;> rfl
   cases h : pTI r.Terrains (r.Terrains.getD k zTTerrain).Name == (k : Int) <;> simp only [bne, h, h2, Bool.not_true, cond_false, cond_true, Bool.true_and] <;>
   cases ((r.Terrains.getD k zTTerrain).Cost.all fun x => pIn x 0 9) <;> cases pIn (r.Terrains.getD k zTTerrain).Shift (-3) 3 <;> cases pIn (r.Terrains.getD k zTTerrain).Height 0 3 <;> rfl
  ·simp only [nlt_self, cond_false]
def dQ : List Int := [1, 1, 0, -1, -1, 0]
def dR : List Int := [0, -1, -1, 0, 1, 1]
def okSides (m : TMap) : Prop := 1 ≤ m.Width ∧ m.Width ≤ 10 ∧ 1 ≤ m.Height ∧ m.Height ≤ 10
def pIdx (m : TMap) (a b : Int) : Int := bif pIn a 0 (m.Width - 1) && pIn b 0 (m.Height - 1) then b * m.Width + a else -1
def pNext (m : TMap) (i : Int) (d : Int) : Int := pIdx m (i % m.Width + dQ.getD d.toNat 0) (i / m.Width + dR.getD d.toNat 0)
theorem size_eq (m : TMap) (h : okSides m) : W (m.Width * m.Height) = m.Width * m.Height ∧ 1 ≤ m.Width * m.Height ∧ m.Width * m.Height ≤ 100 := by
 obtain ⟨h1, h2, h3, h4⟩ := h
 have a : 1 * 1 ≤ m.Width * m.Height := Int.mul_le_mul h1 h3 (by omega) (by omega)
 have b : m.Width * m.Height ≤ 10 * 10 := Int.mul_le_mul h2 h4 (by omega) (by omega)
 exact ⟨W_of (by omega), by omega, by omega⟩
theorem tmod_nn {a b : Int} (ha : 0 ≤ a) (hb : 1 ≤ b) : Int.tmod a b = a % b := Int.tmod_eq_emod_of_nonneg ha
theorem tdiv_nn {a b : Int} (ha : 0 ≤ a) : Int.tdiv a b = a / b := Int.tdiv_eq_ediv_of_nonneg ha
theorem idx_eq (m : TMap) (h : okSides m) (a b : Int) : X.s_mIndex m ⟨a, b⟩ = some (pIdx m a b) ∧ X.i_indexOf m ⟨a, b⟩ = some (pIdx m a b) := by
 have hw := h
 obtain ⟨h1, h2, h3, h4⟩ := h
 unfold X.s_mIndex X.i_indexOf X.i_isIndex pIdx
 simp only [s_in, i_in, obs]
 rw [W_of (n := m.Width - 1) (by omega), W_of (n := m.Height - 1) (by omega)]
 cases ha : pIn a 0 (m.Width - 1)
 ·exact ⟨rfl, rfl⟩
 cases hb : pIn b 0 (m.Height - 1)
 ·exact ⟨rfl, rfl⟩
 simp only [Bool.not_true, cond_false, Bool.and_self, cond_true]
 rw [pIn_iff] at ha hb
 have e1 : 0 * 1 ≤ b * m.Width := Int.mul_le_mul (by omega) (by omega) (by omega) (by omega)
 have e2 : b * m.Width ≤ 10 * 10 := Int.mul_le_mul (by omega) (by omega) (by omega) (by omega)
 rw [W_of (n := b * m.Width) (by omega), W_of (by omega)]
 exact ⟨rfl, rfl⟩
theorem dirs_getD (d : Nat) (h : d < 6) : dirs.getD d zTHex = ⟨dQ.getD d 0, dR.getD d 0⟩ ∧ -1 ≤ dQ.getD d 0 ∧ dQ.getD d 0 ≤ 1 ∧ -1 ≤ dR.getD d 0 ∧ dR.getD d 0 ≤ 1 := by
 match d, h with
 | 0, _ => exact ⟨rfl, by decide⟩
 | 1, _ => exact ⟨rfl, by decide⟩
 | 2, _ => exact ⟨rfl, by decide⟩
 | 3, _ => exact ⟨rfl, by decide⟩
 | 4, _ => exact ⟨rfl, by decide⟩
 | 5, _ => exact ⟨rfl, by decide⟩
theorem next_eq (m : TMap) (h : okSides m) (i d : Int) (hi : 0 ≤ i ∧ i < 4611686018427387904) (hd : 0 ≤ d ∧ d < 6) : X.s_mNext m i d = some (pNext m i d) ∧ X.i_nextTo m i d = some (pNext m i d) := by
 have hw := h
 obtain ⟨h1, h2, h3, h4⟩ := h
 obtain ⟨k, rfl⟩ := Int.eq_ofNat_of_zero_le hd.1
 have hk : k < 6 := by omega
 obtain ⟨g0, g1, g2, g3, g4⟩ := dirs_getD k hk
 have hne : m.Width ≠ 0 := by omega
 have hm1 : 0 ≤ i % m.Width := Int.emod_nonneg _ hne
 have hm2 : i % m.Width < m.Width := Int.emod_lt_of_pos _ (by omega)
 have hd1 : 0 ≤ i / m.Width := Int.ediv_nonneg hi.1 (by omega)
 have hd2 : i / m.Width ≤ i := Int.ediv_le_self _ hi.1
 have e : pNext m i (k : Int) = pIdx m (i % m.Width + dQ.getD k 0) (i / m.Width + dR.getD k 0) := rfl
 constructor
 ·unfold X.s_mNext X.s_mHex X.s_hStep
  rw [if_pos hne, if_pos hne]
  simp only [obs]
  have hl1 : 0 ≤ (k : Int) ∧ (k : Int) < (([1, 1, 0, -1, -1, 0] : List Int).length : Int) := ⟨by omega, by simp; omega⟩
  have hl2 : 0 ≤ (k : Int) ∧ (k : Int) < (([0, -1, -1, 0, 1, 1] : List Int).length : Int) := ⟨by omega, by simp; omega⟩
  rw [if_pos hl1, if_pos hl2]
  simp only [obs, Int.toNat_natCast]
  rw [tmod_nn hi.1 h1, tdiv_nn hi.1, W_of (n := i / m.Width) (by omega)]
  change ((X.s_mIndex m (THex.mk (W (i % m.Width + dQ.getD k 0)) (W (i / m.Width + dR.getD k 0)))).bind fun v5 => some v5) = _
  rw [W_of (n := i % m.Width + dQ.getD k 0) (by omega), W_of (n := i / m.Width + dR.getD k 0) (by omega), (idx_eq m hw _ _).1, e]; rfl
 ·unfold X.i_nextTo X.i_hexOf X.i_stepBy
  rw [if_pos hne, if_pos hne]
  simp only [obs]
  rw [tmod_nn hi.1 h1, tdiv_nn hi.1, W_of (n := i / m.Width) (by omega)]
  rw [at_getD (z := zTHex) (xs := dirs) (k := k) hk, g0]
  simp only [obs, Int.one_mul]
  rw [W_of (n := dQ.getD k 0) (by omega), W_of (n := dR.getD k 0) (by omega)]
  rw [W_of (n := i % m.Width + dQ.getD k 0) (by omega), W_of (n := i / m.Width + dR.getD k 0) (by omega), (idx_eq m hw _ _).2, e]; rfl
def pEdge (m : TMap) (e : Int) : Bool := pIn e 0 (3 * (m.Width * m.Height) - 1) && decide (0 ≤ pNext m (e / 3) (e % 3))
def pIncr (l : List Int) : Bool := allFrom (l.length - 1) 1 fun k => decide (l.getD (k - 1) 0 < l.getD k 0)
def pEdges (m : TMap) (l : List Int) : Bool := l.all (pEdge m) && pIncr l
theorem isEdge_eq (m : TMap) (h : okSides m) (e : Int) : X.i_isEdge m e = some (pEdge m e) := by
 obtain ⟨h5, h6, h7⟩ := size_eq m h
 have hw := h
 obtain ⟨h1, h2, h3, h4⟩ := h
 unfold X.i_isEdge pEdge
 have e3 : W ((W ((W (3 * m.Width)) * m.Height)) - 1) = 3 * (m.Width * m.Height) - 1 := by
  rw [W_of (n := 3 * m.Width) (by omega), Int.mul_assoc, W_of (n := 3 * (m.Width * m.Height)) (by omega), W_of (by omega)]
 rw [e3]
 simp only [i_in, obs]
 cases hp : pIn e 0 (3 * (m.Width * m.Height) - 1)
 ·rfl
 ·rw [pIn_iff] at hp
  simp only [cond_true, Bool.true_and]
  have q1 : Int.tdiv e 3 = e / 3 := tdiv_nn hp.1
  have q2 : Int.tmod e 3 = e % 3 := tmod_nn hp.1 (by omega)
  rw [q1, q2, W_of (n := e / 3) (by omega), (next_eq m hw (e / 3) (e % 3) (by omega) (by omega)).2]
  simp
theorem s_edge (m : TMap) (h : okSides m) (e : Int) : ((X.s_mSize m).bind fun v73 => (X.s_l1In e 0 (W ((W (3 * v73)) - 1)))) = some (pIn e 0 (3 * (m.Width * m.Height) - 1)) ∧
  (pIn e 0 (3 * (m.Width * m.Height) - 1) = true → X.s_mNext m (W (Int.tdiv e 3)) (Int.tmod e 3) = some (pNext m (e / 3) (e % 3))) := by
 obtain ⟨h5, h6, h7⟩ := size_eq m h
 unfold X.s_mSize
 simp only [obs, s_in]
 rw [h5, W_of (n := 3 * (m.Width * m.Height)) (by omega), W_of (by omega)]
 refine ⟨rfl, fun hp => ?_⟩
 rw [pIn_iff] at hp
 have q1 : Int.tdiv e 3 = e / 3 := tdiv_nn hp.1
 have q2 : Int.tmod e 3 = e % 3 := tmod_nn hp.1 (by omega)
 rw [q1, q2, W_of (n := e / 3) (by omega)]
 exact (next_eq m h (e / 3) (e % 3) (by omega) (by omega)).1
theorem incr_eq (l : List Int) (h : l.length ≤ SM) : X.i_increasing l = some (pIncr l) := by
 have hm := mL
 have h' := h
 unfold SM at h'
 unfold X.i_increasing pIncr
 by_cases h0 : l.length = 0
 ·rw [loop_eq, h0]; rfl
 ·have := loop_allFrom (body := (fun (x16 : Int) => ((bif (decide (x16 < (l.length : Int))) then ((at' zI l (W (x16 - 1))).bind fun v19 => ((at' zI l x16).bind fun v21 => (bif (decide (v19 ≥ v21)) then some (Sum.inr (Sum.inr false)) else some (Sum.inl (W (x16 + 1)))))) else some (Sum.inr (Sum.inl ()))) : Option (Int ⊕ (Unit ⊕ Bool)))))
   (fun k => decide (l.getD (k - 1) 0 < l.getD k 0)) (.inr false) (.inl ()) (l.length - 1) 1 (fun j h1 h2 => by
    have hj : j < l.length := by omega
    have e1 : W ((j : Int) - 1) = ((j - 1 : Nat) : Int) := by rw [W_of (by omega)]; omega
    simp only [lt_cast hj, cond_true, e1, at_getD (show j - 1 < l.length by omega), at_getD hj, obs, W_up hj (show l.length ≤ maxLen by omega)]
    show _ = some (bif decide (l.getD (j - 1) zI < l.getD j zI) then _ else _)
    by_cases e : l.getD (j - 1) zI < l.getD j zI
    ·have e' : ¬ l.getD (j - 1) zI ≥ l.getD j zI := by omega
     simp only [e, e', decide_true, decide_false, cond_true, cond_false]
    ·have e' : l.getD (j - 1) zI ≥ l.getD j zI := by omega
     simp only [e, e', decide_true, decide_false, cond_true, cond_false]) (by
    have : 1 + (l.length - 1) = l.length := by omega
    rw [this]; simp only [nlt_self, cond_false])
  rw [show ((1 : Nat) : Int) = 1 from rfl] at this
  rw [this]
  cases allFrom (l.length - 1) 1 fun k => decide (l.getD (k - 1) 0 < l.getD k 0) <;> rfl
theorem rising_eq (l : List Int) (lo hi : Int) (h : l.length ≤ SM) : X.s_l1Rising l lo hi = some (allFrom l.length 0 fun k => pIn (l.getD k 0) lo hi && (decide (k = 0) || decide (l.getD (k - 1) 0 < l.getD k 0))) := by
 have hm := mL
 have h' := h
 unfold SM at h'
 unfold X.s_l1Rising
 rw [run_allN l.length (fun k => pIn (l.getD k 0) lo hi && (decide (k = 0) || decide (l.getD (k - 1) 0 < l.getD k 0))) (.inr false) (.inl ()) ?_ ?_]
 ·cases allFrom l.length 0 _ <;> rfl
 ·intro k hk
  simp only [lt_cast hk, cond_true, at_getD hk, obs, s_in, W_up hk (show l.length ≤ maxLen by omega)]
  show _ = some (bif pIn (l.getD k zI) lo hi && (decide (k = 0) || decide (l.getD (k - 1) zI < l.getD k zI)) then _ else _)
  cases pIn (l.getD k zI) lo hi
  ·rfl
  simp only [Bool.not_true, cond_false, Bool.true_and]
  by_cases h0 : k = 0
  ·subst h0; simp
  ·have e0 : (k : Int) > 0 := by omega
   have e1 : W ((k : Int) - 1) = ((k - 1 : Nat) : Int) := by rw [W_of (by omega)]; omega
   simp only [e0, decide_true, cond_true, e1, at_getD (show k - 1 < l.length by omega), obs, h0, decide_false, Bool.false_or]
   by_cases e : l.getD (k - 1) zI < l.getD k zI
   ·have e' : ¬ l.getD (k - 1) zI ≥ l.getD k zI := by omega
    simp only [e, e', decide_true, decide_false, cond_true, cond_false]
   ·have e' : l.getD (k - 1) zI ≥ l.getD k zI := by omega
    simp only [e, e', decide_true, decide_false, cond_true, cond_false]
 ·simp only [nlt_self, cond_false]
theorem rising_incr (l : List Int) (lo hi : Int) (h : ∀ k, k < l.length → pIn (l.getD k 0) lo hi = true) : (allFrom l.length 0 fun k => pIn (l.getD k 0) lo hi && (decide (k = 0) || decide (l.getD (k - 1) 0 < l.getD k 0))) = pIncr l := by
 rw [Bool.eq_iff_iff]
 unfold pIncr
 rw [allFrom_iff, allFrom_iff]
 constructor
 ·intro g j h1 h2
  have := g j (by omega) (by omega)
  simp only [Bool.and_eq_true, Bool.or_eq_true, decide_eq_true_eq] at this ⊢
  rcases this.2 with e | e
  ·omega
  ·exact e
 ·intro g j _ h2
  simp only [Bool.and_eq_true, Bool.or_eq_true, decide_eq_true_eq]
  refine ⟨h j (by omega), ?_⟩
  by_cases e : j = 0
  ·exact .inl e
  ·have := g j (by omega) (by omega)
   exact .inr (by simpa using this)
theorem edges_eq (m : TMap) (h : okSides m) (l : List Int) (hl : l.length ≤ SM) : X.s_mEdges m l = some (pEdges m l) := by
 have hm := mL
 have hl' := hl
 unfold SM at hl'
 obtain ⟨h5, h6, h7⟩ := size_eq m h
 have e3 : W ((W (3 * (W (m.Width * m.Height)))) - 1) = 3 * (m.Width * m.Height) - 1 := by rw [h5, W_of (n := 3 * (m.Width * m.Height)) (by omega), W_of (by omega)]
 unfold X.s_mEdges pEdges
 rw [run_all l (pEdge m) (.inr false) (.inl ()) rfl ?_ ?_]
 ·cases ha : l.all (pEdge m)
  ·rfl
  ·simp only [cond_true, Sum.elim_inl, X.s_mSize, obs, Bool.true_and, e3, rising_eq l _ _ hl]
   rw [rising_incr]
   intro k hk
   have := List.all_eq_true.1 ha _ (getD_mem (z := 0) hk)
   unfold pEdge at this
   rw [Bool.and_eq_true] at this
   exact this.1
 ·intro k hk
  simp only [lt_cast hk, cond_true, at_nat hk, obs, X.s_mSize, e3, s_in, W_up hk (show l.length ≤ maxLen by omega)]
  unfold pEdge
  cases hp : pIn l[k] 0 (3 * (m.Width * m.Height) - 1)
  ·rfl
  ·simp only [Bool.not_true, cond_false, (s_edge m h l[k]).2 hp, obs, Bool.true_and]
   by_cases e : pNext m (l[k] / 3) (l[k] % 3) < 0
   ·have e' : ¬ 0 ≤ pNext m (l[k] / 3) (l[k] % 3) := by omega
    simp only [e, e', decide_true, decide_false, cond_true, cond_false]
   ·have e' : 0 ≤ pNext m (l[k] / 3) (l[k] % 3) := by omega
    simp only [e, e', decide_true, decide_false, cond_true, cond_false]
 ·simp only [nlt_self, cond_false]
def pMap (m : TMap) : Bool :=
 pIn m.Width 1 10 && (pIn m.Height 1 10 && (((m.Terrain.length : Int) == m.Width * m.Height) && ((m.Terrain.all fun x => pIn x 0 5) && (pEdges m m.Rivers && pEdges m m.Roads))))
theorem map_eq (m : TMap) (q : smTMap m) : X.s_mGood m = some (pMap m) ∧ X.i_IsMap m = some (pMap m) := by
 have hm := mL
 have hT : m.Terrain.length ≤ maxLen := by have := q.2.2.1.1; unfold SM at this; omega
 have ed : ∀ l : List Int, l.length ≤ SM → okSides m → ∀ {γ : Type} (f : Unit ⊕ Bool → Option γ), ((loop (fun (x167 : Int) => ((bif (decide (x167 < (l.length : Int))) then ((at' zI l x167).bind fun v170 => ((X.i_isEdge m v170).bind fun v172 => (bif (!v172) then some (Sum.inr (Sum.inr false)) else some (Sum.inl (W (x167 + 1)))))) else some (Sum.inr (Sum.inl ()))) : Option (Int ⊕ (Unit ⊕ Bool)))) 0).bind f) = f (bif l.all (pEdge m) then .inl () else .inr false) := by
  intro l hl hs γ f
  have hl' := hl
  unfold SM at hl'
  rw [run_all l (pEdge m) (.inr false) (.inl ()) rfl ?_ ?_]
  ·intro k hk
   simp only [lt_cast hk, cond_true, at_nat hk, obs, isEdge_eq m hs, W_up hk (show l.length ≤ maxLen by omega)]
   cases pEdge m l[k] <;> rfl
  ·simp only [nlt_self, cond_false]
 unfold X.s_mGood X.i_IsMap pMap
 simp only [s_in, i_in, obs]
 cases h1 : pIn m.Width 1 10
 ·exact ⟨rfl, rfl⟩
 cases h2 : pIn m.Height 1 10
 ·exact ⟨rfl, rfl⟩
 rw [pIn_iff] at h1 h2
 have hs : okSides m := ⟨h1.1, h1.2, h2.1, h2.2⟩
 obtain ⟨h5, h6, h7⟩ := size_eq m hs
 simp only [Bool.not_true, cond_false, cond_true, Bool.true_and, X.s_mSize, obs, h5]
 cases h3 : (m.Terrain.length : Int) == m.Width * m.Height
 ·refine ⟨rfl, ?_⟩
  simp only [bne, h3]; rfl
 simp only [bne, h3, Bool.not_true, cond_false, cond_true, Bool.true_and]
 rw [s_all _ _ _ q.2.2.1.1]
 rw [run_all m.Terrain (fun x => pIn x 0 5) (.inr false) (.inl ()) rfl ?_ ?_]
 ·cases ht : (m.Terrain.all fun x => pIn x 0 5)
  ·exact ⟨rfl, rfl⟩
  simp only [cond_true, Sum.elim_inl, obs, Bool.true_and, edges_eq m hs _ q.2.2.2.1.1, edges_eq m hs _ q.2.2.2.2.1.1]
  refine ⟨by cases pEdges m m.Rivers <;> rfl, ?_⟩
  rw [run_allN 2 (fun k => pIncr (([m.Rivers, m.Roads] : List (List Int)).getD k zLI) && (([m.Rivers, m.Roads] : List (List Int)).getD k zLI).all (pEdge m)) (.inr false) (.inl ()) ?_ ?_]
  ·simp only [allFrom, pEdges, Bool.and_true]
   show _ = some ((m.Rivers.all (pEdge m) && pIncr m.Rivers) && (m.Roads.all (pEdge m) && pIncr m.Roads))
   change Sum.elim _ _ (bif ((pIncr m.Rivers && m.Rivers.all (pEdge m)) && (pIncr m.Roads && m.Roads.all (pEdge m))) then _ else _) = _
   cases pIncr m.Rivers <;> cases m.Rivers.all (pEdge m) <;> cases pIncr m.Roads <;> cases m.Roads.all (pEdge m) <;> rfl
  ·intro k hk
   have g1 : (([m.Rivers, m.Roads] : List (List Int)).getD k zLI).length ≤ SM := by
    rcases (show k = 0 ∨ k = 1 by omega) with rfl | rfl
    ·exact q.2.2.2.1.1
    ·exact q.2.2.2.2.1.1
   have g2 : 0 ≤ (k : Int) ∧ (k : Int) < (([m.Rivers, m.Roads] : List (List Int)).length : Int) := ⟨by omega, by simp; omega⟩
   rw [show decide ((k : Int) < (([m.Rivers, m.Roads] : List (List Int)).length : Int)) = true from decide_eq_true g2.2]
   simp only [cond_true]
   rw [if_pos g2]
   simp only [Int.toNat_natCast]
   rw [incr_eq _ g1]
   simp only [obs]
   cases pIncr (([m.Rivers, m.Roads] : List (List Int)).getD k zLI)
   ·rfl
   simp only [Bool.not_true, cond_false, Bool.true_and]
   rw [ed _ g1 hs]
   have : W ((k : Int) + 1) = ((k + 1 : Nat) : Int) := by rw [W_of (by omega)]; omega
   rw [this]
   cases (([m.Rivers, m.Roads] : List (List Int)).getD k zLI).all (pEdge m) <;> rfl
  ·rfl
 ·intro k hk
  have e6 : W ((6 : Int) - 1) = 5 := rfl
  simp only [lt_cast hk, cond_true, at_nat hk, obs, X.i_isIndex, i_in, e6, W_up hk hT]
  cases pIn m.Terrain[k] 0 5 <;> rfl
 ·simp only [nlt_self, cond_false]
noncomputable def pBoard (b : TBoard) : Bool := pRules b.Rules && (pMap b.Map && b.Map.Terrain.all fun x => pIn x 0 ((b.Rules.Terrains.length : Int) - 1))
theorem board_eq (b : TBoard) (q : smTBoard b) : X.s_bGood b = some (pBoard b) ∧ X.i_IsBoard b = some (pBoard b) := by
 have hm := mL
 have hl := q.2.1.2.2.1.1
 have hl' := hl
 unfold SM at hl'
 have hn := q.1.1.1
 unfold SM at hn
 unfold X.s_bGood X.i_IsBoard pBoard
 rw [(rules_eq _ q.1).1, (rules_eq _ q.1).2, (map_eq _ q.2.1).1, (map_eq _ q.2.1).2]
 simp only [obs]
 cases pRules b.Rules
 ·exact ⟨rfl, rfl⟩
 cases hmap : pMap b.Map
 ·exact ⟨rfl, rfl⟩
 simp only [Bool.not_true, cond_false, cond_true, Bool.true_and]
 rw [W_of (n := (b.Rules.Terrains.length : Int) - 1) (by omega), s_all _ _ _ hl]
 refine ⟨rfl, ?_⟩
 have hc : X.g_ContainsFunc_int b.Map.Terrain (fun q0 => X.i_IsBoard_1 q0 b) = some (b.Map.Terrain.any fun x => decide (x ≥ (b.Rules.Terrains.length : Int))) :=
  (hasF_eq (z := zI) (f := fun q0 => X.i_IsBoard_1 q0 b) (p := fun x => decide (x ≥ (b.Rules.Terrains.length : Int))) (by omega) (fun x _ => rfl) : _)
 rw [hc]
 simp only [obs, Option.some.injEq]
 unfold pMap at hmap
 simp only [Bool.and_eq_true] at hmap
 have h0 := hmap.2.2.2.1
 rw [Bool.eq_iff_iff]
 simp only [Bool.not_eq_true', List.any_eq_false, List.all_eq_true, decide_eq_true_eq]
 constructor
 ·intro h x hx
  have h1 := h x hx
  have h2 := List.all_eq_true.1 h0 x hx
  rw [pIn_iff] at h2 ⊢
  omega
 ·intro h x hx
  have h1 := h x hx
  rw [pIn_iff] at h1
  omega
theorem sides_of {b : TBoard} (h : pBoard b = true) : okSides b.Map ∧ ((b.Map.Terrain.length : Int) = b.Map.Width * b.Map.Height) := by
 unfold pBoard at h
 simp only [Bool.and_eq_true] at h
 have h1 := h.2.1
 unfold pMap at h1
 simp only [Bool.and_eq_true, pIn_iff, beq_iff_eq] at h1
 exact ⟨⟨h1.1.1, h1.1.2, h1.2.1.1, h1.2.1.2⟩, h1.2.2.1⟩
theorem size_of {b : TBoard} (h : pBoard b = true) : X.s_mSize b.Map = some (b.Map.Terrain.length : Int) ∧ 1 ≤ (b.Map.Terrain.length : Int) ∧ (b.Map.Terrain.length : Int) ≤ 100 := by
 obtain ⟨hs, hl⟩ := sides_of h
 obtain ⟨h1, h2, h3⟩ := size_eq _ hs
 unfold X.s_mSize
 rw [h1, hl]
 exact ⟨rfl, h2, h3⟩
theorem i_idx (i n : Int) (hn : 0 ≤ n ∧ n ≤ (SM : Int)) : X.i_isIndex i n = some (pIn i 0 (n - 1)) := by
 unfold X.i_isIndex
 unfold SM at hn
 rw [W_of (by omega), i_in]; rfl
theorem rising_split (l : List Int) (lo hi : Int) : (allFrom l.length 0 fun k => pIn (l.getD k 0) lo hi && (decide (k = 0) || decide (l.getD (k - 1) 0 < l.getD k 0))) = (pIncr l && l.all fun x => pIn x lo hi) := by
 cases h : l.all fun x => pIn x lo hi
 ·rw [Bool.and_false]
  cases g : allFrom l.length 0 fun k => pIn (l.getD k 0) lo hi && (decide (k = 0) || decide (l.getD (k - 1) 0 < l.getD k 0))
  ·rfl
  ·rw [allFrom_iff] at g
   have : (l.all fun x => pIn x lo hi) = true := List.all_eq_true.2 fun x hx => by
    obtain ⟨j, hj, rfl⟩ := List.getElem_of_mem hx
    have := g j (by omega) (by omega)
    rw [Bool.and_eq_true] at this
    simpa [List.getD, hj] using this.1
   rw [h] at this; cases this
 ·rw [Bool.and_true, rising_incr]
  intro k hk
  exact List.all_eq_true.1 h _ (getD_mem hk)
def terr (b : TBoard) (i : Nat) : TTerrain := b.Rules.Terrains.getD (b.Map.Terrain.getD i zI).toNat zTTerrain
def pCost (b : TBoard) (kind i : Nat) : Int := (terr b i).Cost.getD kind zI
theorem kinds_of {b : TBoard} (h : pBoard b = true) : 1 ≤ b.Rules.Kinds.length ∧ b.Rules.Kinds.length ≤ 4 ∧ 1 ≤ b.Rules.Terrains.length ∧ b.Rules.Terrains.length ≤ 6 ∧ (1 ≤ b.Rules.Stack ∧ b.Rules.Stack ≤ 4) ∧ (1 ≤ b.Rules.Turns ∧ b.Rules.Turns ≤ 30) := by
 unfold pBoard pRules at h
 simp only [Bool.and_eq_true, pIn_iff] at h
 omega
theorem kind_of {b : TBoard} (h : pBoard b = true) {k : Nat} (hk : k < b.Rules.Kinds.length) : 1 ≤ (b.Rules.Kinds.getD k zTKind).Strength ∧ (b.Rules.Kinds.getD k zTKind).Strength ≤ 9 ∧ 0 ≤ (b.Rules.Kinds.getD k zTKind).Moves ∧ (b.Rules.Kinds.getD k zTKind).Moves ≤ 9 ∧
  1 ≤ (b.Rules.Kinds.getD k zTKind).Steps ∧ (b.Rules.Kinds.getD k zTKind).Steps ≤ 4 ∧ 0 ≤ (b.Rules.Kinds.getD k zTKind).View ∧ (b.Rules.Kinds.getD k zTKind).View ≤ 4 := by
 unfold pBoard pRules at h
 simp only [Bool.and_eq_true, allFrom_iff] at h
 have := h.1.2.2.2.1 k (by omega) (by omega)
 unfold qK at this
 simp only [Bool.and_eq_true, pIn_iff] at this
 omega
theorem terr_of {b : TBoard} (h : pBoard b = true) {i : Nat} (hi : i < b.Map.Terrain.length) : 0 ≤ b.Map.Terrain.getD i zI ∧ b.Map.Terrain.getD i zI < (b.Rules.Terrains.length : Int) := by
 unfold pBoard at h
 simp only [Bool.and_eq_true, List.all_eq_true, pIn_iff] at h
 have := h.2.2 _ (getD_mem (z := zI) hi)
 omega
theorem costs_of {b : TBoard} (h : pBoard b = true) {t : Nat} (ht : t < b.Rules.Terrains.length) : (b.Rules.Terrains.getD t zTTerrain).Cost.length = b.Rules.Kinds.length ∧ (∀ x ∈ (b.Rules.Terrains.getD t zTTerrain).Cost, 0 ≤ x ∧ x ≤ 9) ∧
  0 ≤ (b.Rules.Terrains.getD t zTTerrain).Height ∧ (b.Rules.Terrains.getD t zTTerrain).Height ≤ 3 ∧ -3 ≤ (b.Rules.Terrains.getD t zTTerrain).Shift ∧ (b.Rules.Terrains.getD t zTTerrain).Shift ≤ 3 := by
 unfold pBoard pRules at h
 simp only [Bool.and_eq_true, allFrom_iff] at h
 have := h.1.2.2.1 t (by omega) (by omega)
 unfold qT at this
 simp only [Bool.and_eq_true, pIn_iff, List.all_eq_true, beq_iff_eq] at this
 refine ⟨by omega, fun x hx => this.2.2.2.1 x hx, by omega, by omega, by omega, by omega⟩
theorem terr_eq {b : TBoard} (h : pBoard b = true) {i : Nat} (hi : i < b.Map.Terrain.length) : X.s_bTerrain b (i : Int) = some (terr b i) ∧ X.i_terrainAt b (i : Int) = some (terr b i) := by
 obtain ⟨h1, h2⟩ := terr_of h hi
 obtain ⟨t, ht⟩ := Int.eq_ofNat_of_zero_le h1
 have ht2 : t < b.Rules.Terrains.length := by omega
 unfold X.s_bTerrain X.i_terrainAt terr
 simp only [at_getD hi, obs, ht, at_getD ht2, Int.toNat_natCast, and_self]
theorem cost_eq {b : TBoard} (h : pBoard b = true) {k i : Nat} (hk : k < b.Rules.Kinds.length) (hi : i < b.Map.Terrain.length) :
  X.s_bCost b (k : Int) (i : Int) = some (pCost b k i) ∧ X.i_enterCost b (k : Int) (i : Int) = some (pCost b k i) ∧ 0 ≤ pCost b k i ∧ pCost b k i ≤ 9 := by
 obtain ⟨h1, h2⟩ := terr_of h hi
 obtain ⟨t, ht⟩ := Int.eq_ofNat_of_zero_le h1
 have ht2 : t < b.Rules.Terrains.length := by omega
 obtain ⟨c1, c2, _⟩ := costs_of h ht2
 have hk2 : k < (terr b i).Cost.length := by
  unfold terr
  rw [ht, Int.toNat_natCast, c1]; exact hk
 have hc : 0 ≤ pCost b k i ∧ pCost b k i ≤ 9 := by
  unfold pCost
  refine c2 _ ?_
  have := getD_mem (z := zI) hk2
  unfold terr at this ⊢
  rw [ht, Int.toNat_natCast] at this ⊢
  exact this
 unfold X.s_bCost X.i_enterCost
 rw [(terr_eq h hi).1, (terr_eq h hi).2]
 simp only [obs, at_getD hk2]
 exact ⟨rfl, rfl, hc⟩
def pUnit (b : TBoard) (u : TUnit) : Bool :=
 pIn u.Side 0 1 && (pIn u.Kind 0 ((b.Rules.Kinds.length : Int) - 1) && (pIn u.Steps 0 (b.Rules.Kinds.getD u.Kind.toNat zTKind).Steps &&
  ((u.At == -1) || (decide (u.Steps > 0) && (pIn u.At 0 ((b.Map.Terrain.length : Int) - 1) && decide (pCost b u.Kind.toNat u.At.toNat > 0))))))
theorem pUnit_iff {b : TBoard} {u : TUnit} (h : pUnit b u = true) : (u.Side = 0 ∨ u.Side = 1) ∧ 0 ≤ u.Kind ∧ u.Kind < (b.Rules.Kinds.length : Int) ∧ 0 ≤ u.Steps ∧ u.Steps ≤ (b.Rules.Kinds.getD u.Kind.toNat zTKind).Steps ∧
  (u.At = -1 ∨ (0 < u.Steps ∧ 0 ≤ u.At ∧ u.At < (b.Map.Terrain.length : Int) ∧ 0 < pCost b u.Kind.toNat u.At.toNat)) := by
 unfold pUnit at h
 simp only [Bool.and_eq_true, Bool.or_eq_true, pIn_iff, beq_iff_eq, decide_eq_true_eq] at h
 omega
theorem unit_eq {b : TBoard} (h : pBoard b = true) (u : TUnit) : X.s_sUnit b u = some (pUnit b u) ∧ X.i_goodUnit b u = some (pUnit b u) := by
 obtain ⟨g1, g2, _, _⟩ := kinds_of h
 obtain ⟨s1, s2, s3⟩ := size_of h
 unfold X.s_sUnit X.i_goodUnit pUnit X.i_isSide
 simp only [s_in, i_in, obs, i_idx _ _ (show 0 ≤ (b.Rules.Kinds.length : Int) ∧ (b.Rules.Kinds.length : Int) ≤ (SM : Int) by unfold SM; omega), W_of (n := (b.Rules.Kinds.length : Int) - 1) (by omega)]
 cases pIn u.Side 0 1
 ·exact ⟨rfl, rfl⟩
 cases hk : pIn u.Kind 0 ((b.Rules.Kinds.length : Int) - 1)
 ·exact ⟨rfl, rfl⟩
 rw [pIn_iff] at hk
 obtain ⟨k, ek⟩ := Int.eq_ofNat_of_zero_le hk.1
 have hk2 : k < b.Rules.Kinds.length := by omega
 simp only [Bool.not_true, cond_false, Bool.true_and, ek, at_getD hk2, obs, Int.toNat_natCast]
 cases pIn u.Steps 0 (b.Rules.Kinds.getD k zTKind).Steps
 ·exact ⟨rfl, rfl⟩
 cases ha : u.At == -1
 case true => exact ⟨rfl, rfl⟩
 simp only [Bool.not_true, cond_false, Bool.true_and, Bool.false_or]
 cases hst : decide (u.Steps > 0)
 ·exact ⟨rfl, rfl⟩
 simp only [cond_true, s1, X.i_sizeOf, obs, i_idx _ _ (show 0 ≤ (b.Map.Terrain.length : Int) ∧ (b.Map.Terrain.length : Int) ≤ (SM : Int) by unfold SM; omega), W_of (n := (b.Map.Terrain.length : Int) - 1) (by omega), Bool.true_and]
 cases hp : pIn u.At 0 ((b.Map.Terrain.length : Int) - 1)
 ·exact ⟨rfl, rfl⟩
 rw [pIn_iff] at hp
 obtain ⟨i, ei⟩ := Int.eq_ofNat_of_zero_le hp.1
 have hi : i < b.Map.Terrain.length := by omega
 obtain ⟨c1, c2, c3, _⟩ := cost_eq h hk2 hi
 simp only [cond_true, ei, c1, c2, obs, Bool.true_and, Int.toNat_natCast]
 refine ⟨trivial, ?_⟩
 congr 1
 rw [Bool.eq_iff_iff]
 simp only [bne_iff_ne, ne_eq, decide_eq_true_eq]
 omega
theorem has_eq (l : List Int) (x : Int) (h : l.length ≤ maxLen) : X.s_l1Has l x = some (l.any fun v => v == x) := by
 unfold X.s_l1Has
 rw [run_all l (fun v => !(v == x)) (.inr true) (.inl ()) rfl ?_ ?_]
 ·rw [List.any_eq_not_all_not]
  cases l.all fun v => !(v == x) <;> rfl
 ·intro k hk
  simp only [lt_cast hk, cond_true, at_nat hk, obs, W_up hk h]
  cases l[k] == x <;> rfl
 ·simp only [nlt_self, cond_false]
theorem Wp {z : Int} (h : 0 ≤ z) (k : z ≤ 4611686018427387904) : W (z + 1) = z + 1 := W_of (by omega)
theorem mark_loop {β : Type} {f : Int → Option β} (n b : Nat) {body : Int × Int → Option ((Int × Int) ⊕ Int)} (hn : n ≤ SM) (hb : b ≤ 2097152)
  (hstep : ∀ (i : Nat) (q : Int), i < n → 0 ≤ q → q ≤ 2305843009213693000 → ∃ q' : Int, body (q, (i : Int)) = some (.inl (q', ((i + 1 : Nat) : Int))) ∧ q ≤ q' ∧ q' ≤ q + b)
  (hend : ∀ q, body (q, (n : Int)) = some (.inr q)) (k : Int) (h0 : 0 ≤ k) (hk : k ≤ 1152921504606846976) : ∃ k' : Int, (loop body (k, 0)).bind f = f k' ∧ k ≤ k' ∧ k' ≤ k + 2199023255552 := by
 unfold SM at hn
 have hbb : n * b ≤ 1048576 * 2097152 := Nat.mul_le_mul hn hb
 have key := loop_ind (body := body) (fun x : Int × Int => ∃ i : Nat, x.2 = (i : Int) ∧ i ≤ n ∧ k ≤ x.1 ∧ x.1 ≤ k + ((i * b : Nat) : Int)) (fun x => n - x.2.toNat) (fun r => k ≤ r ∧ r ≤ k + ((n * b : Nat) : Int)) (s := (k, 0)) ?_ ⟨0, rfl, by omega, Int.le_refl _, by simp⟩
 ·obtain ⟨r, h1, h2, h3⟩ := key
  exact ⟨r, by rw [h1]; rfl, h2, by omega⟩
 ·rintro ⟨q, x⟩ ⟨i, rfl, hi, h1, h2⟩
  have hib : i * b ≤ n * b := Nat.mul_le_mul_right b hi
  simp only at h1 h2
  by_cases h : i < n
  ·obtain ⟨q', e, g1, g2⟩ := hstep i q h (by omega) (by omega)
   have e2 : (i + 1) * b = i * b + b := Nat.succ_mul i b
   exact .inl ⟨_, e, ⟨i + 1, rfl, by omega, by simp only; omega, by simp only; omega⟩, by simp only; omega⟩
  ·have : i = n := by omega
   subst this
   exact .inr ⟨_, hend q, h1, h2⟩
def Mk (f : Int → Option Int) : Prop := ∀ k : Int, 0 ≤ k → k ≤ 1152921504606846976 → ∃ k' : Int, f k = some k' ∧ k ≤ k' ∧ k' ≤ k + 2199023255552
theorem mkInt_L {xs : List Int} (h : xs.length ≤ SM) (k : Int) (h0 : 0 ≤ k) (hk : k ≤ 2305843009213693952) : X.l_markIntS_L xs k = some (k + xs.length) := by
 unfold SM at h
 unfold X.l_markIntS_L
 have key := loop_ind (body := (fun (x10 : (Int × Int)) => ((bif (decide (x10.2 < (xs.length : Int))) then ((at' zI xs x10.2).bind fun v13 => some (Sum.inl ((W (x10.1 + 1)), (W (x10.2 + 1))))) else some (Sum.inr x10.1)) : Option ((Int × Int) ⊕ Int))))
  (fun x : Int × Int => ∃ i : Nat, x.2 = (i : Int) ∧ i ≤ xs.length ∧ x.1 = k + i) (fun x => xs.length - x.2.toNat) (fun r => r = k + xs.length) (s := (k, 0)) ?_ ⟨0, rfl, by omega, by simp⟩
 ·obtain ⟨r, h1, h2⟩ := key
  rw [h1, h2]; rfl
 ·rintro ⟨q, x⟩ ⟨i, rfl, hi, e⟩
  simp only at e
  subst e
  by_cases h : i < xs.length
  ·refine .inl ⟨(k + ((i + 1 : Nat) : Int), ((i + 1 : Nat) : Int)), ?_, ⟨i + 1, rfl, by omega, rfl⟩, by simp only; omega⟩
   simp only [lt_cast h, cond_true, at_getD h, obs]
   rw [Wp (by omega) (by omega), Wp (by omega) (by omega)]
   congr 3 <;> omega
  ·have : i = xs.length := by omega
   subst this
   exact .inr ⟨_, by simp only [nlt_self, cond_false], rfl⟩
theorem u8_digit {x : Int} (h : 0 ≤ x ∧ x < 10) : ([IntKind.u8.wrap (W (48 + x))] : List Int).all inU8 = true := by
 rw [W_of (by omega)]
 have : IntKind.u8.wrap (48 + x) = 48 + x := by simp only [IntKind.wrap]; simp [IntKind.signed, IntKind.bits]; omega
 rw [this]
 simp only [List.all_cons, List.all_nil, Bool.and_true, inU8]
 exact decide_eq_true (by omega)
theorem markText_ok (k : Int) (h0 : 0 ≤ k) (hk : k ≤ 4611686018427387904) : ∃ s, X.l_markText k = some s := by
 have hm : maxLen = 9223372036854775807 := by decide
 unfold X.l_markText
 by_cases hz : k ≤ 0
 ·simp [hz]
 ·simp only [decide_eq_false hz, cond_false]
  have key := loop_ind (body := (fun (x12 : (Int × (List UInt8))) => ((bif (decide (x12.1 > 0)) then (if ([(IntKind.u8.wrap (W (48 + (Int.tmod x12.1 10))))] : List Int).all inU8 = true then (if (bytesOf ([(IntKind.u8.wrap (W (48 + (Int.tmod x12.1 10))))] : List Int)).length + x12.2.length ≤ maxLen then some (Sum.inl ((W (Int.tdiv x12.1 10)), ((bytesOf ([(IntKind.u8.wrap (W (48 + (Int.tmod x12.1 10))))] : List Int)) ++ x12.2))) else none) else none) else some (Sum.inr x12.2)) : Option ((Int × (List UInt8)) ⊕ (List UInt8)))))
   (fun x => 0 ≤ x.1 ∧ x.1 + (x.2.length : Int) ≤ k) (fun x => x.1.toNat) (fun r => (r.length : Int) ≤ k) (s := (k, [])) ?_ ⟨h0, by simp⟩
  ·obtain ⟨r, h1, h2⟩ := key
   rw [h1]
   refine ⟨_, if_pos ?_⟩
   simp only [List.length_cons, List.length_nil]; omega
  ·rintro ⟨q, l⟩ ⟨a1, a2⟩
   simp only at a1 a2
   by_cases hq : q > 0
   ·have hr := Int.tmod_eq_emod_of_nonneg (b := 10) a1
    have hd : Int.tdiv q 10 = q / 10 := Int.tdiv_eq_ediv_of_nonneg a1
    refine .inl ⟨(W (Int.tdiv q 10), bytesOf ([(IntKind.u8.wrap (W (48 + (Int.tmod q 10))))] : List Int) ++ l), ?_, ⟨?_, ?_⟩, ?_⟩
    ·simp only [decide_eq_true hq, cond_true]
     rw [if_pos (u8_digit (by omega)), if_pos (by rw [bytesOf_len]; simp only [List.length_cons, List.length_nil]; omega)]
    ·simp only; rw [W_of (by omega)]; omega
    ·simp only [List.length_append, bytesOf_len, List.length_cons, List.length_nil]; rw [W_of (by omega)]; omega
    ·simp only; rw [W_of (by omega)]; omega
   ·exact .inr ⟨l, by simp only [decide_eq_false hq, cond_false], (by omega : (l.length : Int) ≤ k)⟩
theorem mkTerrainS_L {xs : List TTerrain} (h : smLTTerrain xs) : Mk (X.l_markTerrainS_L xs) := fun k h0 hk => by
 have hs := h.1
 unfold SM at hs
 unfold X.l_markTerrainS_L
 refine mark_loop (f := fun y => some y) xs.length 1048580 h.1 (by omega) (fun i q hi hq0 hq => ?_) (fun q => by simp only [nlt_self, cond_false]) k h0 hk
 obtain ⟨s, hs'⟩ := markText_ok q hq0 (by omega)
 have hc : (xs.getD i zTTerrain).Cost.length ≤ SM := by
  have e : xs.getD i zTTerrain = xs[i] := by simp [List.getD, hi]
  rw [e]; exact (h.2 xs[i] (List.getElem_mem hi)).2.1.1
 have hc' := hc
 unfold SM at hc'
 simp only [lt_cast hi, cond_true, at_getD hi, hs', obs]
 rw [Wp hq0 (by omega), mkInt_L hc (q + 1) (by omega) (by omega)]
 simp only [obs]
 simp (disch := omega) only [Wp]
 exact ⟨_, rfl, by omega, by omega⟩
theorem mkKindS_L {xs : List TKind} (h : smLTKind xs) : Mk (X.l_markKindS_L xs) := fun k h0 hk => by
 have hs := h.1
 unfold SM at hs
 unfold X.l_markKindS_L
 refine mark_loop (f := fun y => some y) xs.length 6 h.1 (by omega) (fun i q hi hq0 hq => ?_) (fun q => by simp only [nlt_self, cond_false]) k h0 hk
 obtain ⟨s, hs'⟩ := markText_ok q hq0 (by omega)
 simp only [lt_cast hi, cond_true, at_getD hi, hs', obs]
 simp (disch := omega) only [Wp]
 exact ⟨_, rfl, by omega, by omega⟩
theorem mkRules_L {x : TRules} (h : smTRules x) (k : Int) (h0 : 0 ≤ k) (hk : k ≤ 1099511627776000) : ∃ k' : Int, X.l_markRules_L x k = some k' ∧ k ≤ k' ∧ k' ≤ k + 4398046511104 := by
 obtain ⟨a, e1, b1, c1⟩ := mkTerrainS_L (xs := x.Terrains) (by have := h; simp only [smTRules] at this; exact ⟨this.1.1, this.1.2⟩) k h0 (by omega)
 obtain ⟨d, e2, b2, c2⟩ := mkKindS_L (xs := x.Kinds) (by have := h; simp only [smTRules] at this; exact ⟨this.2.1.1, this.2.1.2⟩) a (by omega) (by omega)
 unfold X.l_markRules_L
 rw [e1, obs, e2]
 exact ⟨_, rfl, by omega, by omega⟩
theorem mkMap_L {x : TMap} (h : smTMap x) (k : Int) (h0 : 0 ≤ k) (hk : k ≤ 1099511627776000) : ∃ k' : Int, X.l_markMap_L x k = some k' ∧ k ≤ k' ∧ k' ≤ k + 4398046511104 := by
 have h' := h
 simp only [smTMap] at h'
 have q1 := h'.2.2.1.1
 have q2 := h'.2.2.2.1.1
 have q3 := h'.2.2.2.2.1.1
 unfold X.l_markMap_L
 unfold SM at q1 q2 q3
 rw [mkInt_L h'.2.2.1.1 k h0 (by omega), obs, mkInt_L h'.2.2.2.1.1 _ (by omega) (by omega), obs, mkInt_L h'.2.2.2.2.1.1 _ (by omega) (by omega), obs]
 exact ⟨_, rfl, by omega, by omega⟩
theorem mkBoard_L {x : TBoard} (h : smTBoard x) (k : Int) (h0 : 0 ≤ k) (hk : k ≤ 549755813888000) : ∃ k' : Int, X.l_markBoard_L x k = some k' ∧ k ≤ k' ∧ k' ≤ k + 8796093022208 := by
 obtain ⟨a, e1, b1, c1⟩ := mkRules_L (x := x.Rules) h.1 k h0 (by omega)
 obtain ⟨d, e2, b2, c2⟩ := mkMap_L (x := x.Map) h.2.1 a (by omega) (by omega)
 unfold X.l_markBoard_L
 rw [e1, obs, e2]
 exact ⟨_, rfl, by omega, by omega⟩
def mks (k : Int) (n : Nat) : List Int := (List.range n).map fun i : Nat => k + (i : Int)
theorem mks_len (k : Int) (n : Nat) : (mks k n).length = n := by simp [mks]
theorem mks_get (k : Int) {n i : Nat} (h : i < n) : (mks k n).getD i zI = k + i := by simp [mks, List.getD, h]
theorem mkInt_M {xs : List Int} (h : xs.length ≤ SM) (k : Int) (h0 : 0 ≤ k) (hk : k ≤ 2305843009213693952) : X.l_markIntS_Mod xs k = some (k + xs.length, mks k xs.length) := by
 unfold SM at h
 unfold X.l_markIntS_Mod
 have key := loop_ind (body := (fun (x8 : (Int × Int × (List Int))) => ((bif (decide (x8.2.1 < (x8.2.2.length : Int))) then (if 0 ≤ x8.2.1 ∧ x8.2.1 < (x8.2.2.length : Int) then some (Sum.inl ((W (x8.1 + 1)), (W (x8.2.1 + 1)), (x8.2.2.set x8.2.1.toNat x8.1))) else none) else some (Sum.inr (x8.1, x8.2.2))) : Option ((Int × Int × (List Int)) ⊕ (Int × (List Int))))))
  (fun x => ∃ i : Nat, x.2.1 = (i : Int) ∧ i ≤ xs.length ∧ x.1 = k + i ∧ x.2.2 = mks k i ++ xs.drop i) (fun x => xs.length - x.2.1.toNat) (fun r => r = (k + (xs.length : Int), mks k xs.length)) (s := (k, 0, xs)) ?_ ⟨0, rfl, by omega, by simp, by simp [mks]⟩
 ·obtain ⟨r, h1, h2⟩ := key
  rw [h1, h2]; rfl
 ·rintro ⟨q, x, l⟩ ⟨i, rfl, hi, e1, e2⟩
  simp only at e1 e2
  subst e1 e2
  have hlen : (mks k i ++ xs.drop i).length = xs.length := by rw [List.length_append, mks_len, List.length_drop]; omega
  by_cases h : i < xs.length
  ·refine .inl ⟨(k + ((i + 1 : Nat) : Int), ((i + 1 : Nat) : Int), mks k (i + 1) ++ xs.drop (i + 1)), ?_, ⟨i + 1, rfl, by omega, rfl, rfl⟩, by simp only; omega⟩
   simp only [hlen, lt_cast h, cond_true]
   rw [if_pos ⟨by omega, by omega⟩, Wp (by omega) (by omega), Wp (by omega) (by omega)]
   have e3 : (mks k i ++ xs.drop i).set (i : Int).toNat (k + (i : Int)) = mks k (i + 1) ++ xs.drop (i + 1) := by
    rw [Int.toNat_natCast, List.set_append_right _ _ (by rw [mks_len]; omega), mks_len, Nat.sub_self, List.drop_eq_getElem_cons h, List.set_cons_zero]
    simp [mks, List.range_succ]
   rw [e3]
   congr 3
   ·omega
  ·have : i = xs.length := by omega
   subst this
   refine .inr ⟨_, ?_, rfl⟩
   simp only [hlen, nlt_self, cond_false]
   simp
theorem heldInt {k : Int} {n : Nat} (h : n ≤ SM) (h0 : 0 ≤ k) (hk : k ≤ 2305843009213693952) : X.l_heldIntS (mks k n) k = some (k + n) := by
 unfold SM at h
 unfold X.l_heldIntS
 have key := loop_ind (body := (fun (x12 : (Int × Int)) => ((bif (decide (x12.2 < ((mks k n).length : Int))) then ((at' zI (mks k n) x12.2).bind fun v15 => (bif (v15 != x12.1) then some (Sum.inr (Sum.inr (-1))) else some (Sum.inl ((W (x12.1 + 1)), (W (x12.2 + 1)))))) else some (Sum.inr (Sum.inl x12.1))) : Option ((Int × Int) ⊕ (Int ⊕ Int)))))
  (fun x => ∃ i : Nat, x.2 = (i : Int) ∧ i ≤ n ∧ x.1 = k + i) (fun x => n - x.2.toNat) (fun r => r = .inl (k + (n : Int))) (s := (k, 0)) ?_ ⟨0, rfl, by omega, by simp⟩
 ·obtain ⟨r, h1, h2⟩ := key
  rw [h1, h2]; rfl
 ·rintro ⟨q, x⟩ ⟨i, rfl, hi, e⟩
  simp only at e
  subst e
  by_cases h : i < n
  ·refine .inl ⟨(k + ((i + 1 : Nat) : Int), ((i + 1 : Nat) : Int)), ?_, ⟨i + 1, rfl, by omega, rfl⟩, by simp only; omega⟩
   simp only [mks_len, lt_cast h, cond_true]
   rw [at_getD (by rw [mks_len]; exact h), mks_get k h]
   simp only [obs, bne_self_eq_false, cond_false]
   rw [Wp (by omega) (by omega), Wp (by omega) (by omega)]
   congr 3
   ·omega
  ·have : i = n := by omega
   subst this
   exact .inr ⟨_, by simp only [mks_len, nlt_self, cond_false], rfl⟩
theorem mhIntS {xs : List Int} (h : xs.length ≤ SM) (k : Int) (h0 : 0 ≤ k) (hk : k ≤ 1152921504606846976) : ∃ (r : Int) (ys : List Int), X.l_markIntS_Mod xs k = some (r, ys) ∧ ys.length = xs.length ∧ X.l_heldIntS ys k = some r ∧ k ≤ r ∧ r ≤ k + 1048576 :=
 ⟨_, _, mkInt_M h k h0 (by omega), mks_len _ _, heldInt h h0 (by omega), by omega, by unfold SM at h; omega⟩
def mkF {α : Type} (g : Int → α) (c : Nat) (k : Int) (n : Nat) : List α := (List.range n).map fun i : Nat => g (k + ((c * i : Nat) : Int))
theorem mkF_len {α : Type} (g : Int → α) (c : Nat) (k : Int) (n : Nat) : (mkF g c k n).length = n := by simp [mkF]
theorem mkF_get {α : Type} (g : Int → α) (c : Nat) (k : Int) {n i : Nat} (h : i < n) (z : α) : (mkF g c k n).getD i z = g (k + ((c * i : Nat) : Int)) := by simp [mkF, List.getD, h]
theorem getD_set {α : Type} {l : List α} {i : Nat} {a z : α} (h : i < l.length) : (l.set i a).getD i z = a := by simp [List.getD, h]
theorem mark_rows {α : Type} (g : Int → α) {c : Nat} {xs : List α} {body : Int × Int × List α → Option ((Int × Int × List α) ⊕ (Int × List α))} (h : xs.length ≤ SM) (hc : c ≤ 8)
  (hstep : ∀ (q : Int) (i : Nat) (l : List α), i < l.length → l.length ≤ SM → 0 ≤ q → q ≤ 2305843009213693952 → body (q, (i : Int), l) = some (.inl (q + (c : Int), ((i + 1 : Nat) : Int), l.set i (g q))))
  (hend : ∀ (q : Int) (l : List α), body (q, (l.length : Int), l) = some (.inr (q, l))) (k : Int) (h0 : 0 ≤ k) (hk : k ≤ 1152921504606846976) :
  loop body (k, 0, xs) = some (k + ((c * xs.length : Nat) : Int), mkF g c k xs.length) := by
 have hS := h
 unfold SM at h
 have hm : c * xs.length ≤ 8 * 1048576 := Nat.mul_le_mul hc h
 have key := loop_ind (body := body) (fun x => ∃ i : Nat, x.2.1 = (i : Int) ∧ i ≤ xs.length ∧ x.1 = k + ((c * i : Nat) : Int) ∧ x.2.2 = mkF g c k i ++ xs.drop i) (fun x => xs.length - x.2.1.toNat)
  (fun r => r = (k + ((c * xs.length : Nat) : Int), mkF g c k xs.length)) (s := (k, 0, xs)) ?_ ⟨0, rfl, by omega, by simp, by simp [mkF]⟩
 ·obtain ⟨r, h1, h2⟩ := key
  rw [h1, h2]
 ·rintro ⟨q, x, l⟩ ⟨i, rfl, hi, e1, e2⟩
  simp only at e1 e2
  subst e1 e2
  have hlen : (mkF g c k i ++ xs.drop i).length = xs.length := by rw [List.length_append, mkF_len, List.length_drop]; omega
  by_cases h1 : i < xs.length
  ·have hci : c * i ≤ c * xs.length := Nat.mul_le_mul_left c hi
   have hcs : c * (i + 1) = c * i + c := Nat.mul_succ c i
   refine .inl ⟨(k + ((c * (i + 1) : Nat) : Int), ((i + 1 : Nat) : Int), mkF g c k (i + 1) ++ xs.drop (i + 1)), ?_, ⟨i + 1, rfl, by omega, rfl, rfl⟩, by simp only [Int.toNat_natCast]; omega⟩
   rw [hstep _ i _ (by rw [hlen]; exact h1) (by rw [hlen]; exact hS) (by omega) (by omega)]
   have e3 : (mkF g c k i ++ xs.drop i).set i (g (k + ((c * i : Nat) : Int))) = mkF g c k (i + 1) ++ xs.drop (i + 1) := by
    rw [List.set_append_right _ _ (by rw [mkF_len]; omega), mkF_len, Nat.sub_self, List.drop_eq_getElem_cons h1, List.set_cons_zero]
    simp [mkF, List.range_succ]
   rw [e3]
   congr 3
   omega
  ·have : i = xs.length := by omega
   subst this
   refine .inr ⟨_, ?_, rfl⟩
   have := hend (k + ((c * xs.length : Nat) : Int)) (mkF g c k xs.length ++ xs.drop xs.length)
   rw [hlen] at this
   rw [this]
   simp
theorem held_rows {c n : Nat} {k : Int} {body : Int × Int → Option ((Int × Int) ⊕ (Int ⊕ Int))} (h : n ≤ SM) (hc : c ≤ 8) (h0 : 0 ≤ k) (hk : k ≤ 1152921504606846976)
  (hstep : ∀ (i : Nat) (q : Int), i < n → q = k + ((c * i : Nat) : Int) → 0 ≤ q → q ≤ 2305843009213693952 → body (q, (i : Int)) = some (.inl (q + (c : Int), ((i + 1 : Nat) : Int))))
  (hend : ∀ q, body (q, (n : Int)) = some (.inr (.inl q))) : loop body (k, 0) = some (.inl (k + ((c * n : Nat) : Int))) := by
 unfold SM at h
 have hm : c * n ≤ 8 * 1048576 := Nat.mul_le_mul hc h
 have key := loop_ind (body := body) (fun x => ∃ i : Nat, x.2 = (i : Int) ∧ i ≤ n ∧ x.1 = k + ((c * i : Nat) : Int)) (fun x => n - x.2.toNat) (fun r => r = .inl (k + ((c * n : Nat) : Int))) (s := (k, 0)) ?_ ⟨0, rfl, by omega, by simp⟩
 ·obtain ⟨r, h1, h2⟩ := key
  rw [h1, h2]
 ·rintro ⟨q, x⟩ ⟨i, rfl, hi, e⟩
  simp only at e
  by_cases h1 : i < n
  ·have hci : c * i ≤ c * n := Nat.mul_le_mul_left c hi
   have hcs : c * (i + 1) = c * i + c := Nat.mul_succ c i
   refine .inl ⟨_, hstep i q h1 e (by omega) (by omega), ⟨i + 1, rfl, by omega, by simp only; omega⟩, by simp only [Int.toNat_natCast]; omega⟩
  ·have : i = n := by omega
   subst this
   exact .inr ⟨_, hend q, by rw [e]⟩
theorem mhUnitS {xs : List TUnit} (h : xs.length ≤ SM) (k : Int) (h0 : 0 ≤ k) (hk : k ≤ 1152921504606846976) : ∃ (r : Int) (ys : List TUnit), X.l_markUnitS_Mod xs k = some (r, ys) ∧ ys.length = xs.length ∧ X.l_heldUnitS ys k = some r ∧ k ≤ r ∧ r ≤ k + 8388608 := by
 have hn := h
 unfold SM at hn
 refine ⟨k + ((4 * xs.length : Nat) : Int), mkF (fun q => TUnit.mk q (q + 1) (q + 2) (q + 3)) 4 k xs.length, ?_, mkF_len _ _ _ _, ?_, by omega, by omega⟩
 ·unfold X.l_markUnitS_Mod
  rw [mark_rows (fun q => TUnit.mk q (q + 1) (q + 2) (q + 3)) (c := 4) h (by omega) ?_ ?_ k h0 hk]
  ·rfl
  ·intro q i l hi hl q0 q1
   unfold SM at hl
   have w1 : W (q + 1) = q + 1 := W_of (by omega)
   have w2 : W (q + 1 + 1) = q + 2 := by rw [W_of (by omega)]; omega
   have w3 : W (q + 2 + 1) = q + 3 := by rw [W_of (by omega)]; omega
   have w4 : W (q + 3 + 1) = q + 4 := by rw [W_of (by omega)]; omega
   have w5 : W ((i : Int) + 1) = ((i + 1 : Nat) : Int) := by rw [W_of (by omega)]; omega
   simp only [lt_cast hi, cond_true, Int.toNat_natCast, obs, List.set_set, getD_set hi, w1, w2, w3, w4, w5]
   exact if_pos ⟨by omega, by omega⟩
  ·intro q l; simp only [nlt_self, cond_false]
 ·unfold X.l_heldUnitS
  rw [held_rows (c := 4) (n := xs.length) h (by omega) h0 hk ?_ ?_]
  ·rfl
  ·intro i q hi e q0 q1
   have w1 : W (q + 1) = q + 1 := W_of (by omega)
   have w2 : W (q + 1 + 1) = q + 2 := by rw [W_of (by omega)]; omega
   have w3 : W (q + 2 + 1) = q + 3 := by rw [W_of (by omega)]; omega
   have w4 : W (q + 3 + 1) = q + 4 := by rw [W_of (by omega)]; omega
   have w5 : W ((i : Int) + 1) = ((i + 1 : Nat) : Int) := by rw [W_of (by omega)]; omega
   simp only [mkF_len, lt_cast hi, cond_true]
   rw [at_getD (by rw [mkF_len]; exact hi), mkF_get _ _ _ hi, ← e]
   simp only [obs, w1, w2, w3, w4, w5, bne_self_eq_false, cond_false]
   rfl
  ·intro q; simp only [mkF_len, nlt_self, cond_false]
theorem mhView {x : TView} (h : smTView x) (k : Int) (h0 : 0 ≤ k) (hk : k ≤ 576460752303423488) : ∃ (r : Int) (y : TView), X.l_markView_Mod x k = some (r, y) ∧ (y.Seen.length = x.Seen.length ∧ y.Own.length = x.Own.length ∧ y.Enemies.length = x.Enemies.length) ∧ X.l_heldView ⟨x.Side, x.Turn, x.Weather, y.Seen, y.Own, y.Enemies⟩ k = some r ∧ k ≤ r ∧ r ≤ k + 33554432 := by
 obtain ⟨r1, y1, a1, b1, c1, d1, e1⟩ := mhIntS h.2.2.2.1.1 k h0 (by omega)
 obtain ⟨r2, y2, a2, b2, c2, d2, e2⟩ := mhUnitS h.2.2.2.2.1.1 r1 (by omega) (by omega)
 obtain ⟨r3, y3, a3, b3, c3, d3, e3⟩ := mhUnitS h.2.2.2.2.2.1.1 r2 (by omega) (by omega)
 refine ⟨r3, ⟨x.Side, x.Turn, x.Weather, y1, y2, y3⟩, ?_, ⟨b1, b2, b3⟩, ?_, by omega, by omega⟩
 ·unfold X.l_markView_Mod
  simp only [a1, b1, a2, b2, a3, b3, obs, if_true]
 ·unfold X.l_heldView
  simp only [c1, c2, c3, obs, decide_eq_false (show ¬ r1 < 0 by omega), decide_eq_false (show ¬ r2 < 0 by omega), decide_eq_false (show ¬ r3 < 0 by omega), cond_false]
def uBefore (a b : TUnit) : Bool := bif a.At != b.At then decide (a.At < b.At) else bif a.Kind != b.Kind then decide (a.Kind < b.Kind) else decide (a.Steps < b.Steps)
theorem before_eq (a b : TUnit) : X.s_fgBefore a b = some (uBefore a b) := by
 unfold X.s_fgBefore uBefore
 cases a.At != b.At <;> cases a.Kind != b.Kind <;> rfl
theorem compare_eq (a b : TUnit) (ha : 0 ≤ a.Kind ∧ a.Kind < 100 ∧ 0 ≤ a.Steps ∧ a.Steps < 100 ∧ -1 ≤ a.At ∧ a.At < 1000) (hb : 0 ≤ b.Kind ∧ b.Kind < 100 ∧ 0 ≤ b.Steps ∧ b.Steps < 100 ∧ -1 ≤ b.At ∧ b.At < 1000) :
  ∃ v : Int, X.i_compareUnits a b = some v ∧ decide (v < 0) = uBefore a b := by
 unfold X.i_compareUnits uBefore
 cases a.At != b.At
 ·cases a.Kind != b.Kind
  ·refine ⟨_, rfl, ?_⟩
   simp only [cond_false]
   rw [W_of (by omega), Bool.eq_iff_iff]
   simp only [decide_eq_true_eq]; omega
  ·refine ⟨_, rfl, ?_⟩
   simp only [cond_false, cond_true]
   rw [W_of (by omega), Bool.eq_iff_iff]
   simp only [decide_eq_true_eq]; omega
 ·refine ⟨_, rfl, ?_⟩
  simp only [cond_true]
  rw [W_of (by omega), Bool.eq_iff_iff]
  simp only [decide_eq_true_eq]; omega
theorem unit_small {b : TBoard} (h : pBoard b = true) {u : TUnit} (hu : pUnit b u = true) : 0 ≤ u.Kind ∧ u.Kind < 100 ∧ 0 ≤ u.Steps ∧ u.Steps < 100 ∧ -1 ≤ u.At ∧ u.At < 1000 := by
 obtain ⟨_, h1, h2, h3, h4, h5⟩ := pUnit_iff hu
 obtain ⟨j, hj⟩ := Int.eq_ofNat_of_zero_le h1
 have hjl : j < b.Rules.Kinds.length := by omega
 have := kind_of h hjl
 rw [hj, Int.toNat_natCast] at h4
 obtain ⟨g1, g2, _⟩ := kinds_of h
 obtain ⟨_, s2, s3⟩ := size_of h
 omega
def pSorted (us : List TUnit) : Bool := allFrom us.length 0 fun k => decide (k = 0) || !(uBefore (us.getD k zTUnit) (us.getD (k - 1) zTUnit))
theorem sorted_eq (us : List TUnit) (hl : us.length ≤ SM) (h : ∀ k, k < us.length → 0 ≤ (us.getD k zTUnit).Kind ∧ (us.getD k zTUnit).Kind < 100 ∧ 0 ≤ (us.getD k zTUnit).Steps ∧ (us.getD k zTUnit).Steps < 100 ∧ -1 ≤ (us.getD k zTUnit).At ∧ (us.getD k zTUnit).At < 1000) :
  X.g_IsSortedFunc_Unit us (fun q0 q1 => X.i_compareUnits q0 q1) = some (pSorted us) := by
 have hm := mL
 unfold SM at hl
 unfold X.g_IsSortedFunc_Unit
 by_cases h0 : us.length = 0
 ·rw [h0]
  have e1 : W (((0 : Nat) : Int) - 1) = -1 := rfl
  rw [e1, loop_eq]
  have : pSorted us = true := by unfold pSorted; rw [h0]; rfl
  rw [this]; rfl
 ·have e1 : W ((us.length : Int) - 1) = ((us.length - 1 : Nat) : Int) := by rw [W_of (by omega)]; omega
  rw [e1]
  have := loop_down (body := (fun (x20 : Int) => ((bif (decide (x20 > 0)) then ((at' zTUnit us x20).bind fun v23 => ((at' zTUnit us (W (x20 - 1))).bind fun v25 => ((X.i_compareUnits v23 v25).bind fun v27 => (bif (decide (v27 < 0)) then some (Sum.inr (Sum.inr false)) else some (Sum.inl (W (x20 - 1))))))) else some (Sum.inr (Sum.inl ()))) : Option (Int ⊕ (Unit ⊕ Bool)))))
   (fun k => !(uBefore (us.getD k zTUnit) (us.getD (k - 1) zTUnit))) (.inr false) (.inl ()) (us.length - 1) (fun j h1 h2 => by
    have hj : j < us.length := by omega
    have e2 : W ((j : Int) - 1) = ((j - 1 : Nat) : Int) := by rw [W_of (by omega)]; omega
    have e3 : (j : Int) > 0 := by omega
    obtain ⟨v, hv, hv2⟩ := compare_eq (us.getD j zTUnit) (us.getD (j - 1) zTUnit) (h j hj) (h (j - 1) (by omega))
    simp only [decide_eq_true e3, cond_true, e2, at_getD hj, at_getD (show j - 1 < us.length by omega), obs, hv, hv2]
    cases uBefore (us.getD j zTUnit) (us.getD (j - 1) zTUnit) <;> rfl) rfl
  rw [this]
  have hp : allDown (us.length - 1) (fun k => !(uBefore (us.getD k zTUnit) (us.getD (k - 1) zTUnit))) = pSorted us := by
   unfold pSorted
   rw [Bool.eq_iff_iff, allDown_iff, allFrom_iff]
   simp only [Bool.or_eq_true, decide_eq_true_eq]
   constructor
   ·intro g j _ hj
    by_cases e : j = 0
    ·exact .inl e
    ·exact .inr (g j (by omega) (by omega))
   ·intro g j h1 h2
    rcases g j (by omega) (by omega) with e | e
    ·omega
    ·exact e
  rw [hp]
  cases pSorted us <;> rfl
def pUnits (b : TBoard) (us : List TUnit) (d : Int) : Bool := allFrom us.length 0 fun k => ((us.getD k zTUnit).Side == d) && pUnit b (us.getD k zTUnit)
def pView (b : TBoard) (v : TView) : Bool :=
 pIn v.Side 0 1 && (pIn v.Turn 0 b.Rules.Turns && (pIn v.Weather 0 2 && ((pIncr v.Seen && v.Seen.all fun x => pIn x 0 ((b.Map.Terrain.length : Int) - 1)) && ((pUnits b v.Own v.Side && decide ((v.Own.length : Int) ≤ 12)) &&
  ((pUnits b v.Enemies (1 - v.Side) && decide ((v.Enemies.length : Int) ≤ 12)) && ((allFrom v.Enemies.length 0 fun k => v.Seen.any fun x => x == (v.Enemies.getD k zTUnit).At) && pSorted v.Enemies))))))
theorem yUnits_eq {b : TBoard} (h : pBoard b = true) (us : List TUnit) (d : Int) (hl : us.length ≤ SM) : X.s_yUnits b us d = some (pUnits b us d && decide ((us.length : Int) ≤ 12)) := by
 have hm := mL
 unfold SM at hl
 unfold X.s_yUnits pUnits
 rw [run_allN us.length (fun k => ((us.getD k zTUnit).Side == d) && pUnit b (us.getD k zTUnit)) (.inr false) (.inl ()) ?_ ?_]
 ·cases allFrom us.length 0 _ <;> rfl
 ·intro k hk
  simp only [lt_cast hk, cond_true, at_getD hk, obs, (unit_eq h _).1, bne, W_up hk (show us.length ≤ maxLen by omega)]
  cases ((us.getD k zTUnit).Side == d) <;> cases pUnit b (us.getD k zTUnit) <;> rfl
 ·simp only [nlt_self, cond_false]
theorem view_eq {b : TBoard} (h : pBoard b = true) (v : TView) (q : smTView v) : X.s_yGood b v = some (pView b v) ∧ X.i_goodView b v = some (pView b v) := by
 have hm := mL
 obtain ⟨s1, s2, s3⟩ := size_of h
 have hS := q.2.2.2.1.1
 have hO := q.2.2.2.2.1.1
 have hE := q.2.2.2.2.2.1.1
 have hS' := hS
 have hO' := hO
 have hE' := hE
 unfold SM at hS' hO' hE'
 constructor
 ·unfold X.s_yGood pView
  simp only [s_in, obs, s1, W_of (n := (b.Map.Terrain.length : Int) - 1) (by omega), rising_eq _ _ _ hS, rising_split]
  cases hsd : pIn v.Side 0 1
  ·rfl
  rw [pIn_iff] at hsd
  have ew : W (1 - v.Side) = 1 - v.Side := W_of (by omega)
  simp only [yUnits_eq h _ _ hO, yUnits_eq h _ _ hE, ew, obs]
  cases pIn v.Turn 0 b.Rules.Turns
  ·rfl
  cases pIn v.Weather 0 2
  ·rfl
  cases pIncr v.Seen && v.Seen.all fun x => pIn x 0 ((b.Map.Terrain.length : Int) - 1)
  ·rfl
  cases pUnits b v.Own v.Side && decide ((v.Own.length : Int) ≤ 12)
  ·rfl
  cases pUnits b v.Enemies (1 - v.Side) && decide ((v.Enemies.length : Int) ≤ 12)
  ·rfl
  simp only [Bool.not_true, cond_false, Bool.true_and]
  unfold pSorted
  rw [← allFrom_and]
  rw [run_allN v.Enemies.length (fun k => (v.Seen.any fun x => x == (v.Enemies.getD k zTUnit).At) && (decide (k = 0) || !(uBefore (v.Enemies.getD k zTUnit) (v.Enemies.getD (k - 1) zTUnit)))) (.inr false) (.inl ()) ?_ ?_]
  ·cases allFrom v.Enemies.length 0 _ <;> rfl
  ·intro k hk
   simp only [lt_cast hk, cond_true, at_getD hk, obs, has_eq _ _ (show v.Seen.length ≤ maxLen by omega), W_up hk (show v.Enemies.length ≤ maxLen by omega)]
   cases (v.Seen.any fun x => x == (v.Enemies.getD k zTUnit).At)
   ·rfl
   simp only [Bool.not_true, cond_false, Bool.true_and]
   by_cases h0 : k = 0
   ·subst h0; rfl
   ·have e0 : (k : Int) > 0 := by omega
    have e1 : W ((k : Int) - 1) = ((k - 1 : Nat) : Int) := by rw [W_of (by omega)]; omega
    simp only [decide_eq_true e0, cond_true, e1, at_getD (show k - 1 < v.Enemies.length by omega), obs, before_eq, decide_eq_false h0, Bool.false_or]
    cases uBefore (v.Enemies.getD k zTUnit) (v.Enemies.getD (k - 1) zTUnit) <;> rfl
  ·simp only [nlt_self, cond_false]
 ·unfold X.i_goodView pView X.i_isSide X.i_isWeather
  simp only [i_in, obs, incr_eq _ hS]
  cases hsd : pIn v.Side 0 1
  ·rfl
  rw [pIn_iff] at hsd
  cases pIn v.Turn 0 b.Rules.Turns
  ·rfl
  cases pIn v.Weather 0 2
  ·rfl
  cases pIncr v.Seen
  ·rfl
  simp only [Bool.not_true, cond_false, Bool.true_and]
  have hc : X.g_ContainsFunc_int v.Seen (fun q0 => X.i_goodView_1 q0 b) = some (v.Seen.any fun x => !(pIn x 0 ((b.Map.Terrain.length : Int) - 1))) :=
   (hasF_eq (z := zI) (f := fun q0 => X.i_goodView_1 q0 b) (p := fun x => !(pIn x 0 ((b.Map.Terrain.length : Int) - 1))) (by omega) (fun x _ => by
    unfold X.i_goodView_1 X.i_sizeOf
    simp only [obs, i_idx _ _ (show 0 ≤ (b.Map.Terrain.length : Int) ∧ (b.Map.Terrain.length : Int) ≤ (SM : Int) by unfold SM; omega)]) : _)
  have hn : (v.Seen.any fun x => !(pIn x 0 ((b.Map.Terrain.length : Int) - 1))) = !(v.Seen.all fun x => pIn x 0 ((b.Map.Terrain.length : Int) - 1)) := by rw [List.not_all_eq_any_not]
  rw [hc, hn]
  have d1 : decide ((v.Own.length : Int) > 12) = !(decide ((v.Own.length : Int) ≤ 12)) := by rw [Bool.eq_iff_iff]; simp only [decide_eq_true_eq, Bool.not_eq_true', decide_eq_false_iff_not]; omega
  have d2 : decide ((v.Enemies.length : Int) > 12) = !(decide ((v.Enemies.length : Int) ≤ 12)) := by rw [Bool.eq_iff_iff]; simp only [decide_eq_true_eq, Bool.not_eq_true', decide_eq_false_iff_not]; omega
  simp only [d1, d2, obs]
  have l1 : ∀ {γ : Type} (f : Unit ⊕ Bool → Option γ), ((loop (fun (x82 : Int) => ((bif (decide (x82 < (v.Own.length : Int))) then ((at' zTUnit v.Own x82).bind fun v85 => ((X.i_goodUnit b v85).bind fun v87 => (bif (!v87) then some (Sum.inr (Sum.inr false)) else (bif (v85.Side != v.Side) then some (Sum.inr (Sum.inr false)) else some (Sum.inl (W (x82 + 1))))))) else some (Sum.inr (Sum.inl ()))) : Option (Int ⊕ (Unit ⊕ Bool)))) 0).bind f) = f (bif pUnits b v.Own v.Side then .inl () else .inr false) := by
   intro γ f
   rw [run_allN v.Own.length (fun k => ((v.Own.getD k zTUnit).Side == v.Side) && pUnit b (v.Own.getD k zTUnit)) (.inr false) (.inl ()) ?_ ?_]
   ·rfl
   ·intro k hk
    simp only [lt_cast hk, cond_true, at_getD hk, obs, (unit_eq h _).2, bne, W_up hk (show v.Own.length ≤ maxLen by omega)]
    cases ((v.Own.getD k zTUnit).Side == v.Side) <;> cases pUnit b (v.Own.getD k zTUnit) <;> rfl
   ·simp only [nlt_self, cond_false]
  have l2 : ∀ {γ : Type} (f : Unit ⊕ Bool → Option γ), ((loop (fun (x118 : Int) => ((bif (decide (x118 < (v.Enemies.length : Int))) then ((at' zTUnit v.Enemies x118).bind fun v121 => ((X.i_goodUnit b v121).bind fun v123 => (bif (!v123) then some (Sum.inr (Sum.inr false)) else (bif (v121.Side == v.Side) then some (Sum.inr (Sum.inr false)) else ((X.g_Contains_int v.Seen v121.At).bind fun v127 => (bif (!v127) then some (Sum.inr (Sum.inr false)) else some (Sum.inl (W (x118 + 1))))))))) else some (Sum.inr (Sum.inl ()))) : Option (Int ⊕ (Unit ⊕ Bool)))) 0).bind f) =
    f (bif pUnits b v.Enemies (1 - v.Side) && (allFrom v.Enemies.length 0 fun k => v.Seen.any fun x => x == (v.Enemies.getD k zTUnit).At) then .inl () else .inr false) := by
   intro γ f
   unfold pUnits
   rw [← allFrom_and]
   rw [run_allN v.Enemies.length (fun k => (((v.Enemies.getD k zTUnit).Side == 1 - v.Side) && pUnit b (v.Enemies.getD k zTUnit)) && (v.Seen.any fun x => x == (v.Enemies.getD k zTUnit).At)) (.inr false) (.inl ()) ?_ ?_]
   ·intro k hk
    have hcn : X.g_Contains_int v.Seen (v.Enemies.getD k zTUnit).At = some (v.Seen.any fun x => x == (v.Enemies.getD k zTUnit).At) := by
     rw [contains_int _ _ (by omega)]
     congr 2
     funext x
     rw [Bool.eq_iff_iff]; simp only [beq_iff_eq]; exact eq_comm
    simp only [lt_cast hk, cond_true, at_getD hk, obs, (unit_eq h _).2, hcn, W_up hk (show v.Enemies.length ≤ maxLen by omega)]
    cases hu : pUnit b (v.Enemies.getD k zTUnit)
    ·cases ((v.Enemies.getD k zTUnit).Side == 1 - v.Side) <;> rfl
    ·have hsu := (pUnit_iff hu).1
     have e : ((v.Enemies.getD k zTUnit).Side == 1 - v.Side) = !((v.Enemies.getD k zTUnit).Side == v.Side) := by
      rw [Bool.eq_iff_iff]; simp only [beq_iff_eq, Bool.not_eq_true', beq_eq_false_iff_ne]; omega
     rw [e]
     cases ((v.Enemies.getD k zTUnit).Side == v.Side) <;> cases (v.Seen.any fun x => x == (v.Enemies.getD k zTUnit).At) <;> rfl
   ·simp only [nlt_self, cond_false]
  rw [l1]
  cases decide ((v.Own.length : Int) ≤ 12)
  ·simp only [Bool.not_false, cond_true, Bool.and_false, Bool.false_and]
  cases he : decide ((v.Enemies.length : Int) ≤ 12)
  ·simp only [Bool.not_false, Bool.not_true, cond_true, cond_false, Bool.and_false, Bool.false_and]
  simp only [Bool.not_true, cond_false, Bool.and_true]
  cases v.Seen.all fun x => pIn x 0 ((b.Map.Terrain.length : Int) - 1)
  ·rfl
  simp only [Bool.not_true, cond_false, Bool.true_and]
  cases pUnits b v.Own v.Side
  ·rfl
  simp only [cond_true, Sum.elim_inl, Bool.true_and]
  rw [l2]
  cases hpu : pUnits b v.Enemies (1 - v.Side)
  ·rfl
  simp only [Bool.true_and]
  cases allFrom v.Enemies.length 0 fun k => v.Seen.any fun x => x == (v.Enemies.getD k zTUnit).At
  ·rfl
  simp only [cond_true, Sum.elim_inl, Bool.true_and]
  rw [sorted_eq _ hE]
  ·rfl
  ·intro k hk
   unfold pUnits at hpu
   rw [allFrom_iff] at hpu
   have := hpu k (by omega) (by omega)
   rw [Bool.and_eq_true] at this
   exact unit_small h this.2
def seg (c : UInt8) : List UInt8 → List (List UInt8)
 | [] => [[]]
 | x :: r => if x = c then [] :: seg c r else match seg c r with | h :: t => (x :: h) :: t | [] => [[x]]
theorem seg_ne (c : UInt8) : ∀ s, seg c s ≠ []
 | [] => by simp [seg]
 | x :: r => by
  unfold seg
  split
  ·simp
  ·split <;> simp
theorem seg_none {c : UInt8} : ∀ {s : List UInt8}, (∀ a ∈ s, a ≠ c) → seg c s = [s]
 | [], _ => rfl
 | x :: r, h => by
  unfold seg
  rw [if_neg (h x (by simp)), seg_none (s := r) fun a ha => h a (by simp [ha])]
theorem seg_cut {c : UInt8} : ∀ {x r : List UInt8}, (∀ a ∈ x, a ≠ c) → seg c (x ++ c :: r) = x :: seg c r
 | [], r, _ => by simp [seg]
 | a :: x, r, h => by
  rw [List.cons_append, seg, if_neg (h a (by simp)), seg_cut (x := x) (r := r) fun b hb => h b (by simp [hb])]
theorem seg_len (c : UInt8) : ∀ s, (seg c s).length = s.count c + 1
 | [] => rfl
 | x :: r => by
  have ih := seg_len c r
  unfold seg
  by_cases e : x = c
  ·subst e; rw [if_pos rfl, List.length_cons, ih, List.count_cons_self]
  ·rw [if_neg e, List.count_cons_of_ne (by simpa using e)]
   cases h : seg c r with
   | nil => exact absurd h (seg_ne c r)
   | cons a t => rw [h] at ih; simpa using ih
theorem seg_sum (c : UInt8) : ∀ s, ((seg c s).map List.length).sum + (seg c s).length = s.length + 1
 | [] => rfl
 | x :: r => by
  have ih := seg_sum c r
  unfold seg
  by_cases e : x = c
  ·rw [if_pos e]; simp only [List.map_cons, List.sum_cons, List.length_cons, List.length_nil]; omega
  ·rw [if_neg e]
   cases h : seg c r with
   | nil => exact absurd h (seg_ne c r)
   | cons a t => rw [h] at ih; simp only [List.map_cons, List.sum_cons, List.length_cons] at ih ⊢; omega
theorem seg_mem {c : UInt8} {s p : List UInt8} (h : p ∈ seg c s) : p.length ≤ s.length := by
 have h1 := seg_sum c s
 have h2 : ∀ (l : List (List UInt8)), p ∈ l → p.length + (l.length - 1) ≤ (l.map List.length).sum + (l.length - 1) := by
  intro l hl
  induction l with
  | nil => cases hl
  | cons a t ih =>
   rcases List.mem_cons.1 hl with rfl | hl
   ·simp only [List.map_cons, List.sum_cons]; omega
   ·have := ih hl
    simp only [List.map_cons, List.sum_cons]; omega
 have h3 := h2 _ h
 have h4 : 1 ≤ (seg c s).length := List.length_pos_iff.2 (seg_ne c s)
 omega
theorem split_seg (c : UInt8) : ∀ s : List UInt8, Lib.split s [c] = seg c s
 | [] => by
  unfold Lib.split
  rw [Lib.count_one]; rfl
 | b :: l => by
  have ih := split_seg c l
  unfold Lib.split at ih ⊢
  rw [Lib.count_one] at ih ⊢
  by_cases e : b = c
  ·subst e
   rw [List.count_cons_self]
   have hix : Lib.index (b :: l) [b] = 0 := by rw [Lib.index_one]; simp [Lib.indexByte]
   unfold Lib.splitK seg
   rw [hix, if_pos rfl, if_neg (by decide)]
   simpa using ih
  ·rw [List.count_cons_of_ne (by simpa using e)]
   have hix : Lib.index (b :: l) [c] = if Lib.index l [c] == -1 then -1 else Lib.index l [c] + 1 := by
    rw [Lib.index_one, Lib.index_one, Lib.indexByte, if_neg (by simpa using e)]
   unfold seg
   rw [if_neg e, ← ih]
   cases hk : List.count c l with
   | zero => rfl
   | succ k =>
    have hne : Lib.index l [c] ≠ -1 := fun h => by
     have := Lib.count_miss h
     rw [Lib.count_one, hk] at this; cases this
    have hge := Lib.index_ge l [c]
    obtain ⟨j, hj⟩ : ∃ j : Nat, Lib.index l [c] = j := ⟨(Lib.index l [c]).toNat, by omega⟩
    have hf : (((j : Nat) : Int) == -1) = false := by rw [beq_eq_false_iff_ne]; omega
    have hf1 : ((((j : Nat) : Int) + 1) == -1) = false := by rw [beq_eq_false_iff_ne]; omega
    unfold Lib.splitK
    rw [hix, hj, hf]
    simp only [Bool.false_eq_true, if_false, hf1, hf]
    have e1 : (((j : Nat) : Int) + 1).toNat = j + 1 := by omega
    rw [e1, Int.toNat_natCast]
    simp
theorem spl_seg (c : UInt8) (s : List UInt8) : spl s [c] = seg c s := by
 rw [← split_seg]
 unfold spl Lib.split
 rw [Lib.splitB_data]
theorem lsplit_eq (c : UInt8) {s : List UInt8} (hl : s.length ≤ 1048576) : X.s_l1Split s (c.toNat : Int) = some (seg c s) := by
 have hm := mL
 unfold X.s_l1Split
 refine run_ind (fun o => o = some (seg c s)) (fun x => ∃ f k : Nat, x.1 = (f : Int) ∧ x.2.1 = (k : Int) ∧ f ≤ k ∧ k ≤ s.length ∧ x.2.2 ++ seg c (s.drop f) = seg c s ∧ x.2.2.length ≤ f ∧ ∀ j, f ≤ j → j < k → ∀ h : j < s.length, s[j] ≠ c) (fun x => s.length - x.2.1.toNat)
  (fun r => ∃ f : Nat, r.1 = (f : Int) ∧ f ≤ s.length ∧ r.2 ++ [s.drop f] = seg c s ∧ r.2.length ≤ f) ⟨0, 0, rfl, rfl, Nat.le_refl _, Nat.zero_le _, by simp, Nat.le_refl _, fun j _ h => absurd h (Nat.not_lt_zero j)⟩ ?_ ?_
 ·rintro ⟨x, y, out⟩ ⟨f, k, hx, hy, hfk, hk, ho, hol, hn⟩
  simp only at hx hy ho hol
  subst hx hy
  by_cases h : k < s.length
  ·have g1 : 0 ≤ (k : Int) ∧ (k : Int) < (s.length : Int) := by omega
   have g2 : 0 ≤ (f : Int) ∧ (f : Int) ≤ (k : Int) ∧ (k : Int) ≤ (s.length : Int) := by omega
   have hg : s.getD k 0 = s[k] := by simp [List.getD, h]
   simp only [lt_cast h, cond_true, if_pos g1, if_pos g2, Int.toNat_natCast, hg, W_up h (show s.length ≤ maxLen by omega)]
   by_cases e : s[k] = c
   ·have e1 : (((s[k].toNat : Nat) : Int) == ((c.toNat : Nat) : Int)) = true := by rw [e]; simp
    rw [e1, cond_true, if_pos (by simp; unfold LIM; omega)]
    refine .inl ⟨_, rfl, ⟨k + 1, k + 1, rfl, rfl, Nat.le_refl _, by omega, ?_, by simp; omega, fun j h1 h2 => by omega⟩, by simp only [Int.toNat_natCast]; omega⟩
    rw [← ho]
    have hd : s.drop f = (s.drop f).take (k - f) ++ c :: s.drop (k + 1) := by
     have h1 : (s.drop f).drop (k - f) = s.drop k := by rw [List.drop_drop]; congr 1; omega
     have h2 : s.drop k = s[k] :: s.drop (k + 1) := List.drop_eq_getElem_cons h
     rw [← e, ← h2, ← h1, List.take_append_drop]
    rw [List.append_assoc]
    congr 1
    conv => rhs; rw [hd]
    rw [seg_cut]
    ·rfl
    ·intro a ha
     obtain ⟨j, hj, rfl⟩ := List.getElem_of_mem ha
     rw [List.length_take, List.length_drop] at hj
     rw [List.getElem_take, List.getElem_drop]
     exact hn (f + j) (by omega) (by omega) (by omega)
   ·have e1 : (((s[k].toNat : Nat) : Int) == ((c.toNat : Nat) : Int)) = false := by
     rw [beq_eq_false_iff_ne]
     intro h1
     exact e (UInt8.toNat_inj.1 (by omega))
    rw [e1, cond_false]
    refine .inl ⟨_, rfl, ⟨f, k + 1, rfl, rfl, by omega, by omega, ho, hol, fun j h1 h2 h3 => ?_⟩, by simp only [Int.toNat_natCast]; omega⟩
    by_cases h4 : j = k
    ·subst h4; exact e
    ·exact hn j h1 (by omega) h3
  ·have : k = s.length := by omega
   subst this
   simp only [nlt_self, cond_false]
   refine .inr ⟨_, rfl, f, rfl, hfk, ?_, hol⟩
   rw [← ho]
   congr 1
   refine (seg_none fun a ha => ?_).symm
   obtain ⟨j, hj, rfl⟩ := List.getElem_of_mem ha
   rw [List.length_drop] at hj
   rw [List.getElem_drop]
   exact hn (f + j) (by omega) (by omega) (by omega)
 ·rintro ⟨x, out⟩ ⟨f, hf, hfl, ho, hol⟩
  simp only at hf ho hol
  subst hf
  have g2 : 0 ≤ (f : Int) ∧ (f : Int) ≤ (s.length : Int) ∧ (s.length : Int) ≤ (s.length : Int) := by omega
  simp only [if_pos g2, Int.toNat_natCast]
  have ht : (s.drop f).take (s.length - f) = s.drop f := List.take_of_length_le (by simp)
  rw [ht, if_pos (by simp; unfold LIM; omega), ho]
theorem lread_some {s : List UInt8} (hl : s.length ≤ 1048576) : ∃ v, X.s_l1Read s = some v := by
 have hm := mL
 unfold X.s_l1Read
 rw [s_in]
 simp only [obs]
 cases hp : pIn (s.length : Int) 1 6
 ·exact ⟨_, rfl⟩
 have hp2 := pIn_iff.1 hp
 simp only [Bool.not_true, cond_false]
 rw [if_pos (show 0 ≤ (0 : Int) ∧ (0 : Int) < (s.length : Int) by omega)]
 have key : ∃ v, ((loop (fun (x40 : (Int × Int)) => ((bif (decide (x40.2 < (s.length : Int))) then (if 0 ≤ x40.2 ∧ x40.2 < (s.length : Int) then (bif (decide ((((s.getD x40.2.toNat 0).toNat : Nat) : Int) < 48)) then some (Sum.inr (Sum.inr (-1))) else (if 0 ≤ x40.2 ∧ x40.2 < (s.length : Int) then (bif (decide ((((s.getD x40.2.toNat 0).toNat : Nat) : Int) > 57)) then some (Sum.inr (Sum.inr (-1))) else (if 0 ≤ x40.2 ∧ x40.2 < (s.length : Int) then some (Sum.inl ((W ((W (10 * x40.1)) + (W (IntKind.u8.wrap ((((s.getD x40.2.toNat 0).toNat : Nat) : Int) - 48))))), (W (x40.2 + 1)))) else none)) else none)) else none) else some (Sum.inr (Sum.inl x40.1))) : Option ((Int × Int) ⊕ (Int ⊕ Int)))) (0, 0)).bind fun y52 => (Sum.elim (fun (y54 : Int) => some y54) (fun (y55 : Int) => some y55) y52)) = some v := by
  refine run_ind (fun o => ∃ v, o = some v) (fun x => ∃ k : Nat, x.2 = (k : Int) ∧ k ≤ s.length) (fun x => s.length - x.2.toNat) (fun r => True) ⟨0, rfl, Nat.zero_le _⟩ ?_ (fun r _ => by cases r <;> exact ⟨_, rfl⟩)
  rintro ⟨x, y⟩ ⟨k, hy, hk⟩
  simp only at hy
  subst hy
  by_cases h : k < s.length
  ·have g1 : 0 ≤ (k : Int) ∧ (k : Int) < (s.length : Int) := by omega
   simp only [lt_cast h, cond_true, if_pos g1, W_up h (show s.length ≤ maxLen by omega)]
   cases decide (((((s.getD (k : Int).toNat 0).toNat : Nat) : Int)) < 48)
   ·cases decide (((((s.getD (k : Int).toNat 0).toNat : Nat) : Int)) > 57)
    ·exact .inl ⟨_, rfl, ⟨k + 1, rfl, by omega⟩, by simp only [Int.toNat_natCast]; omega⟩
    ·exact .inr ⟨_, rfl, trivial⟩
   ·exact .inr ⟨_, rfl, trivial⟩
  ·have : k = s.length := by omega
   subst this
   simp only [nlt_self, cond_false]
   exact .inr ⟨_, rfl, trivial⟩
 cases (((s.getD (0 : Int).toNat 0).toNat : Nat) : Int) == 48
 ·exact key
 ·cases decide ((s.length : Int) > 1)
  ·exact key
  ·exact ⟨_, rfl⟩
noncomputable def lrd (s : List UInt8) : Int := (X.s_l1Read s).getD 0
theorem lread_eq {s : List UInt8} (hl : s.length ≤ 1048576) : X.s_l1Read s = some (lrd s) := by
 obtain ⟨v, h⟩ := lread_some hl
 unfold lrd; rw [h]; rfl
theorem numbers_eq {w : List (List UInt8)} (h1 : 1 ≤ w.length) (hw : w.length ≤ 1048577) (hl : ∀ p ∈ w, p.length ≤ 1048576) : X.s_mNumbers w = some ((w.drop 1).map lrd) := by
 have hm := mL
 unfold X.s_mNumbers
 rw [if_pos (by omega)]
 have e1 : (w.drop (1 : Int).toNat).take ((w.length : Int).toNat - (1 : Int).toNat) = w.drop 1 := by
  show (w.drop 1).take (w.length - 1) = _
  rw [List.take_of_length_le (by simp)]
 rw [e1]
 have hl2 : ∀ p ∈ w.drop 1, p.length ≤ 1048576 := fun p hp => hl p (List.mem_of_mem_drop hp)
 have hw2 : (w.drop 1).length ≤ 1048576 := by simp; omega
 generalize w.drop 1 = u at hl2 hw2
 rw [run_st u.length (fun k => ((k : Int), (u.take k).map lrd)) (u.map lrd) (by rfl) ?_ ?_]
 ·intro k hk
  simp only [lt_cast hk, cond_true, at_nat hk, obs, lread_eq (hl2 _ (List.getElem_mem hk)), W_up hk (show u.length ≤ maxLen by omega)]
  rw [if_pos (by simp [List.length_take]; unfold LIM; omega), List.take_succ_eq_append_getElem hk, List.map_append]; rfl
 ·simp only [nlt_self, cond_false, List.take_length]
theorem name_len {s : List UInt8} (hl : s.length ≤ maxLen) (h : pName s = true) : s.length ≤ 8 := by
 have h0 := (name_eq s hl).1
 rw [h] at h0
 unfold X.s_rName at h0
 rw [run_allN s.length (fun k => !(decide ((((s.getD k 0).toNat : Nat) : Int) < 97)) && !(decide ((((s.getD k 0).toNat : Nat) : Int) > 122))) (.inr false) (.inl ()) ?_ ?_] at h0
 ·cases hA : allFrom s.length 0 (fun k => !(decide ((((s.getD k 0).toNat : Nat) : Int) < 97)) && !(decide ((((s.getD k 0).toNat : Nat) : Int) > 122))) with
  | false => rw [hA] at h0; cases h0
  | true =>
   rw [hA] at h0
   simp only [cond_true, Sum.elim_inl, s_in, obs, Option.some.injEq, pIn_iff] at h0
   omega
 ·intro k hk
  have h1 : 0 ≤ (k : Int) ∧ (k : Int) < (s.length : Int) := by omega
  simp only [lt_cast hk, cond_true, if_pos h1, W_up hk hl, Int.toNat_natCast]
  cases decide ((((s.getD k 0).toNat : Nat) : Int) < 97) <;> cases decide ((((s.getD k 0).toNat : Nat) : Int) > 122) <;> rfl
 ·simp only [nlt_self, cond_false]
theorem kname {b : TBoard} (hb : pBoard b = true) {j : Nat} (hj : j < b.Rules.Kinds.length) : pName (b.Rules.Kinds.getD j zTKind).Name = true ∧ pKI b.Rules.Kinds (b.Rules.Kinds.getD j zTKind).Name = (j : Int) := by
 unfold pBoard pRules at hb
 simp only [Bool.and_eq_true, allFrom_iff] at hb
 have := hb.1.2.2.2.1 j (by omega) (by omega)
 unfold qK at this
 simp only [Bool.and_eq_true, beq_iff_eq] at this
 exact ⟨this.1, this.2.1⟩
noncomputable def num (n : Nat) : List UInt8 := (X.x_strconv_Itoa (n : Int)).getD []
def numx (n : Nat) : List UInt8 := if n < 10 then [UInt8.ofNat (48 + n)] else [UInt8.ofNat (48 + n / 10), UInt8.ofNat (48 + n % 10)]
theorem itoa_x {n : Nat} (h : n < 100) : X.x_strconv_Itoa (n : Int) = some (numx n) := by
 unfold X.x_strconv_Itoa
 rw [if_pos (by omega), Lib.itoa_nonneg]
 unfold numx
 by_cases h1 : n < 10
 ·rw [Lib.decDigits_one h1, if_pos h1]
 ·rw [Lib.decDigits_two h1 h, if_neg h1]
theorem num_x {n : Nat} (h : n < 100) : num n = numx n := by unfold num; rw [itoa_x h]; rfl
noncomputable def preB (p0 : List UInt8) : Option (Unit ⊕ Int) :=
 ((X.s_l1In (p0.length : Int) 1 6).bind fun v7 => (bif (!v7) then some (Sum.inr (-1)) else (if 0 ≤ (0 : Int) ∧ (0 : Int) < (p0.length : Int) then (bif ((((p0.getD (0 : Int).toNat 0).toNat : Nat) : Int) == 48) then (bif (decide ((p0.length : Int) > 1)) then some (Sum.inr (-1)) else some (Sum.inl ())) else some (Sum.inl ())) else none)))
def rdB (p0 : List UInt8) : Int × Int → Option ((Int × Int) ⊕ (Int ⊕ Int)) := fun (x40 : (Int × Int)) => ((bif (decide (x40.2 < (p0.length : Int))) then (if 0 ≤ x40.2 ∧ x40.2 < (p0.length : Int) then (bif (decide ((((p0.getD x40.2.toNat 0).toNat : Nat) : Int) < 48)) then some (Sum.inr (Sum.inr (-1))) else (if 0 ≤ x40.2 ∧ x40.2 < (p0.length : Int) then (bif (decide ((((p0.getD x40.2.toNat 0).toNat : Nat) : Int) > 57)) then some (Sum.inr (Sum.inr (-1))) else (if 0 ≤ x40.2 ∧ x40.2 < (p0.length : Int) then some (Sum.inl ((W ((W (10 * x40.1)) + (W (IntKind.u8.wrap ((((p0.getD x40.2.toNat 0).toNat : Nat) : Int) - 48))))), (W (x40.2 + 1)))) else none)) else none)) else none) else some (Sum.inr (Sum.inl x40.1))) : Option ((Int × Int) ⊕ (Int ⊕ Int)))
theorem lr_of {s : List UInt8} {r : Int ⊕ Int} (h1 : preB s = some (.inl ())) (h2 : loopN (rdB s) 4 (0, 0) = some r) : X.s_l1Read s = some (Sum.elim id id r) := by
 have h3 : loop (rdB s) (0, 0) = some r := loop_some.2 ⟨4, h2⟩
 have h4 : X.s_l1Read s = (preB s).bind fun y13 => (Sum.elim (fun (y15 : Unit) => ((loop (rdB s) (0, 0)).bind fun y52 => (Sum.elim (fun (y54 : Int) => some y54) (fun (y55 : Int) => some y55) y52))) (fun (y16 : Int) => some y16) y13) := rfl
 rw [h4, h1, h3]
 cases r <;> rfl
def isOk (o : Lib.NumEnd Int) (n : Nat) : Bool := match o with | .ok v => decide (v = (n : Int)) | _ => false
theorem num_all : ((List.range 100).all fun n => decide (X.s_l1Num 64 (n : Int) = some (numx n) ∧ (numx n).length ≤ 2 ∧ preB (numx n) = some (.inl ()) ∧ loopN (rdB (numx n)) 4 (0, 0) = some (.inl (n : Int))) && isOk (Lib.atoiAll (numx n)) n) = true := by kernel_rfl
theorem num_full {n : Nat} (h : n < 100) : X.s_l1Num 64 (n : Int) = some (num n) ∧ (num n).length ≤ 2 ∧ X.s_l1Read (num n) = some (n : Int) ∧ Lib.atoiAll (num n) = .ok (n : Int) := by
 have := List.all_eq_true.1 num_all n (List.mem_range.2 h)
 rw [num_x h]
 simp only [Bool.and_eq_true, decide_eq_true_eq] at this
 refine ⟨this.1.1, this.1.2.1, lr_of this.1.2.2.1 this.1.2.2.2, ?_⟩
 have h2 := this.2
 unfold isOk at h2
 split at h2
 ·rename_i v hv
  rw [hv, of_decide_eq_true h2]
 ·cases h2
theorem num_eq {n : Nat} (h : n < 100) : X.s_l1Num 64 (n : Int) = some (num n) ∧ X.x_strconv_Itoa (n : Int) = some (num n) ∧ (num n).length ≤ 2 :=
 ⟨(num_full h).1, by rw [num_x h, itoa_x h], (num_full h).2.1⟩
theorem rd_num {n : Nat} (h : n < 100) : rdInt (num n) = ((n : Int), true) := by
 have h1 := num_full h
 have h2 : Lib.itoa (n : Int) = num n := by
  have := (num_eq h).2.1
  unfold X.x_strconv_Itoa at this
  rw [if_pos (by omega)] at this
  exact Option.some.inj this
 unfold rdInt
 rw [h1.2.2.2]
 show (if (num n).length ≤ 10 ∧ Lib.itoa (n : Int) = num n then ((n : Int), true) else (0, false)) = _
 rw [if_pos ⟨by omega, h2⟩]
theorem lrd_num {n : Nat} (h : n < 100) : lrd (num n) = (n : Int) := by
 unfold lrd; rw [(num_full h).2.2.1]; rfl
theorem lrd_dash : lrd [45] = -1 := by
 have h : decide (preB [45] = some (.inl ()) ∧ loopN (rdB [45]) 4 (0, 0) = some (.inr (-1))) = true := by kernel_rfl
 have h := of_decide_eq_true h
 unfold lrd; rw [lr_of h.1 h.2]; rfl
theorem num_int {n : Int} (h : 0 ≤ n ∧ n < 100) : X.s_l1Num 64 n = some (num n.toNat) ∧ X.x_strconv_Itoa n = some (num n.toNat) ∧ (num n.toNat).length ≤ 2 := by
 have := num_eq (n := n.toNat) (by omega)
 rwa [Int.toNat_of_nonneg h.1] at this
noncomputable def words (w : List UInt8) (l : List Int) : List UInt8 := w ++ l.flatMap fun n => 32 :: num n.toNat
theorem flat_len {α β : Type} {f : α → List β} {B : Nat} : ∀ l : List α, (∀ x ∈ l, (f x).length ≤ B) → (l.flatMap f).length ≤ B * l.length
 | [], _ => by simp
 | x :: r, h => by
  have h1 := h x (by simp)
  have h2 := flat_len r fun y hy => h y (by simp [hy])
  simp only [List.flatMap_cons, List.length_append, List.length_cons, Nat.mul_add, Nat.mul_one]
  omega
theorem flat_take {α β : Type} {f : α → List β} {l : List α} {k : Nat} (h : k < l.length) : (l.take (k + 1)).flatMap f = (l.take k).flatMap f ++ f l[k] := by
 rw [List.take_succ_eq_append_getElem h, List.flatMap_append]; simp
theorem mlist_eq {w : List UInt8} {l : List Int} (hw : w.length ≤ 100) (hl : l.length ≤ 1048576) (h : ∀ x ∈ l, 0 ≤ x ∧ x < 100) : X.s_mList w l = some (words w l ++ [10]) := by
 have hm := mL
 have hB : ∀ k, ((l.take k).flatMap fun n => 32 :: num n.toNat).length ≤ 3 * l.length := fun k =>
  Nat.le_trans (flat_len (B := 3) _ fun x hx => by have := (num_int (h x (List.mem_of_mem_take hx))).2.2; simp; omega) (Nat.mul_le_mul_left 3 (by simp [List.length_take]; omega))
 unfold X.s_mList
 rw [run_st l.length (fun k => (w ++ (l.take k).flatMap (fun n => 32 :: num n.toNat), (k : Int))) (words w l) (by simp) ?_ ?_]
 ·have := hB l.length
  rw [List.take_length] at this
  unfold words
  rw [if_pos (by simp only [List.length_append, List.length_cons, List.length_nil]; omega)]
 ·intro k hk
  have hn := num_int (h _ (List.getElem_mem hk))
  have := hB k
  simp only [lt_cast hk, cond_true, at_nat hk, obs, hn.1]
  rw [if_pos (by simp only [List.length_cons, List.length_nil]; omega), if_pos (by simp only [List.length_append, List.length_cons, List.length_nil]; omega), flat_take hk, W_up hk (show l.length ≤ maxLen by omega)]
  simp only [List.append_assoc, List.cons_append, List.nil_append]
 ·simp only [nlt_self, cond_false, List.take_length]; rfl
theorem icl (s w : List UInt8) (f : Int → List UInt8) : ∀ l : List Int, s.intercalate (w :: l.map f) = w ++ l.flatMap fun n => s ++ f n
 | [] => by simp [List.intercalate, List.intersperse]
 | x :: r => by
  have := icl s (f x) f r
  simp only [List.intercalate, List.map_cons, List.intersperse, List.flatten_cons, List.flatMap_cons, List.append_assoc] at this ⊢
  rw [this]
theorem words_eq {w : List UInt8} {l : List Int} (hw : w.length ≤ 100) (hl : l.length ≤ 1048576) (h : ∀ x ∈ l, 0 ≤ x ∧ x < 100) : X.i_wordsText w l = some (words w l) := by
 have hm := mL
 have hB : (words w l).length ≤ 100 + 3 * l.length := by
  have := flat_len (f := fun n : Int => 32 :: num n.toNat) (B := 3) l fun x hx => by have := (num_int (h x hx)).2.2; simp; omega
  unfold words
  simp only [List.length_append]; omega
 have hj : ([32] : List UInt8).intercalate (w :: l.map fun n => num n.toNat) = words w l := by rw [icl]; rfl
 unfold X.i_wordsText
 rw [run_st l.length (fun k => ((k : Int), w :: (l.take k).map fun n => num n.toNat)) (w :: l.map fun n => num n.toNat) (by simp) ?_ ?_]
 ·unfold X.x_strings_Join
  rw [hj, if_pos ⟨by simp; omega, by omega⟩]; rfl
 ·intro k hk
  have hn := num_int (h _ (List.getElem_mem hk))
  simp only [lt_cast hk, cond_true, at_nat hk, obs, hn.2.1]
  rw [if_pos (by simp [List.length_take]; unfold LIM; omega), W_up hk (show l.length ≤ maxLen by omega), List.take_succ_eq_append_getElem hk]
  simp only [List.map_append, List.map_cons, List.map_nil, List.cons_append]
 ·simp only [nlt_self, cond_false, List.take_length]
noncomputable def place (i : Int) : List UInt8 := if i < 0 then [45] else num i.toNat
noncomputable def uline (b : TBoard) (w : List UInt8) (u : TUnit) : List UInt8 := ((((((w ++ [32]) ++ (b.Rules.Kinds.getD u.Kind.toNat zTKind).Name) ++ [32]) ++ place u.At) ++ [32]) ++ num u.Steps.toNat) ++ [10]
theorem place_len {i : Int} (h : i < 100) : (place i).length ≤ 2 := by
 unfold place
 split
 ·simp
 ·exact (num_int (n := i) ⟨by omega, h⟩).2.2
theorem uline_eq {b : TBoard} (hb : pBoard b = true) (q : smTBoard b) {w : List UInt8} (hw : w.length ≤ 100) {u : TUnit} (hu : pUnit b u = true) :
  X.s_yUnit b w u = some (uline b w u) ∧ X.i_reportText_1 w u b = some (uline b w u) ∧ (uline b w u).length ≤ 1048576 + 200 := by
 have hm := mL
 obtain ⟨_, p2, p3, p4, p5, p6⟩ := pUnit_iff hu
 obtain ⟨_, z2, z3⟩ := size_of hb
 obtain ⟨j, hj⟩ := Int.eq_ofNat_of_zero_le p2
 have hjl : j < b.Rules.Kinds.length := by omega
 have hst := (kind_of hb hjl).2.2.2.2.2.1
 have hnm : (b.Rules.Kinds.getD j zTKind).Name.length ≤ 1048576 := Nat.le_trans (name_len (Nat.le_trans (q.1.2.1.2 _ (getD_mem (z := zTKind) hjl)).1 (by decide)) (kname hb hjl).1) (by decide)
 have hAt : u.At < 100 ∧ -1 ≤ u.At := by omega
 rw [hj, Int.toNat_natCast] at p5
 have n1 := num_int (n := u.Steps) ⟨p4, by omega⟩
 have n2 := place_len hAt.1
 have e1 : (((bif (decide (u.At ≥ 0)) then ((X.s_l1Num 64 u.At).bind fun v5 => some v5) else some [45]) : Option (List UInt8))) = some (place u.At) := by
  unfold place
  by_cases h : u.At < 0
  ·rw [decide_eq_false (by omega), cond_false, if_pos h]
  ·rw [decide_eq_true (by omega), cond_true, if_neg h, (num_int (n := u.At) ⟨by omega, by omega⟩).1]; rfl
 have e2 : X.i_placeText u.At = some (place u.At) := by
  unfold X.i_placeText place
  by_cases h : u.At < 0
  ·rw [decide_eq_true h, cond_true, if_pos h]
  ·rw [decide_eq_false h, cond_false, if_neg h, (num_int (n := u.At) ⟨by omega, by omega⟩).2.1]; rfl
 refine ⟨?_, ?_, ?_⟩
 ·unfold X.s_yUnit
  rw [e1, hj, at_getD hjl]
  simp only [obs, n1.1]
  unfold uline
  rw [hj, Int.toNat_natCast]
  generalize (b.Rules.Kinds.getD j zTKind).Name = N at hnm ⊢
  generalize place u.At = p at n2 ⊢
  generalize num u.Steps.toNat = n at n1 ⊢
  repeat rw [if_pos (by simp only [List.length_append, List.length_cons, List.length_nil]; omega)]
 ·unfold X.i_reportText_1
  rw [e2, hj, at_getD hjl]
  simp only [obs, n1.2.1]
  unfold uline
  rw [hj, Int.toNat_natCast]
  generalize (b.Rules.Kinds.getD j zTKind).Name = N at hnm ⊢
  generalize place u.At = p at n2 ⊢
  generalize num u.Steps.toNat = n at n1 ⊢
  repeat rw [if_pos (by simp only [List.length_append, List.length_cons, List.length_nil]; omega)]
 ·unfold uline
  rw [hj, Int.toNat_natCast]
  simp only [List.length_append, List.length_cons, List.length_nil]
  omega
theorem lines_run {b : TBoard} {us : List TUnit} {g : TUnit → Option (List UInt8)} {F : TUnit → List UInt8} (hl : us.length ≤ 12) (hg : ∀ u ∈ us, g u = some (F u) ∧ (F u).length ≤ 1048576 + 200) {acc : List UInt8} (ha : acc.length ≤ 100000000) {γ : Type} (f : List UInt8 → Option γ) :
  ((loop (fun (x56 : ((List UInt8) × Int)) => ((bif (decide (x56.2 < (us.length : Int))) then ((at' zTUnit us x56.2).bind fun v59 => ((g v59).bind fun v61 => (if x56.1.length + v61.length ≤ maxLen then some (Sum.inl ((x56.1 ++ v61), (W (x56.2 + 1)))) else none))) else some (Sum.inr x56.1)) : Option (((List UInt8) × Int) ⊕ (List UInt8)))) (acc, 0)).bind f) = f (acc ++ us.flatMap F) := by
 have hm := mL
 rw [run_st us.length (fun k => (acc ++ (us.take k).flatMap F, (k : Int))) (acc ++ us.flatMap F) (by simp) ?_ ?_]
 ·intro k hk
  have h1 := hg _ (List.getElem_mem hk)
  have h2 : ((us.take k).flatMap F).length ≤ (1048576 + 200) * 12 := Nat.le_trans (flat_len _ fun x hx => (hg x (List.mem_of_mem_take hx)).2) (Nat.mul_le_mul_left _ (by simp [List.length_take]; omega))
  simp only [lt_cast hk, cond_true, at_nat hk, obs, h1.1]
  rw [if_pos (by simp only [List.length_append]; omega), flat_take hk, W_up hk (show us.length ≤ maxLen by omega)]
  simp only [List.append_assoc]
 ·simp only [nlt_self, cond_false, List.take_length]
noncomputable def text (b : TBoard) (v : TView) : List UInt8 :=
 ((words [115, 105, 100, 101] [v.Side] ++ [32] ++ words [116, 117, 114, 110] [v.Turn] ++ [32] ++ words [119, 101, 97, 116, 104, 101, 114] [v.Weather] ++ [10] ++ words [115, 101, 101, 110] v.Seen ++ [10]) ++ v.Own.flatMap (uline b [111, 119, 110])) ++ v.Enemies.flatMap (uline b [101, 110, 101, 109, 121])
theorem text_eq {b : TBoard} (hb : pBoard b = true) (q : smTBoard b) {v : TView} (h1 : 0 ≤ v.Side ∧ v.Side < 100) (h2 : 0 ≤ v.Turn ∧ v.Turn < 100) (h3 : 0 ≤ v.Weather ∧ v.Weather < 100) (h4 : v.Seen.length ≤ 1048576 ∧ ∀ x ∈ v.Seen, 0 ≤ x ∧ x < 100)
  (h5 : v.Own.length ≤ 12 ∧ ∀ u ∈ v.Own, pUnit b u = true) (h6 : v.Enemies.length ≤ 12 ∧ ∀ u ∈ v.Enemies, pUnit b u = true) : X.s_yText b v = some (text b v) ∧ X.i_reportText b v = some (text b v) := by
 have hm := mL
 have hS := h4.1
 have n1 := num_int h1
 have n2 := num_int h2
 have n3 := num_int h3
 have one : ∀ {w : List UInt8} {n : Int}, w.length ≤ 100 → 0 ≤ n ∧ n < 100 → X.i_wordsText w [n] = some (words w [n]) := fun hw hn => words_eq hw (by simp) fun x hx => by
  rw [List.mem_singleton] at hx; subst hx; exact hn
 have wl : (words [115, 101, 101, 110] v.Seen).length ≤ 3 * v.Seen.length + 4 := by
  have := flat_len (f := fun n : Int => 32 :: num n.toNat) (B := 3) v.Seen fun x hx => by have := (num_int (h4.2 x hx)).2.2; simp; omega
  unfold words
  simp only [List.length_append, List.length_cons, List.length_nil]; omega
 have w1 : ∀ (w : List UInt8) (n : Int), words w [n] = w ++ 32 :: num n.toNat := fun w n => by unfold words; simp
 have so := fun u hu => uline_eq (w := [111, 119, 110]) hb q (by simp) (h5.2 u hu)
 have se := fun u hu => uline_eq (w := [101, 110, 101, 109, 121]) hb q (by simp) (h6.2 u hu)
 have lo : (v.Own.flatMap (uline b [111, 119, 110])).length ≤ (1048576 + 200) * 12 := Nat.le_trans (flat_len _ fun x hx => (so x hx).2.2) (Nat.mul_le_mul_left _ h5.1)
 constructor
 ·unfold X.s_yText
  rw [n1.1, n2.1, n3.1, mlist_eq (by simp) h4.1 h4.2]
  simp only [obs]
  unfold text
  rw [w1, w1, w1]
  generalize num v.Side.toNat = a1 at n1 ⊢
  generalize num v.Turn.toNat = a2 at n2 ⊢
  generalize num v.Weather.toNat = a3 at n3 ⊢
  generalize words [115, 101, 101, 110] v.Seen = a4 at wl ⊢
  repeat rw [if_pos (by simp only [List.length_append, List.length_cons, List.length_nil]; omega)]
  rw [lines_run (b := b) h5.1 (fun u hu => ⟨(so u hu).1, (so u hu).2.2⟩) (by simp only [List.length_append, List.length_cons, List.length_nil]; omega),
   lines_run (b := b) h6.1 (fun u hu => ⟨(se u hu).1, (se u hu).2.2⟩) (by simp only [List.length_append, List.length_cons, List.length_nil]; omega)]
  simp only [List.append_assoc, List.cons_append, List.nil_append]
 ·unfold X.i_reportText
  rw [one (by simp) h1, one (by simp) h2, one (by simp) h3, words_eq (by simp) h4.1 h4.2]
  simp only [obs]
  unfold text
  rw [w1, w1, w1]
  generalize num v.Side.toNat = a1 at n1 ⊢
  generalize num v.Turn.toNat = a2 at n2 ⊢
  generalize num v.Weather.toNat = a3 at n3 ⊢
  generalize words [115, 101, 101, 110] v.Seen = a4 at wl ⊢
  repeat rw [if_pos (by simp only [List.length_append, List.length_cons, List.length_nil]; omega)]
  rw [lines_run (b := b) h5.1 (fun u hu => ⟨(so u hu).2.1, (so u hu).2.2⟩) (by simp only [List.length_append, List.length_cons, List.length_nil]; omega),
   lines_run (b := b) h6.1 (fun u hu => ⟨(se u hu).2.1, (se u hu).2.2⟩) (by simp only [List.length_append, List.length_cons, List.length_nil]; omega)]
theorem units_mem {b : TBoard} {us : List TUnit} {d : Int} (h : pUnits b us d = true) : ∀ u ∈ us, pUnit b u = true := fun u hu => by
 obtain ⟨i, hi, rfl⟩ := List.getElem_of_mem hu
 unfold pUnits at h
 rw [allFrom_iff] at h
 have := h i (by omega) (by omega)
 simp only [Bool.and_eq_true] at this
 simpa [List.getD, hi] using this.2
theorem text_view {b : TBoard} (hb : pBoard b = true) (q : smTBoard b) {v : TView} (hv : pView b v = true) (qv : v.Seen.length ≤ 1048576) : X.s_yText b v = some (text b v) ∧ X.i_reportText b v = some (text b v) := by
 have hT := (kinds_of hb).2.2.2.2.2
 obtain ⟨_, z2, z3⟩ := size_of hb
 unfold pView at hv
 simp only [Bool.and_eq_true, pIn_iff, List.all_eq_true, decide_eq_true_eq] at hv
 obtain ⟨a1, a2, a3, ⟨_, a4⟩, ⟨a5, a6⟩, ⟨a7, a8⟩, _⟩ := hv
 exact text_eq hb q ⟨by omega, by omega⟩ ⟨by omega, by omega⟩ ⟨by omega, by omega⟩ ⟨qv, fun x hx => by have := a4 x hx; omega⟩ ⟨by omega, units_mem a5⟩ ⟨by omega, units_mem a7⟩
def Sp (c : UInt8) : Prop := c = 32 ∨ c = 10
theorem num_ok : ((List.range 100).all fun n => (numx n).all (fun c => decide (48 ≤ c.toNat ∧ c.toNat ≤ 57))) = true := by kernel_rfl
theorem num_dig {n : Nat} (h : n < 100) : ∀ a ∈ num n, 48 ≤ a.toNat ∧ a.toNat ≤ 57 := by
 have := List.all_eq_true.1 num_ok n (List.mem_range.2 h)
 rw [num_x h]
 simpa only [List.all_eq_true, decide_eq_true_eq] using this
theorem num_sp {n : Nat} (h : n < 100) : ∀ a ∈ num n, ¬ Sp a := fun a ha hs => by
 have := num_dig h a ha
 rcases hs with rfl | rfl <;> exact absurd this (by decide)
theorem place_sp {i : Int} (h : i < 100) : ∀ a ∈ place i, ¬ Sp a := by
 unfold place
 split
 ·intro a ha hs
  rw [List.mem_singleton] at ha
  subst ha
  rcases hs with h | h <;> exact absurd h (by decide)
 ·exact num_sp (by omega)
theorem name_sp {s : List UInt8} (hl : s.length ≤ maxLen) (h : pName s = true) : ∀ a ∈ s, ¬ Sp a := by
 have h0 := (name_eq s hl).1
 rw [h] at h0
 unfold X.s_rName at h0
 rw [run_allN s.length (fun k => !(decide ((((s.getD k 0).toNat : Nat) : Int) < 97)) && !(decide ((((s.getD k 0).toNat : Nat) : Int) > 122))) (.inr false) (.inl ()) ?_ ?_] at h0
 ·intro a ha hs
  cases hA : allFrom s.length 0 (fun k => !(decide ((((s.getD k 0).toNat : Nat) : Int) < 97)) && !(decide ((((s.getD k 0).toNat : Nat) : Int) > 122))) with
  | false => rw [hA] at h0; cases h0
  | true =>
   rw [allFrom_iff] at hA
   obtain ⟨i, hi, rfl⟩ := List.getElem_of_mem ha
   have := hA i (by omega) (by omega)
   have hg : s.getD i 0 = s[i] := by simp [List.getD, hi]
   rw [hg] at this
   rcases hs with hs | hs <;> (rw [hs] at this; exact absurd this (by decide))
 ·intro k hk
  have h1 : 0 ≤ (k : Int) ∧ (k : Int) < (s.length : Int) := by omega
  simp only [lt_cast hk, cond_true, if_pos h1, W_up hk hl, Int.toNat_natCast]
  cases decide ((((s.getD k 0).toNat : Nat) : Int) < 97) <;> cases decide ((((s.getD k 0).toNat : Nat) : Int) > 122) <;> rfl
 ·simp only [nlt_self, cond_false]
theorem at_lit {α : Type} {z : α} {xs : List α} (k : Nat) {i : Int} (hi : i = (k : Int)) (h : k < xs.length) : at' z xs i = some (xs.getD k z) := by subst hi; exact at_getD h
abbrev RS := Int × Int × Int × List Int × List TUnit × List TUnit
noncomputable def unitOf (b : TBoard) (d : Int) (w : List (List UInt8)) : TUnit := TUnit.mk d (pKI b.Rules.Kinds (w.getD 1 zS)) (lrd (w.getD 2 zS)) (lrd (w.getD 3 zS))
noncomputable def stepW (b : TBoard) (z : Bool) (w : List (List UInt8)) (x : RS) : RS :=
 bif z && ((w.length : Int) == 6) then (lrd (w.getD 1 zS), lrd (w.getD 3 zS), lrd (w.getD 5 zS), x.2.2.2.1, x.2.2.2.2.1, x.2.2.2.2.2)
 else bif w.getD 0 zS == ([115, 101, 101, 110] : List UInt8) then (x.1, x.2.1, x.2.2.1, (w.drop 1).map lrd, x.2.2.2.2.1, x.2.2.2.2.2)
 else bif (w.length : Int) == 4 then
  (bif w.getD 0 zS == ([111, 119, 110] : List UInt8) then (x.1, x.2.1, x.2.2.1, x.2.2.2.1, x.2.2.2.2.1 ++ [unitOf b x.1 w], x.2.2.2.2.2)
  else (x.1, x.2.1, x.2.2.1, x.2.2.2.1, x.2.2.2.2.1, x.2.2.2.2.2 ++ [unitOf b (W (1 - x.1)) w]))
 else (x.1, x.2.1, x.2.2.1, x.2.2.2.1, x.2.2.2.2.1, x.2.2.2.2.2)
noncomputable def rdF (b : TBoard) : Bool → List (List UInt8) → RS → RS
 | _, [], x => x
 | z, p :: r, x => rdF b false r (stepW b z (seg 32 p) x)
theorem rdF_snoc (b : TBoard) : ∀ (l : List (List UInt8)) (z : Bool) (p : List UInt8) (x : RS), rdF b z (l ++ [p]) x = stepW b (z && l.isEmpty) (seg 32 p) (rdF b z l x)
 | [], z, p, x => by simp [rdF]
 | a :: l, z, p, x => by
  rw [List.cons_append, rdF, rdF_snoc b l, rdF]
  simp
def rsz (x : RS) : Nat := x.2.2.2.2.1.length + x.2.2.2.2.2.length
theorem seg_bound {c : UInt8} {p : List UInt8} : (seg c p).length ≤ p.length + 1 := by
 rw [seg_len]
 have := List.count_le_length (a := c) (l := p)
 omega
theorem step_sz (b : TBoard) (z : Bool) (p : List UInt8) (x : RS) : rsz (stepW b z (seg 32 p) x) ≤ rsz x + p.length := by
 have h := seg_bound (c := 32) (p := p)
 unfold stepW
 cases z && (((seg 32 p).length : Int) == 6)
 ·cases (seg 32 p).getD 0 zS == ([115, 101, 101, 110] : List UInt8)
  ·cases h4 : (((seg 32 p).length : Int) == 4)
   ·simp [rsz]
   ·have h4 : (seg 32 p).length = 4 := by
     have := eq_of_beq h4
     omega
    cases (seg 32 p).getD 0 zS == ([111, 119, 110] : List UInt8)
    ·simp [rsz]; omega
    ·simp [rsz]; omega
  ·simp [rsz]
 ·simp [rsz]
theorem rdF_sz (b : TBoard) : ∀ (l : List (List UInt8)) (z : Bool) (x : RS), rsz (rdF b z l x) ≤ rsz x + (l.map List.length).sum
 | [], _, _ => by simp [rdF]
 | p :: r, z, x => by
  have h1 := rdF_sz b r false (stepW b z (seg 32 p) x)
  have h2 := step_sz b z p x
  rw [rdF, List.map_cons, List.sum_cons]
  omega
theorem rdF_seen (b : TBoard) {B : Nat} : ∀ (l : List (List UInt8)) (z : Bool) (x : RS), (∀ p ∈ l, p.length ≤ B) → x.2.2.2.1.length ≤ B → (rdF b z l x).2.2.2.1.length ≤ B
 | [], _, _, _, h => h
 | p :: r, z, x, hp, h => by
  rw [rdF]
  refine rdF_seen b r false _ (fun q hq => hp q (by simp [hq])) ?_
  have h1 := hp p (by simp)
  have h2 := seg_bound (c := 32) (p := p)
  unfold stepW
  cases z && (((seg 32 p).length : Int) == 6)
  ·cases (seg 32 p).getD 0 zS == ([115, 101, 101, 110] : List UInt8)
   ·cases (((seg 32 p).length : Int) == 4)
    ·exact h
    ·cases (seg 32 p).getD 0 zS == ([111, 119, 110] : List UInt8) <;> exact h
   ·show ((List.drop 1 _).map lrd).length ≤ B
    rw [List.length_map, List.length_drop]; omega
  ·exact h
noncomputable def rs0 : RS := (0, 0, 0, ([] : List Int), ([] : List TUnit), ([] : List TUnit))
noncomputable def vOfR (x : RS) : TView := TView.mk x.1 x.2.1 x.2.2.1 x.2.2.2.1 x.2.2.2.2.1 x.2.2.2.2.2
noncomputable def rdV (b : TBoard) (t : List UInt8) : TView := vOfR (rdF b true (seg 10 t) rs0)
theorem take_sum {l : List (List UInt8)} (k : Nat) : ((l.take k).map List.length).sum ≤ (l.map List.length).sum := by
 conv => rhs; rw [← List.take_append_drop k l, List.map_append, List.sum_append]
 omega
theorem yRead_eq {b : TBoard} (q : b.Rules.Kinds.length ≤ maxLen) {t : List UInt8} (hl : t.length ≤ 1048576) : X.s_yRead b t = some (rdV b t) := by
 have hm := mL
 have e10 : X.s_l1Split t 10 = some (seg 10 t) := lsplit_eq 10 hl
 have e32 : ∀ p : List UInt8, p.length ≤ 1048576 → X.s_l1Split p 32 = some (seg 32 p) := fun p hp => lsplit_eq 32 hp
 unfold X.s_yRead
 rw [e10]
 simp only [obs]
 have s1 := seg_sum 10 t
 have s2 : ∀ p ∈ seg 10 t, p.length ≤ 1048576 := fun p hp => Nat.le_trans (seg_mem hp) hl
 have s3 : 1 ≤ (seg 10 t).length := List.length_pos_iff.2 (seg_ne 10 t)
 unfold rdV
 generalize seg 10 t = L at s1 s2 s3 ⊢
 rw [run_st L.length (fun k => ((k : Int), rdF b true (L.take k) rs0)) (rdF b true L rs0) (by rfl) ?_ ?_]
 ·rfl
 ·intro k hk
  have z0 := rdF_sz b (L.take k) true rs0
  have z1 := take_sum (l := L) k
  have z2 : rsz rs0 = 0 := rfl
  rw [List.take_succ_eq_append_getElem hk, rdF_snoc]
  have ez : (true && (L.take k).isEmpty) = ((k : Int) == 0) := by
   rw [Bool.eq_iff_iff, Bool.true_and, List.isEmpty_iff, beq_iff_eq, List.take_eq_nil_iff]
   constructor
   ·rintro (h | h)
    ·omega
    ·rw [h] at hk; cases hk
   ·intro h; left; omega
  rw [ez]
  generalize rdF b true (L.take k) rs0 = x at z0 ⊢
  obtain ⟨x1, x2, x3, x4, x5, x6⟩ := x
  have hp := s2 _ (List.getElem_mem hk)
  have w1 : ∀ q ∈ seg 32 L[k], q.length ≤ 1048576 := fun q hq => Nat.le_trans (seg_mem hq) hp
  have w2 := seg_bound (c := 32) (p := L[k])
  have w3 : 1 ≤ (seg 32 L[k]).length := List.length_pos_iff.2 (seg_ne 32 _)
  simp only [lt_cast hk, cond_true, at_nat hk, obs, e32 _ hp, W_up hk (show L.length ≤ maxLen by omega)]
  rw [z2] at z0
  unfold rsz at z0
  simp only at z0
  generalize seg 32 L[k] = w at w1 w2 w3 ⊢
  have wg : ∀ j, j < w.length → X.s_l1Read (w.getD j zS) = some (lrd (w.getD j zS)) := fun j hj => lread_eq (w1 _ (getD_mem hj))
  have b0 : at' zS w 0 = some (w.getD 0 zS) := at_lit 0 rfl w3
  have hnum := numbers_eq w3 (by omega) w1
  unfold stepW
  cases h6 : ((w.length : Int) == 6)
  ·rw [Bool.and_false]
   cases hs : (w.getD 0 zS == ([115, 101, 101, 110] : List UInt8))
   ·cases h4 : ((w.length : Int) == 4)
    ·cases ((k : Int) == 0) <;> simp only [b0, hs, obs, cond_true, cond_false]
    ·have h4 : w.length = 4 := by
      have := eq_of_beq h4
      omega
     have b1 : at' zS w 1 = some (w.getD 1 zS) := at_lit 1 rfl (by omega)
     have b2 : at' zS w 2 = some (w.getD 2 zS) := at_lit 2 rfl (by omega)
     have b3 : at' zS w 3 = some (w.getD 3 zS) := at_lit 3 rfl (by omega)
     have g : ∀ (l : List TUnit) (u : TUnit), l.length ≤ 1048576 → (l ++ [u]).length ≤ LIM := fun l u h => by
      unfold LIM; simp; omega
     cases ho : (w.getD 0 zS == ([111, 119, 110] : List UInt8))
     ·have g := g x6 (TUnit.mk (W (1 - x1)) (pKI b.Rules.Kinds (w.getD 1 zS)) (lrd (w.getD 2 zS)) (lrd (w.getD 3 zS))) (by omega)
      cases ((k : Int) == 0) <;> simp only [b0, b1, b2, b3, hs, ho, wg 2 (by omega), wg 3 (by omega), (ki_eq b.Rules.Kinds (w.getD 1 zS) q).1, obs, cond_true, cond_false, if_pos g] <;> rfl
     ·have g := g x5 (TUnit.mk x1 (pKI b.Rules.Kinds (w.getD 1 zS)) (lrd (w.getD 2 zS)) (lrd (w.getD 3 zS))) (by omega)
      cases ((k : Int) == 0) <;> simp only [b0, b1, b2, b3, hs, ho, wg 2 (by omega), wg 3 (by omega), (ki_eq b.Rules.Kinds (w.getD 1 zS) q).1, obs, cond_true, cond_false, if_pos g] <;> rfl
   ·cases ((k : Int) == 0) <;> simp only [b0, hs, hnum, obs, cond_true, cond_false]
  ·rw [Bool.and_true]
   have h6 : w.length = 6 := by
    have := eq_of_beq h6
    omega
   have b1 : at' zS w 1 = some (w.getD 1 zS) := at_lit 1 rfl (by omega)
   have b3 : at' zS w 3 = some (w.getD 3 zS) := at_lit 3 rfl (by omega)
   have b5 : at' zS w 5 = some (w.getD 5 zS) := at_lit 5 rfl (by omega)
   have h4 : ((w.length : Int) == 4) = false := by rw [h6]; rfl
   cases ((k : Int) == 0)
   ·cases hs : (w.getD 0 zS == ([115, 101, 101, 110] : List UInt8))
    ·simp only [b0, hs, h4, obs, cond_true, cond_false]
    ·simp only [b0, hs, hnum, obs, cond_true, cond_false]
   ·simp only [b1, b3, b5, wg 1 (by omega), wg 3 (by omega), wg 5 (by omega), obs, cond_true]
 ·rw [List.take_length]
  simp only [nlt_self, cond_false]
theorem rdV_sm {b : TBoard} {t : List UInt8} (hl : t.length ≤ 1048576) : smTView (rdV b t) := by
 have s1 := seg_sum 10 t
 have s3 : 1 ≤ (seg 10 t).length := List.length_pos_iff.2 (seg_ne 10 t)
 have h1 := rdF_sz b (seg 10 t) true rs0
 have h2 := rdF_seen b (B := 1048576) (seg 10 t) true rs0 (fun p hp => Nat.le_trans (seg_mem hp) hl) (by decide)
 have z2 : rsz rs0 = 0 := rfl
 unfold rdV
 generalize rdF b true (seg 10 t) rs0 = x at h1 h2 ⊢
 rw [z2] at h1
 unfold rsz at h1
 exact ⟨trivI _, trivI _, trivI _, ⟨h2, fun x _ => trivI x⟩, ⟨by show x.2.2.2.2.1.length ≤ 1048576; omega, fun x _ => trivTUnit x⟩, ⟨by show x.2.2.2.2.2.length ≤ 1048576; omega, fun x _ => trivTUnit x⟩, trivial⟩
theorem W_rng (n : Int) : -9223372036854775808 ≤ W n ∧ W n ≤ 9223372036854775807 := by
 unfold W
 simp only [IntKind.wrap]
 simp [IntKind.signed, IntKind.bits]; omega
theorem split_eq (c : UInt8) {p : List UInt8} (h : p.length ≤ 2097152) : X.x_strings_Split p [c] = some (seg c p) := by
 unfold X.x_strings_Split
 rw [if_pos ⟨by omega, by simp⟩, spl_seg]
theorem rint_eq {p : List UInt8} (h : p.length ≤ 2097152) : X.i_readInt p = some (rdInt p) := by
 unfold X.i_readInt
 rw [if_pos (by omega)]
theorem rint_rng (p : List UInt8) : -9223372036854775808 ≤ (rdInt p).1 ∧ (rdInt p).1 ≤ 9223372036854775807 := by
 unfold rdInt
 split
 ·rename_i v hv
  split
  ·exact Lib.atoiAll_bounds hv
  ·decide
 ·decide
def iW : List (List UInt8) → Option (List Int)
 | [] => some []
 | p :: r => bif (rdInt p).2 then (iW r).map fun l => (rdInt p).1 :: l else none
def rW (p w0 : List UInt8) : Option (List Int) := bif (seg 32 p).getD 0 zS == w0 then iW ((seg 32 p).drop 1) else none
def oW : Option (List Int) → List Int × Bool
 | some l => (l, true)
 | none => ([], false)
theorem words_rd {p : List UInt8} (w0 : List UInt8) (hl : p.length ≤ 1048576) : X.i_readWords p w0 = some (oW (rW p w0)) := by
 have hm := mL
 unfold X.i_readWords rW
 rw [split_eq 32 (by omega)]
 simp only [obs]
 have w1 : ∀ q ∈ seg 32 p, q.length ≤ 1048576 := fun q hq => Nat.le_trans (seg_mem hq) hl
 have w2 := seg_bound (c := 32) (p := p)
 have w3 : 1 ≤ (seg 32 p).length := List.length_pos_iff.2 (seg_ne 32 _)
 generalize seg 32 p = w at w1 w2 w3 ⊢
 have b0 : at' zS w 0 = some (w.getD 0 zS) := at_lit 0 rfl w3
 rw [b0]
 simp only [obs]
 cases (w.getD 0 zS == w0)
 ·rfl
 simp only [Bool.not_true, cond_false, cond_true]
 rw [if_pos (by omega)]
 have e1 : (w.drop (1 : Int).toNat).take ((w.length : Int).toNat - (1 : Int).toNat) = w.drop 1 := by
  show (w.drop 1).take (w.length - 1) = _
  rw [List.take_of_length_le (by simp)]
 rw [e1]
 have hl2 : ∀ p ∈ w.drop 1, p.length ≤ 1048576 := fun p hp => w1 p (List.mem_of_mem_drop hp)
 have hw2 : (w.drop 1).length ≤ 1048576 := by simp; omega
 generalize w.drop 1 = u at hl2 hw2
 refine run_ind (fun o => o = some (oW (iW u))) (fun x => ∃ k : Nat, x.1 = (k : Int) ∧ k ≤ u.length ∧ x.2.length ≤ k ∧ iW u = (iW (u.drop k)).map fun l => x.2 ++ l) (fun x => u.length - x.1.toNat)
  (fun r => r = match iW u with | some l => .inl l | none => .inr (false, ([] : List Int))) ⟨0, rfl, Nat.zero_le _, Nat.le_refl _, by simp⟩ ?_ ?_
 ·rintro ⟨x, out⟩ ⟨k, hx, hk, ho, hi⟩
  simp only at hx ho hi
  subst hx
  by_cases h : k < u.length
  ·simp only [lt_cast h, cond_true, at_nat h, obs, rint_eq (Nat.le_trans (hl2 _ (List.getElem_mem h)) (by omega)), W_up h (show u.length ≤ maxLen by omega)]
   rw [List.drop_eq_getElem_cons h, iW] at hi
   cases hb : (rdInt u[k]).2
   ·rw [hb] at hi
    simp only [cond_false, Option.map_none] at hi
    refine .inr ⟨_, rfl, ?_⟩
    rw [hi]
   ·rw [hb] at hi
    simp only [cond_true, Option.map_map] at hi
    rw [if_pos (by simp; unfold LIM; omega)]
    refine .inl ⟨_, rfl, ⟨k + 1, rfl, by omega, by simp; omega, ?_⟩, by simp only [Int.toNat_natCast]; omega⟩
    rw [hi]
    congr 1
    funext l
    simp
  ·have : k = u.length := by omega
   subst this
   rw [List.drop_length] at hi
   simp only [nlt_self, cond_false]
   refine .inr ⟨_, rfl, ?_⟩
   rw [hi]
   simp [iW]
 ·intro r hr
  subst hr
  cases iW u <;> rfl
def iPl (p : List UInt8) : Int × Bool := bif p == [45] then (-1, true) else rdInt p
noncomputable def iUw (b : TBoard) (w : List (List UInt8)) : TUnit × Bool :=
 (TUnit.mk (rdInt (w.getD 0 zS)).1 (pKI b.Rules.Kinds (w.getD 1 zS)) (iPl (w.getD 2 zS)).1 (rdInt (w.getD 3 zS)).1, (rdInt (w.getD 0 zS)).2 && ((rdInt (w.getD 3 zS)).2 && (iPl (w.getD 2 zS)).2))
noncomputable def iU (b : TBoard) (s : List UInt8) : TUnit × Bool := bif ((seg 32 s).length : Int) != 4 then (TUnit.mk 0 0 0 0, false) else iUw b (seg 32 s)
theorem unit_rd {b : TBoard} (q : b.Rules.Kinds.length ≤ maxLen) {s : List UInt8} (hl : s.length ≤ 2097152) : X.i_readUnit b s = some (iU b s) := by
 unfold X.i_readUnit iU
 rw [split_eq 32 hl]
 simp only [obs]
 have w1 : ∀ q ∈ seg 32 s, q.length ≤ 2097152 := fun q hq => Nat.le_trans (seg_mem hq) hl
 generalize seg 32 s = w at w1 ⊢
 cases h4 : ((w.length : Int) != 4)
 ·have h4 : w.length = 4 := by
   have : ((w.length : Int) == 4) = true := by simpa [bne] using h4
   have := eq_of_beq this
   omega
  have wg : ∀ j, j < w.length → X.i_readInt (w.getD j zS) = some (rdInt (w.getD j zS)) := fun j hj => rint_eq (w1 _ (getD_mem hj))
  have b0 : at' zS w 0 = some (w.getD 0 zS) := at_lit 0 rfl (by omega)
  have b1 : at' zS w 1 = some (w.getD 1 zS) := at_lit 1 rfl (by omega)
  have b2 : at' zS w 2 = some (w.getD 2 zS) := at_lit 2 rfl (by omega)
  have b3 : at' zS w 3 = some (w.getD 3 zS) := at_lit 3 rfl (by omega)
  simp only [cond_false, b0, b1, b2, b3, obs, wg 0 (by omega), wg 2 (by omega), wg 3 (by omega), (ki_eq b.Rules.Kinds (w.getD 1 zS) q).2]
  unfold iUw iPl
  cases (w.getD 2 zS == [45]) <;> cases (rdInt (w.getD 0 zS)).2 <;> cases (rdInt (w.getD 3 zS)).2 <;> rfl
 ·rfl
noncomputable def iL (b : TBoard) (s : Int) (p : List UInt8) : TUnit × Bool :=
 iU b ((Lib.itoa (bif (Lib.cut p [32]).1 == ([101, 110, 101, 109, 121] : List UInt8) then W (1 - s) else s) ++ [32]) ++ (Lib.cut p [32]).2.1)
noncomputable def iF (b : TBoard) (s : Int) : List (List UInt8) → List TUnit → List TUnit → Option (List TUnit × List TUnit)
 | [], o, e => some (o, e)
 | p :: r, o, e => bif (iL b s p).2 then (bif (Lib.cut p [32]).1 == ([101, 110, 101, 109, 121] : List UInt8) then iF b s r o (e ++ [(iL b s p).1]) else iF b s r (o ++ [(iL b s p).1]) e) else none
theorem cut_len (p : List UInt8) : (Lib.cut p [32]).2.1.length ≤ p.length := by
 unfold Lib.cut
 split
 ·simp
 ·simp
def zV : TView := TView.mk 0 0 0 ([] : List Int) ([] : List TUnit) ([] : List TUnit)
noncomputable def iO (b : TBoard) (t : List UInt8) : Option TView → TView × Bool
 | none => (zV, false)
 | some v => bif pView b v then (bif text b v == t then (v, true) else (zV, false)) else (zV, false)
noncomputable def iP (b : TBoard) (L : List (List UInt8)) (w : List (List UInt8)) : Option TView :=
 bif decide ((L.length : Int) < 3) then none else bif (w.length : Int) != 6 then none else
 bif !(rdInt (w.getD 1 zS)).2 then none else bif !(rdInt (w.getD 3 zS)).2 then none else bif !(rdInt (w.getD 5 zS)).2 then none else
 (rW (L.getD 1 zS) [115, 101, 101, 110]).bind fun l => (iF b (rdInt (w.getD 1 zS)).1 ((L.drop 2).take (L.length - 1 - 2)) [] []).map fun y => TView.mk (rdInt (w.getD 1 zS)).1 (rdInt (w.getD 3 zS)).1 (rdInt (w.getD 5 zS)).1 l y.1 y.2
theorem iW_len : ∀ {u : List (List UInt8)} {l : List Int}, iW u = some l → l.length = u.length
 | [], l, h => by cases h; rfl
 | p :: r, l, h => by
  rw [iW] at h
  cases hb : (rdInt p).2
  ·rw [hb] at h; cases h
  ·rw [hb] at h
   simp only [cond_true, Option.map_eq_some_iff] at h
   obtain ⟨l', h1, rfl⟩ := h
   simp [iW_len h1]
theorem parse_eq {b : TBoard} (hb : pBoard b = true) (q : smTBoard b) {t : List UInt8} (hl : t.length ≤ 1048576) : X.i_ParseReport b t = some (iO b t (iP b (seg 10 t) (seg 32 ((seg 10 t).getD 0 zS)))) := by
 have hm := mL
 have qk : b.Rules.Kinds.length ≤ maxLen := by have := (kinds_of hb).2.1; omega
 unfold X.i_ParseReport
 rw [split_eq 10 (by omega)]
 simp only [obs]
 have s1 := seg_sum 10 t
 have s2 : ∀ p ∈ seg 10 t, p.length ≤ 1048576 := fun p hp => Nat.le_trans (seg_mem hp) hl
 have s3 : 1 ≤ (seg 10 t).length := List.length_pos_iff.2 (seg_ne 10 t)
 generalize seg 10 t = L at s1 s2 s3 ⊢
 have hL0 := s2 _ (getD_mem (z := zS) s3)
 have b0 : at' zS L 0 = some (L.getD 0 zS) := at_lit 0 rfl s3
 rw [b0]
 simp only [obs]
 rw [split_eq 32 (by omega)]
 simp only [obs, (board_eq b q).2, hb, Bool.not_true, cond_false]
 have w1 : ∀ q ∈ seg 32 (L.getD 0 zS), q.length ≤ 2097152 := fun q hq => Nat.le_trans (seg_mem hq) (by omega)
 generalize seg 32 (L.getD 0 zS) = w at w1 ⊢
 unfold iP
 cases h3 : decide ((L.length : Int) < 3)
 rotate_left
 ·rfl
 have h3 : 3 ≤ L.length := by have := of_decide_eq_false h3; omega
 simp only [cond_false]
 cases h6 : ((w.length : Int) != 6)
 rotate_left
 ·rfl
 have h6 : w.length = 6 := by
  have : ((w.length : Int) == 6) = true := by simpa [bne] using h6
  have := eq_of_beq this
  omega
 have wg : ∀ j, j < w.length → X.i_readInt (w.getD j zS) = some (rdInt (w.getD j zS)) := fun j hj => rint_eq (w1 _ (getD_mem hj))
 have b1 : at' zS w 1 = some (w.getD 1 zS) := at_lit 1 rfl (by omega)
 have b3 : at' zS w 3 = some (w.getD 3 zS) := at_lit 3 rfl (by omega)
 have b5 : at' zS w 5 = some (w.getD 5 zS) := at_lit 5 rfl (by omega)
 have c1 : at' zS L 1 = some (L.getD 1 zS) := at_lit 1 rfl (by omega)
 have hL1 := s2 _ (getD_mem (z := zS) (show 1 < L.length by omega))
 have r1 := rint_rng (w.getD 1 zS)
 simp only [b1, b3, b5, c1, wg 1 (by omega), wg 3 (by omega), wg 5 (by omega), words_rd _ hL1, obs, cond_false]
 have hsl : ∀ l, rW (L.getD 1 zS) [115, 101, 101, 110] = some l → l.length ≤ 1048576 := fun l hr => by
  unfold rW at hr
  cases hc : ((seg 32 (L.getD 1 zS)).getD 0 zS == ([115, 101, 101, 110] : List UInt8))
  ·rw [hc] at hr; cases hr
  ·rw [hc] at hr
   have := iW_len hr
   have h2 := seg_bound (c := 32) (p := L.getD 1 zS)
   rw [List.length_drop] at this
   omega
 generalize rW (L.getD 1 zS) [115, 101, 101, 110] = sn at hsl ⊢
 generalize (rdInt (w.getD 1 zS)) = y1 at r1 ⊢
 generalize (rdInt (w.getD 3 zS)) = y3
 generalize (rdInt (w.getD 5 zS)) = y5
 obtain ⟨v1, f1⟩ := y1
 obtain ⟨v3, f3⟩ := y3
 obtain ⟨v5, f5⟩ := y5
 cases f1
 ·rfl
 cases f3
 ·rfl
 cases f5
 ·rfl
 cases sn with
 | none => rfl
 | some l =>
 have hll := hsl l rfl
 simp only [Bool.not_true, cond_false, oW, obs]
 have eW : W ((L.length : Int) - 1) = ((L.length - 1 : Nat) : Int) := by rw [W_of (by omega)]; omega
 rw [eW, if_pos (by omega)]
 have e2 : (L.drop (2 : Int).toNat).take ((((L.length - 1 : Nat) : Int)).toNat - (2 : Int).toNat) = (L.drop 2).take (L.length - 1 - 2) := rfl
 rw [e2]
 have u1 : ∀ p ∈ (L.drop 2).take (L.length - 1 - 2), p.length ≤ 1048576 := fun p hp => s2 p (List.mem_of_mem_drop (List.mem_of_mem_take hp))
 have u2 : ((L.drop 2).take (L.length - 1 - 2)).length ≤ 1048576 := by simp; omega
 generalize (L.drop 2).take (L.length - 1 - 2) = u at u1 u2 ⊢
 refine run_ind (fun o => o = some (iO b t ((iF b v1 u [] []).map fun y => TView.mk v1 v3 v5 l y.1 y.2))) (fun x => ∃ k : Nat, x.1 = (k : Int) ∧ k ≤ u.length ∧ x.2.1 = l ∧ x.2.2.1.length + x.2.2.2.length ≤ k ∧ iF b v1 u [] [] = iF b v1 (u.drop k) x.2.2.1 x.2.2.2) (fun x => u.length - x.1.toNat)
  (fun r => (∃ o e, iF b v1 u [] [] = some (o, e) ∧ r = .inl (l, o, e) ∧ o.length + e.length ≤ 1048576) ∨ (iF b v1 u [] [] = none ∧ r = .inr (false, 0, 0, 0, ([] : List Int), ([] : List TUnit), ([] : List TUnit)))) ⟨0, rfl, Nat.zero_le _, rfl, Nat.le_refl _, by simp⟩ ?_ ?_
 ·rintro ⟨x, sl, o, e⟩ ⟨k, hx, hk, hs, ho, hi⟩
  simp only at hx hs ho hi
  subst hx hs
  by_cases h : k < u.length
  ·have hp := u1 _ (List.getElem_mem h)
   have hcl := cut_len u[k]
   have hcut : X.x_strings_Cut u[k] [32] = some (Lib.cut u[k] [32]) := by
    unfold X.x_strings_Cut
    rw [if_pos (by omega)]
   simp only [lt_cast h, cond_true, at_nat h, obs, hcut, W_up h (show u.length ≤ maxLen by omega), bif_some]
   rw [List.drop_eq_getElem_cons h, iF] at hi
   have hit : ∀ n : Int, -9223372036854775808 ≤ n ∧ n ≤ 9223372036854775807 → X.x_strconv_Itoa n = some (Lib.itoa n) ∧ (Lib.itoa n).length ≤ 21 := fun n hn => by
    unfold X.x_strconv_Itoa
    exact ⟨if_pos hn, Lib.itoa_length_le n hn.1 hn.2⟩
   have hn : -9223372036854775808 ≤ (bif (Lib.cut u[k] [32]).1 == ([101, 110, 101, 109, 121] : List UInt8) then W (1 - v1) else v1) ∧ (bif (Lib.cut u[k] [32]).1 == ([101, 110, 101, 109, 121] : List UInt8) then W (1 - v1) else v1) ≤ 9223372036854775807 := by
    cases (Lib.cut u[k] [32]).1 == ([101, 110, 101, 109, 121] : List UInt8)
    ·exact r1
    ·exact W_rng _
   have hit := hit _ hn
   have hu : X.i_readUnit b ((Lib.itoa (bif (Lib.cut u[k] [32]).1 == ([101, 110, 101, 109, 121] : List UInt8) then W (1 - v1) else v1) ++ [32]) ++ (Lib.cut u[k] [32]).2.1) = some (iL b v1 u[k]) := by
    unfold iL
    refine unit_rd qk ?_
    rw [List.length_append, List.length_append, List.length_singleton]
    omega
   simp only [hit.1, obs]
   rw [if_pos (by rw [List.length_singleton]; omega), if_pos (by rw [List.length_append, List.length_singleton]; omega), hu]
   simp only [obs]
   generalize iL b v1 u[k] = y at hi ⊢
   obtain ⟨y, f⟩ := y
   cases f
   ·exact .inr ⟨_, rfl, .inr ⟨hi, rfl⟩⟩
   simp only [Bool.not_true, cond_false, cond_true] at hi ⊢
   generalize ((Lib.cut u[k] [32]).1 == ([101, 110, 101, 109, 121] : List UInt8)) = c at hi ⊢
   cases c
   ·simp only [cond_false] at hi ⊢
    rw [if_pos (by rw [List.length_append, List.length_singleton]; unfold LIM; omega)]
    exact .inl ⟨_, rfl, ⟨k + 1, rfl, by omega, rfl, by simp only [List.length_append, List.length_singleton]; omega, hi⟩, by simp only [Int.toNat_natCast]; omega⟩
   ·simp only [cond_true] at hi ⊢
    rw [if_pos (by rw [List.length_append, List.length_singleton]; unfold LIM; omega)]
    exact .inl ⟨_, rfl, ⟨k + 1, rfl, by omega, rfl, by simp only [List.length_append, List.length_singleton]; omega, hi⟩, by simp only [Int.toNat_natCast]; omega⟩
  ·have : k = u.length := by omega
   subst this
   rw [List.drop_length, iF] at hi
   simp only [nlt_self, cond_false]
   exact .inr ⟨_, rfl, .inl ⟨o, e, hi, rfl, by omega⟩⟩
 ·rintro r (⟨o, e, h1, rfl, h2⟩ | ⟨h1, rfl⟩)
  ·rw [h1]
   have qv : smTView (TView.mk v1 v3 v5 l o e) := ⟨trivI _, trivI _, trivI _, ⟨hll, fun x _ => trivI x⟩, ⟨by show o.length ≤ 1048576; omega, fun x _ => trivTUnit x⟩, ⟨by show e.length ≤ 1048576; omega, fun x _ => trivTUnit x⟩, trivial⟩
   simp only [Sum.elim_inl, Option.map_some, (view_eq hb _ qv).2, obs, iO]
   cases hv : pView b (TView.mk v1 v3 v5 l o e)
   ·rfl
   ·simp only [Bool.not_true, cond_false, cond_true, (text_view hb q hv hll).2, obs]
    cases (text b (TView.mk v1 v3 v5 l o e) == t) <;> rfl
  ·rw [h1]; rfl
theorem ns32 {p : List UInt8} (h : ∀ a ∈ p, ¬ Sp a) : ∀ a ∈ p, a ≠ 32 := fun a ha e => h a ha (.inl e)
theorem ns10 {p : List UInt8} (h : ∀ a ∈ p, ¬ Sp a) : ∀ a ∈ p, a ≠ 10 := fun a ha e => h a ha (.inr e)
noncomputable def nam (b : TBoard) (u : TUnit) : List UInt8 := (b.Rules.Kinds.getD u.Kind.toNat zTKind).Name
noncomputable def uln (b : TBoard) (w : List UInt8) (u : TUnit) : List UInt8 := w ++ 32 :: (nam b u ++ 32 :: (place u.At ++ 32 :: num u.Steps.toNat))
theorem uline_ln (b : TBoard) (w : List UInt8) (u : TUnit) : uline b w u = uln b w u ++ [10] := by
 unfold uline uln nam
 simp only [List.append_assoc, List.cons_append, List.nil_append]
noncomputable def hdl (v : TView) : List UInt8 := [115, 105, 100, 101] ++ 32 :: (num v.Side.toNat ++ 32 :: ([116, 117, 114, 110] ++ 32 :: (num v.Turn.toNat ++ 32 :: ([119, 101, 97, 116, 104, 101, 114] ++ 32 :: num v.Weather.toNat))))
noncomputable def sel (v : TView) : List UInt8 := [115, 101, 101, 110] ++ v.Seen.flatMap fun n => 32 :: num n.toNat
theorem text_lines (b : TBoard) (v : TView) : text b v = hdl v ++ 10 :: (sel v ++ 10 :: ((v.Own.flatMap fun u => uln b [111, 119, 110] u ++ [10]) ++ ((v.Enemies.flatMap fun u => uln b [101, 110, 101, 109, 121] u ++ [10]) ++ []))) := by
 unfold text hdl sel words
 rw [show uline b [111, 119, 110] = fun u => uln b [111, 119, 110] u ++ [10] from funext fun u => uline_ln _ _ _, show uline b [101, 110, 101, 109, 121] = fun u => uln b [101, 110, 101, 109, 121] u ++ [10] from funext fun u => uline_ln _ _ _]
 simp only [List.flatMap_cons, List.flatMap_nil, List.append_assoc, List.cons_append, List.nil_append, List.append_nil]
theorem seg_lines {α : Type} {f : α → List UInt8} : ∀ (l : List α) (r : List UInt8), (∀ x ∈ l, ∀ a ∈ f x, a ≠ 10) → seg 10 ((l.flatMap fun x => f x ++ [10]) ++ r) = l.map f ++ seg 10 r
 | [], r, _ => by simp
 | x :: l, r, h => by
  have ih := seg_lines l r fun y hy => h y (by simp [hy])
  rw [List.flatMap_cons, List.append_assoc, List.append_assoc, List.singleton_append, seg_cut (h x (by simp)), ih]
  rfl
theorem seg_words : ∀ (l : List Int) (w : List UInt8), (∀ a ∈ w, a ≠ 32) → (∀ x ∈ l, 0 ≤ x ∧ x < 100) → seg 32 (w ++ l.flatMap fun n => 32 :: num n.toNat) = w :: l.map fun n => num n.toNat
 | [], w, hw, _ => by simpa using seg_none hw
 | n :: l, w, hw, h => by
  have hn := h n (by simp)
  rw [List.flatMap_cons, List.cons_append, seg_cut hw, seg_words l _ (ns32 (num_sp (by omega))) fun x hx => h x (by simp [hx])]
  rfl
structure UInf (b : TBoard) (u : TUnit) : Prop where
 nm : ∀ a ∈ nam b u, ¬ Sp a
 pl : ∀ a ∈ place u.At, ¬ Sp a
 st : 0 ≤ u.Steps ∧ u.Steps < 100
 at1 : -1 ≤ u.At ∧ u.At < 100
 ki : pKI b.Rules.Kinds (nam b u) = u.Kind
 sd : u.Side = 0 ∨ u.Side = 1
theorem uinf {b : TBoard} (hb : pBoard b = true) (q : smTBoard b) {u : TUnit} (hu : pUnit b u = true) : UInf b u := by
 obtain ⟨_, z2, z3⟩ := size_of hb
 obtain ⟨p1, p2, p3, p4, p5, p6⟩ := pUnit_iff hu
 obtain ⟨j, hj⟩ := Int.eq_ofNat_of_zero_le p2
 have hjl : j < b.Rules.Kinds.length := by omega
 have hst := (kind_of hb hjl).2.2.2.2.2.1
 have hnl : (b.Rules.Kinds.getD j zTKind).Name.length ≤ maxLen := Nat.le_trans (q.1.2.1.2 _ (getD_mem (z := zTKind) hjl)).1 (by decide)
 rw [hj, Int.toNat_natCast] at p5
 have ha : -1 ≤ u.At ∧ u.At < 100 := by omega
 refine ⟨?_, place_sp ha.2, by omega, ha, ?_, p1⟩
 ·unfold nam; rw [hj, Int.toNat_natCast]; exact name_sp hnl (kname hb hjl).1
 ·unfold nam; rw [hj, Int.toNat_natCast]; exact (kname hb hjl).2
theorem uln_no {b : TBoard} {w : List UInt8} (hw : ∀ a ∈ w, ¬ Sp a) {u : TUnit} (hu : UInf b u) : ∀ a ∈ uln b w u, a ≠ 10 := by
 have hs := hu.st
 intro a ha
 unfold uln at ha
 simp only [List.mem_append, List.mem_cons] at ha
 rcases ha with h | rfl | h | rfl | h | rfl | h
 ·exact ns10 hw a h
 ·decide
 ·exact ns10 hu.nm a h
 ·decide
 ·exact ns10 hu.pl a h
 ·decide
 ·exact ns10 (num_sp (by omega)) a h
theorem uln_seg {b : TBoard} {w : List UInt8} (hw : ∀ a ∈ w, ¬ Sp a) {u : TUnit} (hu : UInf b u) : seg 32 (uln b w u) = [w, nam b u, place u.At, num u.Steps.toNat] := by
 have hs := hu.st
 unfold uln
 rw [seg_cut (ns32 hw), seg_cut (ns32 hu.nm), seg_cut (ns32 hu.pl), seg_none (ns32 (num_sp (by omega)))]
theorem lrd_place {i : Int} (h : -1 ≤ i ∧ i < 100) : lrd (place i) = i := by
 unfold place
 split
 ·rw [lrd_dash]; omega
 ·rw [lrd_num (by omega)]; omega
theorem lrd_int {i : Int} (h : 0 ≤ i ∧ i < 100) : lrd (num i.toNat) = i := by
 rw [lrd_num (by omega)]; omega
theorem rd_int {i : Int} (h : 0 ≤ i ∧ i < 100) : rdInt (num i.toNat) = (i, true) := by
 rw [rd_num (by omega), show ((i.toNat : Nat) : Int) = i by omega]
theorem ipl_place {i : Int} (h : -1 ≤ i ∧ i < 100) : iPl (place i) = (i, true) := by
 unfold iPl place
 by_cases h0 : i < 0
 ·rw [if_pos h0]
  have : i = -1 := by omega
  rw [this]; rfl
 ·rw [if_neg h0]
  have e : (num i.toNat == [45]) = false := by
   rw [beq_eq_false_iff_ne]
   intro e
   have := num_dig (n := i.toNat) (by omega) 45 (by rw [e]; simp)
   exact absurd this (by decide)
  rw [e, cond_false, rd_int (by omega)]
theorem own_sp : ∀ a ∈ ([111, 119, 110] : List UInt8), ¬ Sp a := by
 intro a ha
 unfold Sp
 simp only [List.mem_cons, List.not_mem_nil, or_false] at ha
 rcases ha with rfl | rfl | rfl <;> decide
theorem enemy_sp : ∀ a ∈ ([101, 110, 101, 109, 121] : List UInt8), ¬ Sp a := by
 intro a ha
 unfold Sp
 simp only [List.mem_cons, List.not_mem_nil, or_false] at ha
 rcases ha with rfl | rfl | rfl | rfl | rfl <;> decide
theorem unitOf_ln {b : TBoard} {w : List UInt8} {d : Int} {u : TUnit} (hu : UInf b u) (hd : u.Side = d) : unitOf b d [w, nam b u, place u.At, num u.Steps.toNat] = u := by
 unfold unitOf
 simp only [List.getD_cons_succ, List.getD_cons_zero]
 rw [hu.ki, lrd_place hu.at1, lrd_int hu.st, ← hd]
theorem rdF_own {b : TBoard} {r : List (List UInt8)} : ∀ (us : List TUnit) (x : RS), (∀ u ∈ us, UInf b u ∧ u.Side = x.1) → rdF b false (us.map (uln b [111, 119, 110]) ++ r) x = rdF b false r (x.1, x.2.1, x.2.2.1, x.2.2.2.1, x.2.2.2.2.1 ++ us, x.2.2.2.2.2)
 | [], x, _ => by simp
 | u :: us, x, h => by
  have hu := h u (by simp)
  rw [List.map_cons, List.cons_append, rdF, uln_seg own_sp hu.1]
  have e : stepW b false [[111, 119, 110], nam b u, place u.At, num u.Steps.toNat] x = (x.1, x.2.1, x.2.2.1, x.2.2.2.1, x.2.2.2.2.1 ++ [u], x.2.2.2.2.2) := by
   conv => rhs; rw [← unitOf_ln (w := [111, 119, 110]) hu.1 hu.2]
   rfl
  rw [e]
  have ih := rdF_own us (r := r) (x.1, x.2.1, x.2.2.1, x.2.2.2.1, x.2.2.2.2.1 ++ [u], x.2.2.2.2.2) (fun y hy => h y (by simp [hy]))
  simp only [List.append_assoc, List.singleton_append] at ih
  exact ih
theorem rdF_en {b : TBoard} {r : List (List UInt8)} : ∀ (us : List TUnit) (x : RS), (∀ u ∈ us, UInf b u ∧ u.Side = W (1 - x.1)) → rdF b false (us.map (uln b [101, 110, 101, 109, 121]) ++ r) x = rdF b false r (x.1, x.2.1, x.2.2.1, x.2.2.2.1, x.2.2.2.2.1, x.2.2.2.2.2 ++ us)
 | [], x, _ => by simp
 | u :: us, x, h => by
  have hu := h u (by simp)
  rw [List.map_cons, List.cons_append, rdF, uln_seg enemy_sp hu.1]
  have e : stepW b false [[101, 110, 101, 109, 121], nam b u, place u.At, num u.Steps.toNat] x = (x.1, x.2.1, x.2.2.1, x.2.2.2.1, x.2.2.2.2.1, x.2.2.2.2.2 ++ [u]) := by
   conv => rhs; rw [← unitOf_ln (w := [101, 110, 101, 109, 121]) hu.1 hu.2]
   rfl
  rw [e]
  have ih := rdF_en us (r := r) (x.1, x.2.1, x.2.2.1, x.2.2.2.1, x.2.2.2.2.1, x.2.2.2.2.2 ++ [u]) (fun y hy => h y (by simp [hy]))
  simp only [List.append_assoc, List.singleton_append] at ih
  exact ih
structure VInf (b : TBoard) (v : TView) : Prop where
 s : 0 ≤ v.Side ∧ v.Side ≤ 1
 t : 0 ≤ v.Turn ∧ v.Turn < 100
 w : 0 ≤ v.Weather ∧ v.Weather < 100
 n : ∀ x ∈ v.Seen, 0 ≤ x ∧ x < 100
 o : ∀ u ∈ v.Own, UInf b u ∧ u.Side = v.Side
 e : ∀ u ∈ v.Enemies, UInf b u ∧ u.Side = 1 - v.Side
theorem units_side {b : TBoard} {us : List TUnit} {d : Int} (h : pUnits b us d = true) : ∀ u ∈ us, u.Side = d := fun u hu => by
 obtain ⟨i, hi, rfl⟩ := List.getElem_of_mem hu
 unfold pUnits at h
 rw [allFrom_iff] at h
 have := h i (by omega) (by omega)
 simp only [Bool.and_eq_true, beq_iff_eq] at this
 simpa [List.getD, hi] using this.1
theorem vinf {b : TBoard} (hb : pBoard b = true) (q : smTBoard b) {v : TView} (hv : pView b v = true) : VInf b v := by
 have hT := (kinds_of hb).2.2.2.2.2
 obtain ⟨_, z2, z3⟩ := size_of hb
 unfold pView at hv
 simp only [Bool.and_eq_true, pIn_iff, List.all_eq_true, decide_eq_true_eq] at hv
 obtain ⟨a1, a2, a3, ⟨_, a4⟩, ⟨a5, a6⟩, ⟨a7, a8⟩, _⟩ := hv
 exact ⟨a1, by omega, by omega, fun x hx => by have := a4 x hx; omega, fun u hu => ⟨uinf hb q (units_mem a5 u hu), units_side a5 u hu⟩, fun u hu => ⟨uinf hb q (units_mem a7 u hu), units_side a7 u hu⟩⟩
theorem sel_sp {b : TBoard} {v : TView} (h : VInf b v) : ∀ a ∈ sel v, a ≠ 10 := by
 intro a ha
 unfold sel at ha
 rw [List.mem_append, List.mem_flatMap] at ha
 rcases ha with ha | ⟨n, hn, ha⟩
 ·simp only [List.mem_cons, List.not_mem_nil, or_false] at ha
  rcases ha with rfl | rfl | rfl | rfl <;> decide
 ·rcases List.mem_cons.1 ha with rfl | ha
  ·decide
  ·have := h.n n hn
   exact ns10 (num_sp (by omega)) a ha
theorem hdl_sp {b : TBoard} {v : TView} (h : VInf b v) : ∀ a ∈ hdl v, a ≠ 10 := by
 have h1 := h.s
 have h2 := h.t
 have h3 := h.w
 intro a ha
 unfold hdl at ha
 rw [List.mem_append] at ha
 rcases ha with ha | ha
 ·simp only [List.mem_cons, List.not_mem_nil, or_false] at ha
  rcases ha with rfl | rfl | rfl | rfl <;> decide
 rcases List.mem_cons.1 ha with rfl | ha
 ·decide
 rw [List.mem_append] at ha
 rcases ha with ha | ha
 ·exact ns10 (num_sp (by omega)) a ha
 rcases List.mem_cons.1 ha with rfl | ha
 ·decide
 rw [List.mem_append] at ha
 rcases ha with ha | ha
 ·simp only [List.mem_cons, List.not_mem_nil, or_false] at ha
  rcases ha with rfl | rfl | rfl | rfl <;> decide
 rcases List.mem_cons.1 ha with rfl | ha
 ·decide
 rw [List.mem_append] at ha
 rcases ha with ha | ha
 ·exact ns10 (num_sp (by omega)) a ha
 rcases List.mem_cons.1 ha with rfl | ha
 ·decide
 rw [List.mem_append] at ha
 rcases ha with ha | ha
 ·simp only [List.mem_cons, List.not_mem_nil, or_false] at ha
  rcases ha with rfl | rfl | rfl | rfl | rfl | rfl | rfl <;> decide
 rcases List.mem_cons.1 ha with rfl | ha
 ·decide
 exact ns10 (num_sp (by omega)) a ha
theorem hdl_seg {b : TBoard} {v : TView} (h : VInf b v) : seg 32 (hdl v) = [[115, 105, 100, 101], num v.Side.toNat, [116, 117, 114, 110], num v.Turn.toNat, [119, 101, 97, 116, 104, 101, 114], num v.Weather.toNat] := by
 have h1 := h.s
 have h2 := h.t
 have h3 := h.w
 unfold hdl
 rw [seg_cut (by decide), seg_cut (ns32 (num_sp (by omega))), seg_cut (by decide), seg_cut (ns32 (num_sp (by omega))), seg_cut (by decide), seg_none (ns32 (num_sp (by omega)))]
theorem sel_seg {b : TBoard} {v : TView} (h : VInf b v) : seg 32 (sel v) = [115, 101, 101, 110] :: v.Seen.map fun n => num n.toNat := seg_words _ _ (by decide) h.n
theorem text_seg {b : TBoard} {v : TView} (h : VInf b v) : seg 10 (text b v) = hdl v :: sel v :: (v.Own.map (uln b [111, 119, 110]) ++ (v.Enemies.map (uln b [101, 110, 101, 109, 121]) ++ [[]])) := by
 rw [text_lines, seg_cut (hdl_sp h), seg_cut (sel_sp h), seg_lines _ _ fun u hu => uln_no own_sp (h.o u hu).1, seg_lines _ _ fun u hu => uln_no enemy_sp (h.e u hu).1]
 rfl
theorem rd_text {b : TBoard} {v : TView} (h : VInf b v) : rdV b (text b v) = v := by
 have h1 := h.s
 have eW : W (1 - v.Side) = 1 - v.Side := W_of (by omega)
 unfold rdV
 rw [text_seg h, rdF, hdl_seg h, rdF, sel_seg h]
 have e1 : stepW b true [[115, 105, 100, 101], num v.Side.toNat, [116, 117, 114, 110], num v.Turn.toNat, [119, 101, 97, 116, 104, 101, 114], num v.Weather.toNat] rs0 = (v.Side, v.Turn, v.Weather, [], [], []) := by
  conv => rhs; rw [← lrd_int h.t, ← lrd_int h.w, ← lrd_int (i := v.Side) (by omega)]
  rfl
 have e2 : ∀ x : RS, stepW b false ([115, 101, 101, 110] :: v.Seen.map fun n => num n.toNat) x = (x.1, x.2.1, x.2.2.1, v.Seen, x.2.2.2.2.1, x.2.2.2.2.2) := fun x => by
  have e : (v.Seen.map fun n => num n.toNat).map lrd = v.Seen := by
   rw [List.map_map]
   conv => rhs; rw [← List.map_id v.Seen]
   exact List.map_congr_left fun n hn => lrd_int (h.n n hn)
  conv => rhs; rw [← e]
  rfl
 rw [e1, e2, rdF_own _ _ h.o, rdF_en _ _ (fun u hu => ⟨(h.e u hu).1, (h.e u hu).2.trans eW.symm⟩)]
 rfl
theorem lindex {c : UInt8} {r : List UInt8} : ∀ {w : List UInt8}, (∀ a ∈ w, a ≠ c) → Lib.indexByte (w ++ c :: r) c = (w.length : Int)
 | [], _ => by simp [Lib.indexByte]
 | a :: w, h => by
  have ih := lindex (r := r) (w := w) fun x hx => h x (by simp [hx])
  rw [List.cons_append, Lib.indexByte, if_neg (by simpa using h a (by simp)), ih]
  have : (((w.length : Nat) : Int) == -1) = false := by rw [beq_eq_false_iff_ne]; omega
  simp [this]
theorem lcut {w r : List UInt8} (h : ∀ a ∈ w, a ≠ 32) : Lib.cut (w ++ 32 :: r) [32] = (w, r, true) := by
 unfold Lib.cut
 rw [Lib.index_one, lindex h, if_pos (by omega), Int.toNat_natCast]
 have e1 : (w ++ 32 :: r).take w.length = w := by simp
 have e2 : (w ++ 32 :: r).drop (w.length + ([32] : List UInt8).length) = r := by
  have : w ++ 32 :: r = (w ++ [32]) ++ r := by simp
  rw [this]
  exact List.drop_left' (by simp)
 rw [e1, e2]
theorem iU_ln {b : TBoard} {d : Int} {u : TUnit} (hu : UInf b u) (hd : u.Side = d) (h0 : 0 ≤ d ∧ d < 100) : iU b ((Lib.itoa d ++ [32]) ++ (nam b u ++ 32 :: (place u.At ++ 32 :: num u.Steps.toNat))) = (u, true) := by
 have hs := hu.st
 have hi : Lib.itoa d = num d.toNat := by
  have := (num_int h0).2.1
  unfold X.x_strconv_Itoa at this
  rw [if_pos (by omega)] at this
  exact Option.some.inj this
 have es : seg 32 ((Lib.itoa d ++ [32]) ++ (nam b u ++ 32 :: (place u.At ++ 32 :: num u.Steps.toNat))) = [num d.toNat, nam b u, place u.At, num u.Steps.toNat] := by
  rw [hi, List.append_assoc, List.singleton_append, seg_cut (ns32 (num_sp (by omega))), seg_cut (ns32 hu.nm), seg_cut (ns32 hu.pl), seg_none (ns32 (num_sp (by omega)))]
 have e4 : iU b ((Lib.itoa d ++ [32]) ++ (nam b u ++ 32 :: (place u.At ++ 32 :: num u.Steps.toNat))) = iUw b [num d.toNat, nam b u, place u.At, num u.Steps.toNat] := by
  unfold iU; rw [es]; rfl
 rw [e4]
 unfold iUw
 simp only [List.getD_cons_succ, List.getD_cons_zero]
 rw [rd_int h0, rd_int hu.st, ipl_place hu.at1, hu.ki, ← hd]
 rfl
theorem iF_own {b : TBoard} {d : Int} (h0 : 0 ≤ d ∧ d < 100) {r : List (List UInt8)} : ∀ (us o e : List TUnit), (∀ u ∈ us, UInf b u ∧ u.Side = d) → iF b d (us.map (uln b [111, 119, 110]) ++ r) o e = iF b d r (o ++ us) e
 | [], o, e, _ => by simp
 | u :: us, o, e, h => by
  have hu := h u (by simp)
  have hc : Lib.cut (uln b [111, 119, 110] u) [32] = ([111, 119, 110], nam b u ++ 32 :: (place u.At ++ 32 :: num u.Steps.toNat), true) := lcut (by decide)
  have hl : iL b d (uln b [111, 119, 110] u) = (u, true) := by
   unfold iL; rw [hc]; exact iU_ln hu.1 hu.2 h0
  rw [List.map_cons, List.cons_append, iF, hl, hc]
  have ih := iF_own h0 us (o ++ [u]) e (r := r) fun y hy => h y (by simp [hy])
  rw [List.append_assoc, List.singleton_append] at ih
  exact ih
theorem iF_en {b : TBoard} {d : Int} (h0 : 0 ≤ d ∧ d ≤ 1) {r : List (List UInt8)} : ∀ (us o e : List TUnit), (∀ u ∈ us, UInf b u ∧ u.Side = 1 - d) → iF b d (us.map (uln b [101, 110, 101, 109, 121]) ++ r) o e = iF b d r o (e ++ us)
 | [], o, e, _ => by simp
 | u :: us, o, e, h => by
  have hu := h u (by simp)
  have eW : W (1 - d) = 1 - d := W_of (by omega)
  have hc : Lib.cut (uln b [101, 110, 101, 109, 121] u) [32] = ([101, 110, 101, 109, 121], nam b u ++ 32 :: (place u.At ++ 32 :: num u.Steps.toNat), true) := lcut (by decide)
  have hl : iL b d (uln b [101, 110, 101, 109, 121] u) = (u, true) := by
   unfold iL; rw [hc]
   show iU b ((Lib.itoa (W (1 - d)) ++ [32]) ++ _) = _
   rw [eW]
   exact iU_ln hu.1 hu.2 (by omega)
  rw [List.map_cons, List.cons_append, iF, hl, hc]
  have ih := iF_en h0 us o (e ++ [u]) (r := r) fun y hy => h y (by simp [hy])
  rw [List.append_assoc, List.singleton_append] at ih
  exact ih
theorem iW_num : ∀ (l : List Int), (∀ x ∈ l, 0 ≤ x ∧ x < 100) → iW (l.map fun n => num n.toNat) = some l
 | [], _ => rfl
 | n :: l, h => by
  rw [List.map_cons, iW, iW_num l fun x hx => h x (by simp [hx]), rd_int (h n (by simp))]
  rfl
theorem iP_text {b : TBoard} {v : TView} (h : VInf b v) : iP b (seg 10 (text b v)) (seg 32 ((seg 10 (text b v)).getD 0 zS)) = some v := by
 have h1 := h.s
 rw [text_seg h, List.getD_cons_zero, hdl_seg h]
 unfold iP rW
 simp only [List.getD_cons_succ, List.getD_cons_zero]
 rw [sel_seg h, rd_int h.t, rd_int h.w, rd_int (i := v.Side) (by omega)]
 have e3 : decide ((((hdl v :: sel v :: (v.Own.map (uln b [111, 119, 110]) ++ (v.Enemies.map (uln b [101, 110, 101, 109, 121]) ++ [[]]))).length : Nat) : Int) < 3) = false := by
  apply decide_eq_false
  simp only [List.length_cons, List.length_append, List.length_nil]
  omega
 have e4 : ((hdl v :: sel v :: (v.Own.map (uln b [111, 119, 110]) ++ (v.Enemies.map (uln b [101, 110, 101, 109, 121]) ++ [[]]))).drop 2).take ((hdl v :: sel v :: (v.Own.map (uln b [111, 119, 110]) ++ (v.Enemies.map (uln b [101, 110, 101, 109, 121]) ++ [[]]))).length - 1 - 2) = v.Own.map (uln b [111, 119, 110]) ++ (v.Enemies.map (uln b [101, 110, 101, 109, 121]) ++ []) := by
  rw [List.drop_succ_cons, List.drop_succ_cons, List.drop_zero, ← List.append_assoc, List.append_nil]
  exact List.take_left' (by simp)
 rw [e3, e4, iF_own (by omega) _ _ _ h.o, iF_en h1 _ _ _ h.e]
 have e5 : iW (([115, 101, 101, 110] :: v.Seen.map fun n => num n.toNat).drop 1) = some v.Seen := iW_num _ h.n
 rw [e5]
 rfl
theorem core (a0 : TBoard) (a1 : (List UInt8)) (k0 : okTBoard a0) (k1 : okS a1) (q0 : smTBoard a0) (q1 : a1.length ≤ SM ∧ ∀ x ∈ a1, True) : ∃ w, X.s_ParseReport a0 a1 = some w ∧ X.i_ParseReport a0 a1 = some w ∧ smTView w.1 := by
 have hm := mL
 have hl : a1.length ≤ 1048576 := q1.1
 have kl : a0.Rules.Kinds.length ≤ maxLen := by
  have h : a0.Rules.Kinds.length ≤ 1048576 := q0.1.2.1.1
  omega
 have hz : smTView zV := ⟨trivI _, trivI _, trivI _, ⟨by decide, fun x _ => trivI x⟩, ⟨by decide, fun x _ => trivTUnit x⟩, ⟨by decide, fun x _ => trivTUnit x⟩, trivial⟩
 cases hb : pBoard a0
 ·refine ⟨(zV, false), ?_, ?_, hz⟩
  ·unfold X.s_ParseReport; rw [(board_eq a0 q0).1, hb]; rfl
  ·have s3 : 1 ≤ (seg 10 a1).length := List.length_pos_iff.2 (seg_ne 10 a1)
   have b0 : at' zS (seg 10 a1) 0 = some ((seg 10 a1).getD 0 zS) := at_lit 0 rfl s3
   have hp : ((seg 10 a1).getD 0 zS).length ≤ a1.length := seg_mem (getD_mem s3)
   unfold X.i_ParseReport
   rw [split_eq 10 (by omega)]
   simp only [obs, b0]
   rw [split_eq 32 (by omega)]
   simp only [obs, (board_eq a0 q0).2, hb]
   rfl
 ·have hr : smTView (rdV a0 a1) := rdV_sm hl
  have hs : X.s_ParseReport a0 a1 = some (iO a0 a1 (some (rdV a0 a1))) := by
   unfold X.s_ParseReport
   simp only [(board_eq a0 q0).1, hb, obs, Bool.not_true, cond_false, yRead_eq kl hl, (view_eq hb _ hr).1]
   simp only [iO]
   cases hv : pView a0 (rdV a0 a1)
   ·rfl
   ·simp only [(text_view hb q0 hv hr.2.2.2.1.1).1, obs, Bool.not_true, cond_false, cond_true]
    cases (text a0 (rdV a0 a1) == a1) <;> rfl
  have key : iO a0 a1 (iP a0 (seg 10 a1) (seg 32 ((seg 10 a1).getD 0 zS))) = iO a0 a1 (some (rdV a0 a1)) := by
   by_cases hx : ∃ v, pView a0 v = true ∧ text a0 v = a1
   ·obtain ⟨v, hv, rfl⟩ := hx
    rw [iP_text (vinf hb q0 hv), rd_text (vinf hb q0 hv)]
   ·have no : ∀ o, iO a0 a1 o = (zV, false) := by
     intro o
     cases o with
     | none => rfl
     | some v =>
      unfold iO
      simp only
      cases hv : pView a0 v
      ·rfl
      ·cases ht : (text a0 v == a1)
       ·rfl
       ·exact absurd ⟨v, hv, eq_of_beq ht⟩ hx
    rw [no, no]
  refine ⟨_, hs, by rw [parse_eq hb q0 hl, key], ?_⟩
  unfold iO
  simp only
  cases pView a0 (rdV a0 a1)
  ·exact hz
  ·cases (text a0 (rdV a0 a1) == a1)
   ·exact hz
   ·exact hr
theorem law (a0 : TBoard) (a1 : (List UInt8)) (k0 : okTBoard a0) (k1 : okS a1) : X.l_FnExactParseReport a0 a1 = some true := by
 unfold X.l_FnExactParseReport
 refine law_len fun q1 => ?_
 refine law_sz (l_szBoard_sz a0 k0 1048576 (by unfold SM; omega)) (by unfold SM; omega) fun r2 g2 q2 => ?_
 obtain ⟨w, hs, hi, hw⟩ := core a0 a1 k0 k1 q2 ⟨q1, fun _ _ => trivial⟩
 obtain ⟨mk1, ek1, bk1, ck1⟩ := mkBoard_L (x := a0) q2 1 (by omega) (by omega)
 have zk : decide (mk1 < 0) = false := decide_eq_false (by omega)
 obtain ⟨r1m, y1m, em1, el1, eh1, bm1, cm1⟩ := mhView (hw) 1 (by omega) (by omega)
 have zm1 : decide (r1m < 0) = false := decide_eq_false (by omega)
 simp [l_toBoard_eq a0 q2, l_eqBoard_eq a0 q2, hs, hi, ek1, zk, em1, el1, eh1, zm1, l_eqView_eq (w.1) (hw)]
end Go.Proofs.YtjlabdoeiphegaaGreatDoor.X0
