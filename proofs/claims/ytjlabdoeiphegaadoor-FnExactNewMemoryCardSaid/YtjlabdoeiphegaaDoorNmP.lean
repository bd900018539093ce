/- The plain law behind FnExactNewMemory, for arguments that a machine can hold. -/
import Derived.Test.YtjlabdoeiphegaaDoorNmWb
import Derived.Test.YtjlabdoeiphegaaDoorAmCore3
set_option linter.unusedVariables false
set_option linter.unusedSimpArgs false
set_option maxRecDepth 100000
namespace Go.Proofs.YtjlabdoeiphegaaDoor.X0
open Go Go.Proofs.YtjlabdoeiphegaaDoor.Ab
theorem obs {α β : Type} (a : α) (f : α → Option β) : (some a).bind f = f a := rfl
abbrev okLI (x : (List Int)) : Prop := okL okI x
abbrev smLI (x : (List Int)) : Prop := smL smI x
theorem l_szIntS_sz (x : (List Int)) (h : okLI x) : SzOk X.l_szIntS smLI x := szS_ok h.1 fun y _ => trivI y
theorem l_toIntS_eq (x : (List Int)) (h : smLI x) : X.l_toIntS x = some x := (toL_eq (z := zI) (f := some) h.1 fun _ _ => rfl : _)
theorem l_eqIntS_eq (x : (List Int)) (h : smLI x) : X.l_eqIntS x x = some true := (eqL_self (z := zI) (f := fun a b => some (a == b)) h.1 fun x _ => by simp : _)
abbrev okTTerrain (x : TTerrain) : Prop := okS x.Name ∧ okLI x.Cost ∧ okI x.Shift ∧ okI x.Height ∧ okB x.Blocks ∧ True
abbrev smTTerrain (x : TTerrain) : Prop := smS x.Name ∧ smLI x.Cost ∧ smI x.Shift ∧ smI x.Height ∧ smB x.Blocks ∧ True
theorem l_szTerrain_sz (x : TTerrain) (h : okTTerrain x) : SzOk X.l_szTerrain smTTerrain x := by
 intro n hn
 unfold X.l_szTerrain
 obtain ⟨r1, e1, l1, f1⟩ := len_cases (xs := x.Name) (h.1) hn
 rw [e1]
 refine szr_bif f1 l1 fun g1 q1 => ?_
 refine szr_step (l_szIntS_sz x.Cost (h.2.1) r1 g1) g1 fun r2 g2 q2 => ?_
 exact szr_last g2 ⟨q1, q2, trivI x.Shift, trivI x.Height, trivB x.Blocks, trivial⟩
theorem l_toTerrain_eq (x : TTerrain) (h : smTTerrain x) : X.l_toTerrain x = some x := by
 unfold X.l_toTerrain
 rw [l_toIntS_eq x.Cost (h.2.1)]; rfl
theorem l_eqTerrain_eq (x : TTerrain) (h : smTTerrain x) : X.l_eqTerrain x x = some true := by
 unfold X.l_eqTerrain
 simp [l_eqIntS_eq x.Cost (h.2.1)]
abbrev okLTTerrain (x : (List TTerrain)) : Prop := okL okTTerrain x
abbrev smLTTerrain (x : (List TTerrain)) : Prop := smL smTTerrain x
theorem l_szTerrainS_sz (x : (List TTerrain)) (h : okLTTerrain x) : SzOk X.l_szTerrainS smLTTerrain x := szL_ok (z := zTTerrain) (f := X.l_szTerrain) h.1 fun y hy => l_szTerrain_sz y (h.2 y hy)
theorem l_toTerrainS_eq (x : (List TTerrain)) (h : smLTTerrain x) : X.l_toTerrainS x = some x := toL_eq (z := zTTerrain) (f := X.l_toTerrain) h.1 fun y hy => l_toTerrain_eq y (h.2 y hy)
theorem l_eqTerrainS_eq (x : (List TTerrain)) (h : smLTTerrain x) : X.l_eqTerrainS x x = some true := eqL_self (z := zTTerrain) (f := X.l_eqTerrain) h.1 fun y hy => l_eqTerrain_eq y (h.2 y hy)
abbrev okTKind (x : TKind) : Prop := okS x.Name ∧ okI x.Strength ∧ okI x.Moves ∧ okI x.Steps ∧ okB x.Zone ∧ okI x.View ∧ True
abbrev smTKind (x : TKind) : Prop := smS x.Name ∧ smI x.Strength ∧ smI x.Moves ∧ smI x.Steps ∧ smB x.Zone ∧ smI x.View ∧ True
theorem l_szKind_sz (x : TKind) (h : okTKind x) : SzOk X.l_szKind smTKind x := by
 intro n hn
 unfold X.l_szKind
 obtain ⟨r1, e1, l1, f1⟩ := len_cases (xs := x.Name) (h.1) hn
 rw [e1]
 refine szr_bif f1 l1 fun g1 q1 => ?_
 exact szr_last g1 ⟨q1, trivI x.Strength, trivI x.Moves, trivI x.Steps, trivB x.Zone, trivI x.View, trivial⟩
theorem l_toKind_eq (x : TKind) (h : smTKind x) : X.l_toKind x = some x := by
 unfold X.l_toKind
 rfl
theorem l_eqKind_eq (x : TKind) (h : smTKind x) : X.l_eqKind x x = some true := by
 unfold X.l_eqKind
 simp []
abbrev okLTKind (x : (List TKind)) : Prop := okL okTKind x
abbrev smLTKind (x : (List TKind)) : Prop := smL smTKind x
theorem l_szKindS_sz (x : (List TKind)) (h : okLTKind x) : SzOk X.l_szKindS smLTKind x := szL_ok (z := zTKind) (f := X.l_szKind) h.1 fun y hy => l_szKind_sz y (h.2 y hy)
theorem l_toKindS_eq (x : (List TKind)) (h : smLTKind x) : X.l_toKindS x = some x := toL_eq (z := zTKind) (f := X.l_toKind) h.1 fun y hy => l_toKind_eq y (h.2 y hy)
theorem l_eqKindS_eq (x : (List TKind)) (h : smLTKind x) : X.l_eqKindS x x = some true := eqL_self (z := zTKind) (f := X.l_eqKind) h.1 fun y hy => l_eqKind_eq y (h.2 y hy)
abbrev okTRules (x : TRules) : Prop := okLTTerrain x.Terrains ∧ okLTKind x.Kinds ∧ okI x.Stack ∧ okI x.River ∧ okI x.Road ∧ okI x.Supply ∧ okI x.Turns ∧ True
abbrev smTRules (x : TRules) : Prop := smLTTerrain x.Terrains ∧ smLTKind x.Kinds ∧ smI x.Stack ∧ smI x.River ∧ smI x.Road ∧ smI x.Supply ∧ smI x.Turns ∧ True
theorem l_szRules_sz (x : TRules) (h : okTRules x) : SzOk X.l_szRules smTRules x := by
 intro n hn
 unfold X.l_szRules
 refine szr_step (l_szTerrainS_sz x.Terrains (h.1) n hn) hn fun r1 g1 q1 => ?_
 refine szr_step (l_szKindS_sz x.Kinds (h.2.1) r1 g1) g1 fun r2 g2 q2 => ?_
 exact szr_last g2 ⟨q1, q2, trivI x.Stack, trivI x.River, trivI x.Road, trivI x.Supply, trivI x.Turns, trivial⟩
theorem l_toRules_eq (x : TRules) (h : smTRules x) : X.l_toRules x = some x := by
 unfold X.l_toRules
 simp only [l_toTerrainS_eq x.Terrains (h.1), l_toKindS_eq x.Kinds (h.2.1), obs]
theorem l_eqRules_eq (x : TRules) (h : smTRules x) : X.l_eqRules x x = some true := by
 unfold X.l_eqRules
 simp [l_eqTerrainS_eq x.Terrains (h.1), l_eqKindS_eq x.Kinds (h.2.1)]
abbrev okTMap (x : TMap) : Prop := okI x.Width ∧ okI x.Height ∧ okLI x.Terrain ∧ okLI x.Rivers ∧ okLI x.Roads ∧ True
abbrev smTMap (x : TMap) : Prop := smI x.Width ∧ smI x.Height ∧ smLI x.Terrain ∧ smLI x.Rivers ∧ smLI x.Roads ∧ True
theorem l_szMap_sz (x : TMap) (h : okTMap x) : SzOk X.l_szMap smTMap x := by
 intro n hn
 unfold X.l_szMap
 refine szr_step (l_szIntS_sz x.Terrain (h.2.2.1) n hn) hn fun r1 g1 q1 => ?_
 refine szr_step (l_szIntS_sz x.Rivers (h.2.2.2.1) r1 g1) g1 fun r2 g2 q2 => ?_
 refine szr_step (l_szIntS_sz x.Roads (h.2.2.2.2.1) r2 g2) g2 fun r3 g3 q3 => ?_
 exact szr_last g3 ⟨trivI x.Width, trivI x.Height, q1, q2, q3, trivial⟩
theorem l_toMap_eq (x : TMap) (h : smTMap x) : X.l_toMap x = some x := by
 unfold X.l_toMap
 simp only [l_toIntS_eq x.Terrain (h.2.2.1), l_toIntS_eq x.Rivers (h.2.2.2.1), l_toIntS_eq x.Roads (h.2.2.2.2.1), obs]
theorem l_eqMap_eq (x : TMap) (h : smTMap x) : X.l_eqMap x x = some true := by
 unfold X.l_eqMap
 simp [l_eqIntS_eq x.Terrain (h.2.2.1), l_eqIntS_eq x.Rivers (h.2.2.2.1), l_eqIntS_eq x.Roads (h.2.2.2.2.1)]
abbrev okTBoard (x : TBoard) : Prop := okTRules x.Rules ∧ okTMap x.Map ∧ True
abbrev smTBoard (x : TBoard) : Prop := smTRules x.Rules ∧ smTMap x.Map ∧ True
theorem l_szBoard_sz (x : TBoard) (h : okTBoard x) : SzOk X.l_szBoard smTBoard x := by
 intro n hn
 unfold X.l_szBoard
 refine szr_step (l_szRules_sz x.Rules (h.1) n hn) hn fun r1 g1 q1 => ?_
 refine szr_step (l_szMap_sz x.Map (h.2.1) r1 g1) g1 fun r2 g2 q2 => ?_
 exact szr_last g2 ⟨q1, q2, trivial⟩
theorem l_toBoard_eq (x : TBoard) (h : smTBoard x) : X.l_toBoard x = some x := by
 unfold X.l_toBoard
 simp only [l_toRules_eq x.Rules (h.1), l_toMap_eq x.Map (h.2.1), obs]
theorem l_eqBoard_eq (x : TBoard) (h : smTBoard x) : X.l_eqBoard x x = some true := by
 unfold X.l_eqBoard
 simp [l_eqRules_eq x.Rules (h.1), l_eqMap_eq x.Map (h.2.1)]
abbrev smTMemory (x : TMemory) : Prop := smLI x.Turns ∧ smLI x.Counts ∧ True
theorem l_eqMemory_eq (x : TMemory) (h : smTMemory x) : X.l_eqMemory x x = some true := by
 unfold X.l_eqMemory
 simp [l_eqIntS_eq x.Turns (h.1), l_eqIntS_eq x.Counts (h.2.1)]
end Go.Proofs.YtjlabdoeiphegaaDoor.X0

set_option maxRecDepth 100000
namespace Go.Proofs.YtjlabdoeiphegaaDoor.X0
open Go Go.Proofs.YtjlabdoeiphegaaDoor.Ab
theorem s_l1In_eq (n lo hi : Int) : X.s_l1In n lo hi = some (decide (lo ≤ n) && decide (n ≤ hi)) := by
 unfold X.s_l1In
 by_cases h : lo ≤ n
 ·simp [h]
 ·simp [h]
theorem i_inRange_eq (n lo hi : Int) : X.i_inRange n lo hi = some (decide (lo ≤ n) && decide (n ≤ hi)) := by
 unfold X.i_inRange
 by_cases h : lo ≤ n
 ·simp [h]
 ·simp [h]
theorem s_l1All_eq (xs : List Int) (lo hi : Int) (hl : xs.length ≤ SM) : X.s_l1All xs lo hi = some (xs.all fun x => decide (lo ≤ x) && decide (x ≤ hi)) := by
 unfold SM at hl
 unfold X.s_l1All
 rw [run_all xs (fun x => decide (lo ≤ x) && decide (x ≤ hi)) (.inr false) (.inl ()) rfl ?_ ?_]
 ·cases xs.all fun x => decide (lo ≤ x) && decide (x ≤ hi) <;> rfl
 ·intro k hk
  have hk' : (k : Int) < xs.length := by omega
  simp only [hk', decide_true, cond_true, at_nat hk, obs, s_l1In_eq, W_up hk (show xs.length ≤ maxLen from Nat.le_trans hl (by decide))]
  cases (decide (lo ≤ xs[k]) && decide (xs[k] ≤ hi)) <;> simp
 ·simp
def pIn (n lo hi : Int) : Bool := decide (lo ≤ n) && decide (n ≤ hi)
theorem s_in (n lo hi : Int) : X.s_l1In n lo hi = some (pIn n lo hi) := s_l1In_eq n lo hi
theorem i_in (n lo hi : Int) : X.i_inRange n lo hi = some (pIn n lo hi) := i_inRange_eq n lo hi
theorem pIn_iff {n lo hi : Int} : pIn n lo hi = true ↔ lo ≤ n ∧ n ≤ hi := by simp [pIn]
theorem mL : maxLen = 9223372036854775807 := by decide
theorem s_all (xs : List Int) (lo hi : Int) (hl : xs.length ≤ SM) : X.s_l1All xs lo hi = some (xs.all fun x => pIn x lo hi) := s_l1All_eq xs lo hi hl
noncomputable def pName (s : List UInt8) : Bool := (X.s_rName s).getD false
theorem name_eq (s : List UInt8) (h : s.length ≤ maxLen) : X.s_rName s = some (pName s) ∧ X.i_isName s = some (pName s) := by
 have e : X.i_isName s = X.s_rName s := by
  unfold X.i_isName X.s_rName
  simp only [i_in, s_in]
 have hs : ∃ b, X.s_rName s = some b := by
  unfold X.s_rName
  rw [run_allN s.length (fun k => !(decide ((((s.getD k 0).toNat : Nat) : Int) < 97)) && !(decide ((((s.getD k 0).toNat : Nat) : Int) > 122))) (.inr false) (.inl ()) ?_ ?_]
  ·cases allFrom s.length 0 _
   ·exact ⟨_, rfl⟩
   ·simp only [cond_true, Sum.elim_inl, s_in, obs]; exact ⟨_, rfl⟩
  ·intro k hk
   have h1 : 0 ≤ (k : Int) ∧ (k : Int) < (s.length : Int) := by omega
   simp only [lt_cast hk, cond_true, if_pos h1, W_up hk h, Int.toNat_natCast]
   cases decide ((((s.getD k 0).toNat : Nat) : Int) < 97) <;> cases decide ((((s.getD k 0).toNat : Nat) : Int) > 122) <;> rfl
  ·simp only [nlt_self, cond_false]
 obtain ⟨b, hb⟩ := hs
 have hp : X.s_rName s = some (pName s) := by unfold pName; rw [hb]; rfl
 exact ⟨hp, e.trans hp⟩
noncomputable def pTI (xs : List TTerrain) (s : List UInt8) : Int := (X.s_rTerrain xs s).getD 0
noncomputable def pKI (xs : List TKind) (s : List UInt8) : Int := (X.s_rKind xs s).getD 0
theorem ti_eq (xs : List TTerrain) (s : List UInt8) (h : xs.length ≤ maxLen) : X.s_rTerrain xs s = some (pTI xs s) ∧ X.i_terrainIndex xs s = some (pTI xs s) := by
 have e : X.s_rTerrain xs s = idxF zTTerrain (fun v => some (v.Name == s)) xs := rfl
 obtain ⟨i, h1, _⟩ := idxF_ok (z := zTTerrain) (f := fun v => some (v.Name == s)) (p := fun v => v.Name == s) (xs := xs) h (fun _ _ => rfl)
 have hp : X.s_rTerrain xs s = some (pTI xs s) := by unfold pTI; rw [e, h1]; rfl
 refine ⟨hp, ?_⟩
 have e2 : X.i_terrainIndex xs s = (idxF zTTerrain (fun v => some (v.Name == s)) xs).bind some := rfl
 rw [e2, ← e, hp]; rfl
theorem ki_eq (xs : List TKind) (s : List UInt8) (h : xs.length ≤ maxLen) : X.s_rKind xs s = some (pKI xs s) ∧ X.i_kindIndex xs s = some (pKI xs s) := by
 have e : X.s_rKind xs s = idxF zTKind (fun v => some (v.Name == s)) xs := rfl
 obtain ⟨i, h1, _⟩ := idxF_ok (z := zTKind) (f := fun v => some (v.Name == s)) (p := fun v => v.Name == s) (xs := xs) h (fun _ _ => rfl)
 have hp : X.s_rKind xs s = some (pKI xs s) := by unfold pKI; rw [e, h1]; rfl
 refine ⟨hp, ?_⟩
 have e2 : X.i_kindIndex xs s = (idxF zTKind (fun v => some (v.Name == s)) xs).bind some := rfl
 rw [e2, ← e, hp]; rfl
noncomputable def qT (r : TRules) (k : Nat) : Bool :=
 let t := r.Terrains.getD k zTTerrain
 pName t.Name && ((pTI r.Terrains t.Name == (k : Int)) && (((t.Cost.length : Int) == (r.Kinds.length : Int)) && ((t.Cost.all fun x => pIn x 0 9) && (pIn t.Shift (-3) 3 && pIn t.Height 0 3))))
noncomputable def qK (r : TRules) (k : Nat) : Bool :=
 let t := r.Kinds.getD k zTKind
 pName t.Name && ((pKI r.Kinds t.Name == (k : Int)) && (pIn t.Strength 1 9 && (pIn t.Moves 0 9 && (pIn t.Steps 1 4 && pIn t.View 0 4))))
noncomputable def pRules (r : TRules) : Bool :=
 pIn (r.Terrains.length : Int) 1 6 && (pIn (r.Kinds.length : Int) 1 4 && (allFrom r.Terrains.length 0 (qT r) && (allFrom r.Kinds.length 0 (qK r) && (pIn r.Stack 1 4 && (pIn r.River 0 9 && (pIn r.Road 1 9 && (pIn r.Supply 0 20 && pIn r.Turns 1 30)))))))
theorem costs_eq (xs : List Int) (h : xs.length ≤ SM) : X.g_ContainsFunc_int xs (fun q0 => X.i_goodTerrain_1 q0) = some (!(xs.all fun x => pIn x 0 9)) := by
 have hm := mL
 have := hasF_eq (z := zI) (f := fun q0 => X.i_goodTerrain_1 q0) (p := fun x => !(pIn x 0 9)) (xs := xs) (by unfold SM at h; omega) (fun x _ => by unfold X.i_goodTerrain_1; rw [i_in]; rfl)
 rw [List.not_all_eq_any_not]
 exact this
theorem getD_mem {α : Type} {xs : List α} {k : Nat} {z : α} (h : k < xs.length) : xs.getD k z ∈ xs := by
 have : xs.getD k z = xs[k] := by simp [List.getD, h]
 rw [this]; exact List.getElem_mem h
theorem rules_eq (r : TRules) (q : smTRules r) : X.s_rGood r = some (pRules r) ∧ X.i_IsRules r = some (pRules r) := by
 have hm := mL
 have hT : r.Terrains.length ≤ maxLen := by have := q.1.1; unfold SM at this; omega
 have hK : r.Kinds.length ≤ maxLen := by have := q.2.1.1; unfold SM at this; omega
 have hTn : ∀ k, k < r.Terrains.length → (r.Terrains.getD k zTTerrain).Name.length ≤ maxLen ∧ (r.Terrains.getD k zTTerrain).Cost.length ≤ SM := fun k hk => by
  have := q.1.2 _ (getD_mem (z := zTTerrain) hk)
  exact ⟨by have := this.1; unfold smS SM at this; omega, this.2.1.1⟩
 have hKn : ∀ k, k < r.Kinds.length → (r.Kinds.getD k zTKind).Name.length ≤ maxLen := fun k hk => by
  have := (q.2.1.2 _ (getD_mem (z := zTKind) hk)).1
  unfold smS SM at this; omega
 constructor
 ·unfold X.s_rGood pRules
  simp only [s_in, obs, bif_not]
  cases pIn (r.Terrains.length : Int) 1 6
  ·rfl
  cases pIn (r.Kinds.length : Int) 1 4
  ·rfl
  simp only [cond_true, Bool.true_and]
  rw [run_allN r.Terrains.length (qT r) (.inr false) (.inl ()) ?_ ?_]
  ·cases allFrom r.Terrains.length 0 (qT r)
   ·rfl
   simp only [cond_true, Sum.elim_inl, Bool.true_and]
   rw [run_allN r.Kinds.length (qK r) (.inr false) (.inl ()) ?_ ?_]
   ·cases allFrom r.Kinds.length 0 (qK r)
    ·rfl
    simp only [cond_true, Sum.elim_inl, Bool.true_and]
    cases pIn r.Stack 1 4 <;> cases pIn r.River 0 9 <;> cases pIn r.Road 1 9 <;> cases pIn r.Supply 0 20 <;> rfl
   ·intro k hk
    simp only [lt_cast hk, cond_true, at_getD hk, obs, (name_eq _ (hKn k hk)).1, (ki_eq _ _ hK).1, W_up hk hK, qK]
    cases pName (r.Kinds.getD k zTKind).Name
    ·rfl
    cases h : pKI r.Kinds (r.Kinds.getD k zTKind).Name == (k : Int)
    ·simp only [bne, h]; rfl
    simp only [bne, h, Bool.not_true, cond_false, cond_true, Bool.true_and]
    cases pIn (r.Kinds.getD k zTKind).Strength 1 9 <;> cases pIn (r.Kinds.getD k zTKind).Moves 0 9 <;> cases pIn (r.Kinds.getD k zTKind).Steps 1 4 <;> cases pIn (r.Kinds.getD k zTKind).View 0 4 <;> rfl
   ·simp only [nlt_self, cond_false]
  ·intro k hk
   simp only [lt_cast hk, cond_true, at_getD hk, obs, (name_eq _ (hTn k hk).1).1, (ti_eq _ _ hT).1, s_all _ _ _ (hTn k hk).2, W_up hk hT, qT]
   cases pName (r.Terrains.getD k zTTerrain).Name
   ·rfl
   cases h : pTI r.Terrains (r.Terrains.getD k zTTerrain).Name == (k : Int)
   ·simp only [bne, h]; rfl
   cases h2 : ((r.Terrains.getD k zTTerrain).Cost.length : Int) == (r.Kinds.length : Int)
   ·simp only [bne, h, h2]; rfl
   simp only [bne, h, h2, Bool.not_true, cond_false, cond_true, Bool.true_and]
   cases ((r.Terrains.getD k zTTerrain).Cost.all fun x => pIn x 0 9) <;> cases pIn (r.Terrains.getD k zTTerrain).Shift (-3) 3 <;> cases pIn (r.Terrains.getD k zTTerrain).Height 0 3 <;> rfl
  ·simp only [nlt_self, cond_false]
 ·unfold X.i_IsRules pRules
  simp only [i_in, obs, bif_not]
  cases pIn (r.Terrains.length : Int) 1 6
  ·rfl
  cases pIn (r.Kinds.length : Int) 1 4
  ·rfl
  simp only [cond_true, Bool.true_and]
  rw [run_allN r.Terrains.length (qT r) (.inr false) (.inl ()) ?_ ?_]
  ·cases allFrom r.Terrains.length 0 (qT r)
   ·rfl
   simp only [cond_true, Sum.elim_inl, Bool.true_and]
   rw [run_allN r.Kinds.length (qK r) (.inr false) (.inl ()) ?_ ?_]
   ·cases allFrom r.Kinds.length 0 (qK r)
    ·rfl
    simp only [cond_true, Sum.elim_inl, Bool.true_and]
    cases pIn r.Stack 1 4 <;> cases pIn r.River 0 9 <;> cases pIn r.Road 1 9 <;> cases pIn r.Supply 0 20 <;> rfl
   ·intro k hk
    simp only [lt_cast hk, cond_true, at_getD hk, obs, X.i_goodKind, i_in, (name_eq _ (hKn k hk)).2, (ki_eq _ _ hK).2, W_up hk hK, qK]
    cases pName (r.Kinds.getD k zTKind).Name
    ·rfl
    cases h : pKI r.Kinds (r.Kinds.getD k zTKind).Name == (k : Int) <;> simp only [bne, h] <;>
    cases pIn (r.Kinds.getD k zTKind).Strength 1 9 <;> cases pIn (r.Kinds.getD k zTKind).Moves 0 9 <;> cases pIn (r.Kinds.getD k zTKind).Steps 1 4 <;> cases pIn (r.Kinds.getD k zTKind).View 0 4 <;> rfl
   ·simp only [nlt_self, cond_false]
  ·intro k hk
   simp only [lt_cast hk, cond_true, at_getD hk, obs, X.i_goodTerrain, i_in, (name_eq _ (hTn k hk).1).2, (ti_eq _ _ hT).2, costs_eq _ (hTn k hk).2, W_up hk hT, qT]
   cases pName (r.Terrains.getD k zTTerrain).Name
   ·rfl
   cases h2 : ((r.Terrains.getD k zTTerrain).Cost.length : Int) == (r.Kinds.length : Int)
   ·simp only [bne, h2]; cases (pTI r.Terrains (r.Terrains.getD k zTTerrain).Name == (k : Int)) <;> rfl
   cases h : pTI r.Terrains (r.Terrains.getD k zTTerrain).Name == (k : Int) <;> simp only [bne, h, h2, Bool.not_true, cond_false, cond_true, Bool.true_and] <;>
   cases ((r.Terrains.getD k zTTerrain).Cost.all fun x => pIn x 0 9) <;> cases pIn (r.Terrains.getD k zTTerrain).Shift (-3) 3 <;> cases pIn (r.Terrains.getD k zTTerrain).Height 0 3 <;> rfl
  ·simp only [nlt_self, cond_false]
def dQ : List Int := [1, 1, 0, -1, -1, 0]
def dR : List Int := [0, -1, -1, 0, 1, 1]
def okSides (m : TMap) : Prop := 1 ≤ m.Width ∧ m.Width ≤ 10 ∧ 1 ≤ m.Height ∧ m.Height ≤ 10
def pIdx (m : TMap) (a b : Int) : Int := bif pIn a 0 (m.Width - 1) && pIn b 0 (m.Height - 1) then b * m.Width + a else -1
def pNext (m : TMap) (i : Int) (d : Int) : Int := pIdx m (i % m.Width + dQ.getD d.toNat 0) (i / m.Width + dR.getD d.toNat 0)
theorem size_eq (m : TMap) (h : okSides m) : W (m.Width * m.Height) = m.Width * m.Height ∧ 1 ≤ m.Width * m.Height ∧ m.Width * m.Height ≤ 100 := by
 obtain ⟨h1, h2, h3, h4⟩ := h
 have a : 1 * 1 ≤ m.Width * m.Height := Int.mul_le_mul h1 h3 (by omega) (by omega)
 have b : m.Width * m.Height ≤ 10 * 10 := Int.mul_le_mul h2 h4 (by omega) (by omega)
 exact ⟨W_of (by omega), by omega, by omega⟩
theorem tmod_nn {a b : Int} (ha : 0 ≤ a) (hb : 1 ≤ b) : Int.tmod a b = a % b := Int.tmod_eq_emod_of_nonneg ha
theorem tdiv_nn {a b : Int} (ha : 0 ≤ a) : Int.tdiv a b = a / b := Int.tdiv_eq_ediv_of_nonneg ha
theorem idx_eq (m : TMap) (h : okSides m) (a b : Int) : X.s_mIndex m ⟨a, b⟩ = some (pIdx m a b) ∧ X.i_indexOf m ⟨a, b⟩ = some (pIdx m a b) := by
 have hw := h
 obtain ⟨h1, h2, h3, h4⟩ := h
 unfold X.s_mIndex X.i_indexOf X.i_isIndex pIdx
 simp only [s_in, i_in, obs]
 rw [W_of (n := m.Width - 1) (by omega), W_of (n := m.Height - 1) (by omega)]
 cases ha : pIn a 0 (m.Width - 1)
 ·exact ⟨rfl, rfl⟩
 cases hb : pIn b 0 (m.Height - 1)
 ·exact ⟨rfl, rfl⟩
 simp only [Bool.not_true, cond_false, Bool.and_self, cond_true]
 rw [pIn_iff] at ha hb
 have e1 : 0 * 1 ≤ b * m.Width := Int.mul_le_mul (by omega) (by omega) (by omega) (by omega)
 have e2 : b * m.Width ≤ 10 * 10 := Int.mul_le_mul (by omega) (by omega) (by omega) (by omega)
 rw [W_of (n := b * m.Width) (by omega), W_of (by omega)]
 exact ⟨rfl, rfl⟩
theorem dirs_getD (d : Nat) (h : d < 6) : dirs.getD d zTHex = ⟨dQ.getD d 0, dR.getD d 0⟩ ∧ -1 ≤ dQ.getD d 0 ∧ dQ.getD d 0 ≤ 1 ∧ -1 ≤ dR.getD d 0 ∧ dR.getD d 0 ≤ 1 := by
 match d, h with
 | 0, _ => exact ⟨rfl, by decide⟩
 | 1, _ => exact ⟨rfl, by decide⟩
 | 2, _ => exact ⟨rfl, by decide⟩
 | 3, _ => exact ⟨rfl, by decide⟩
 | 4, _ => exact ⟨rfl, by decide⟩
 | 5, _ => exact ⟨rfl, by decide⟩
theorem next_eq (m : TMap) (h : okSides m) (i d : Int) (hi : 0 ≤ i ∧ i < 4611686018427387904) (hd : 0 ≤ d ∧ d < 6) : X.s_mNext m i d = some (pNext m i d) ∧ X.i_nextTo m i d = some (pNext m i d) := by
 have hw := h
 obtain ⟨h1, h2, h3, h4⟩ := h
 obtain ⟨k, rfl⟩ := Int.eq_ofNat_of_zero_le hd.1
 have hk : k < 6 := by omega
 obtain ⟨g0, g1, g2, g3, g4⟩ := dirs_getD k hk
 have hne : m.Width ≠ 0 := by omega
 have hm1 : 0 ≤ i % m.Width := Int.emod_nonneg _ hne
 have hm2 : i % m.Width < m.Width := Int.emod_lt_of_pos _ (by omega)
 have hd1 : 0 ≤ i / m.Width := Int.ediv_nonneg hi.1 (by omega)
 have hd2 : i / m.Width ≤ i := Int.ediv_le_self _ hi.1
 have e : pNext m i (k : Int) = pIdx m (i % m.Width + dQ.getD k 0) (i / m.Width + dR.getD k 0) := rfl
 constructor
 ·unfold X.s_mNext X.s_mHex X.s_hStep
  rw [if_pos hne, if_pos hne]
  simp only [obs]
  have hl1 : 0 ≤ (k : Int) ∧ (k : Int) < (([1, 1, 0, -1, -1, 0] : List Int).length : Int) := ⟨by omega, by simp; omega⟩
  have hl2 : 0 ≤ (k : Int) ∧ (k : Int) < (([0, -1, -1, 0, 1, 1] : List Int).length : Int) := ⟨by omega, by simp; omega⟩
  rw [if_pos hl1, if_pos hl2]
  simp only [obs, Int.toNat_natCast]
  rw [tmod_nn hi.1 h1, tdiv_nn hi.1, W_of (n := i / m.Width) (by omega)]
  change ((X.s_mIndex m (THex.mk (W (i % m.Width + dQ.getD k 0)) (W (i / m.Width + dR.getD k 0)))).bind fun v5 => some v5) = _
  rw [W_of (n := i % m.Width + dQ.getD k 0) (by omega), W_of (n := i / m.Width + dR.getD k 0) (by omega), (idx_eq m hw _ _).1, e]; rfl
 ·unfold X.i_nextTo X.i_hexOf X.i_stepBy
  rw [if_pos hne, if_pos hne]
  simp only [obs]
  rw [tmod_nn hi.1 h1, tdiv_nn hi.1, W_of (n := i / m.Width) (by omega)]
  rw [at_getD (z := zTHex) (xs := dirs) (k := k) hk, g0]
  simp only [obs, Int.one_mul]
  rw [W_of (n := dQ.getD k 0) (by omega), W_of (n := dR.getD k 0) (by omega)]
  rw [W_of (n := i % m.Width + dQ.getD k 0) (by omega), W_of (n := i / m.Width + dR.getD k 0) (by omega), (idx_eq m hw _ _).2, e]; rfl
def pEdge (m : TMap) (e : Int) : Bool := pIn e 0 (3 * (m.Width * m.Height) - 1) && decide (0 ≤ pNext m (e / 3) (e % 3))
def pIncr (l : List Int) : Bool := allFrom (l.length - 1) 1 fun k => decide (l.getD (k - 1) 0 < l.getD k 0)
def pEdges (m : TMap) (l : List Int) : Bool := l.all (pEdge m) && pIncr l
theorem isEdge_eq (m : TMap) (h : okSides m) (e : Int) : X.i_isEdge m e = some (pEdge m e) := by
 obtain ⟨h5, h6, h7⟩ := size_eq m h
 have hw := h
 obtain ⟨h1, h2, h3, h4⟩ := h
 unfold X.i_isEdge pEdge
 have e3 : W ((W ((W (3 * m.Width)) * m.Height)) - 1) = 3 * (m.Width * m.Height) - 1 := by
  rw [W_of (n := 3 * m.Width) (by omega), Int.mul_assoc, W_of (n := 3 * (m.Width * m.Height)) (by omega), W_of (by omega)]
 rw [e3]
 simp only [i_in, obs]
 cases hp : pIn e 0 (3 * (m.Width * m.Height) - 1)
 ·rfl
 ·rw [pIn_iff] at hp
  simp only [cond_true, Bool.true_and]
  have q1 : Int.tdiv e 3 = e / 3 := tdiv_nn hp.1
  have q2 : Int.tmod e 3 = e % 3 := tmod_nn hp.1 (by omega)
  rw [q1, q2, W_of (n := e / 3) (by omega), (next_eq m hw (e / 3) (e % 3) (by omega) (by omega)).2]
  simp
theorem s_edge (m : TMap) (h : okSides m) (e : Int) : ((X.s_mSize m).bind fun v73 => (X.s_l1In e 0 (W ((W (3 * v73)) - 1)))) = some (pIn e 0 (3 * (m.Width * m.Height) - 1)) ∧
  (pIn e 0 (3 * (m.Width * m.Height) - 1) = true → X.s_mNext m (W (Int.tdiv e 3)) (Int.tmod e 3) = some (pNext m (e / 3) (e % 3))) := by
 obtain ⟨h5, h6, h7⟩ := size_eq m h
 unfold X.s_mSize
 simp only [obs, s_in]
 rw [h5, W_of (n := 3 * (m.Width * m.Height)) (by omega), W_of (by omega)]
 refine ⟨rfl, fun hp => ?_⟩
 rw [pIn_iff] at hp
 have q1 : Int.tdiv e 3 = e / 3 := tdiv_nn hp.1
 have q2 : Int.tmod e 3 = e % 3 := tmod_nn hp.1 (by omega)
 rw [q1, q2, W_of (n := e / 3) (by omega)]
 exact (next_eq m h (e / 3) (e % 3) (by omega) (by omega)).1
theorem incr_eq (l : List Int) (h : l.length ≤ SM) : X.i_increasing l = some (pIncr l) := by
 have hm := mL
 have h' := h
 unfold SM at h'
 unfold X.i_increasing pIncr
 by_cases h0 : l.length = 0
 ·rw [loop_eq, h0]; rfl
 ·have := loop_allFrom (body := (fun (x16 : Int) => ((bif (decide (x16 < (l.length : Int))) then ((at' zI l (W (x16 - 1))).bind fun v19 => ((at' zI l x16).bind fun v21 => (bif (decide (v19 ≥ v21)) then some (Sum.inr (Sum.inr false)) else some (Sum.inl (W (x16 + 1)))))) else some (Sum.inr (Sum.inl ()))) : Option (Int ⊕ (Unit ⊕ Bool)))))
   (fun k => decide (l.getD (k - 1) 0 < l.getD k 0)) (.inr false) (.inl ()) (l.length - 1) 1 (fun j h1 h2 => by
    have hj : j < l.length := by omega
    have e1 : W ((j : Int) - 1) = ((j - 1 : Nat) : Int) := by rw [W_of (by omega)]; omega
    simp only [lt_cast hj, cond_true, e1, at_getD (show j - 1 < l.length by omega), at_getD hj, obs, W_up hj (show l.length ≤ maxLen by omega)]
    show _ = some (bif decide (l.getD (j - 1) zI < l.getD j zI) then _ else _)
    by_cases e : l.getD (j - 1) zI < l.getD j zI
    ·have e' : ¬ l.getD (j - 1) zI ≥ l.getD j zI := by omega
     simp only [e, e', decide_true, decide_false, cond_true, cond_false]
    ·have e' : l.getD (j - 1) zI ≥ l.getD j zI := by omega
     simp only [e, e', decide_true, decide_false, cond_true, cond_false]) (by
    have : 1 + (l.length - 1) = l.length := by omega
    rw [this]; simp only [nlt_self, cond_false])
  rw [show ((1 : Nat) : Int) = 1 from rfl] at this
  rw [this]
  cases allFrom (l.length - 1) 1 fun k => decide (l.getD (k - 1) 0 < l.getD k 0) <;> rfl
theorem rising_eq (l : List Int) (lo hi : Int) (h : l.length ≤ SM) : X.s_l1Rising l lo hi = some (allFrom l.length 0 fun k => pIn (l.getD k 0) lo hi && (decide (k = 0) || decide (l.getD (k - 1) 0 < l.getD k 0))) := by
 have hm := mL
 have h' := h
 unfold SM at h'
 unfold X.s_l1Rising
 rw [run_allN l.length (fun k => pIn (l.getD k 0) lo hi && (decide (k = 0) || decide (l.getD (k - 1) 0 < l.getD k 0))) (.inr false) (.inl ()) ?_ ?_]
 ·cases allFrom l.length 0 _ <;> rfl
 ·intro k hk
  simp only [lt_cast hk, cond_true, at_getD hk, obs, s_in, W_up hk (show l.length ≤ maxLen by omega)]
  show _ = some (bif pIn (l.getD k zI) lo hi && (decide (k = 0) || decide (l.getD (k - 1) zI < l.getD k zI)) then _ else _)
  cases pIn (l.getD k zI) lo hi
  ·rfl
  simp only [Bool.not_true, cond_false, Bool.true_and]
  by_cases h0 : k = 0
  ·subst h0; simp
  ·have e0 : (k : Int) > 0 := by omega
   have e1 : W ((k : Int) - 1) = ((k - 1 : Nat) : Int) := by rw [W_of (by omega)]; omega
   simp only [e0, decide_true, cond_true, e1, at_getD (show k - 1 < l.length by omega), obs, h0, decide_false, Bool.false_or]
   by_cases e : l.getD (k - 1) zI < l.getD k zI
   ·have e' : ¬ l.getD (k - 1) zI ≥ l.getD k zI := by omega
    simp only [e, e', decide_true, decide_false, cond_true, cond_false]
   ·have e' : l.getD (k - 1) zI ≥ l.getD k zI := by omega
    simp only [e, e', decide_true, decide_false, cond_true, cond_false]
 ·simp only [nlt_self, cond_false]
theorem rising_incr (l : List Int) (lo hi : Int) (h : ∀ k, k < l.length → pIn (l.getD k 0) lo hi = true) : (allFrom l.length 0 fun k => pIn (l.getD k 0) lo hi && (decide (k = 0) || decide (l.getD (k - 1) 0 < l.getD k 0))) = pIncr l := by
 rw [Bool.eq_iff_iff]
 unfold pIncr
 rw [allFrom_iff, allFrom_iff]
 constructor
 ·intro g j h1 h2
  have := g j (by omega) (by omega)
  simp only [Bool.and_eq_true, Bool.or_eq_true, decide_eq_true_eq] at this ⊢
  rcases this.2 with e | e
  ·omega
  ·exact e
 ·intro g j _ h2
  simp only [Bool.and_eq_true, Bool.or_eq_true, decide_eq_true_eq]
  refine ⟨h j (by omega), ?_⟩
  by_cases e : j = 0
  ·exact .inl e
  ·have := g j (by omega) (by omega)
   exact .inr (by simpa using this)
theorem edges_eq (m : TMap) (h : okSides m) (l : List Int) (hl : l.length ≤ SM) : X.s_mEdges m l = some (pEdges m l) := by
 have hm := mL
 have hl' := hl
 unfold SM at hl'
 obtain ⟨h5, h6, h7⟩ := size_eq m h
 have e3 : W ((W (3 * (W (m.Width * m.Height)))) - 1) = 3 * (m.Width * m.Height) - 1 := by rw [h5, W_of (n := 3 * (m.Width * m.Height)) (by omega), W_of (by omega)]
 unfold X.s_mEdges pEdges
 rw [run_all l (pEdge m) (.inr false) (.inl ()) rfl ?_ ?_]
 ·cases ha : l.all (pEdge m)
  ·rfl
  ·simp only [cond_true, Sum.elim_inl, X.s_mSize, obs, Bool.true_and, e3, rising_eq l _ _ hl]
   rw [rising_incr]
   intro k hk
   have := List.all_eq_true.1 ha _ (getD_mem (z := 0) hk)
   unfold pEdge at this
   rw [Bool.and_eq_true] at this
   exact this.1
 ·intro k hk
  simp only [lt_cast hk, cond_true, at_nat hk, obs, X.s_mSize, e3, s_in, W_up hk (show l.length ≤ maxLen by omega)]
  unfold pEdge
  cases hp : pIn l[k] 0 (3 * (m.Width * m.Height) - 1)
  ·rfl
  ·simp only [Bool.not_true, cond_false, (s_edge m h l[k]).2 hp, obs, Bool.true_and]
   by_cases e : pNext m (l[k] / 3) (l[k] % 3) < 0
   ·have e' : ¬ 0 ≤ pNext m (l[k] / 3) (l[k] % 3) := by omega
    simp only [e, e', decide_true, decide_false, cond_true, cond_false]
   ·have e' : 0 ≤ pNext m (l[k] / 3) (l[k] % 3) := by omega
    simp only [e, e', decide_true, decide_false, cond_true, cond_false]
 ·simp only [nlt_self, cond_false]
def pMap (m : TMap) : Bool :=
 pIn m.Width 1 10 && (pIn m.Height 1 10 && (((m.Terrain.length : Int) == m.Width * m.Height) && ((m.Terrain.all fun x => pIn x 0 5) && (pEdges m m.Rivers && pEdges m m.Roads))))
theorem map_eq (m : TMap) (q : smTMap m) : X.s_mGood m = some (pMap m) ∧ X.i_IsMap m = some (pMap m) := by
 have hm := mL
 have hT : m.Terrain.length ≤ maxLen := by have := q.2.2.1.1; unfold SM at this; omega
 have ed : ∀ l : List Int, l.length ≤ SM → okSides m → ∀ {γ : Type} (f : Unit ⊕ Bool → Option γ), ((loop (fun (x167 : Int) => ((bif (decide (x167 < (l.length : Int))) then ((at' zI l x167).bind fun v170 => ((X.i_isEdge m v170).bind fun v172 => (bif (!v172) then some (Sum.inr (Sum.inr false)) else some (Sum.inl (W (x167 + 1)))))) else some (Sum.inr (Sum.inl ()))) : Option (Int ⊕ (Unit ⊕ Bool)))) 0).bind f) = f (bif l.all (pEdge m) then .inl () else .inr false) := by
  intro l hl hs γ f
  have hl' := hl
  unfold SM at hl'
  rw [run_all l (pEdge m) (.inr false) (.inl ()) rfl ?_ ?_]
  ·intro k hk
   simp only [lt_cast hk, cond_true, at_nat hk, obs, isEdge_eq m hs, W_up hk (show l.length ≤ maxLen by omega)]
   cases pEdge m l[k] <;> rfl
  ·simp only [nlt_self, cond_false]
 unfold X.s_mGood X.i_IsMap pMap
 simp only [s_in, i_in, obs]
 cases h1 : pIn m.Width 1 10
 ·exact ⟨rfl, rfl⟩
 cases h2 : pIn m.Height 1 10
 ·exact ⟨rfl, rfl⟩
 rw [pIn_iff] at h1 h2
 have hs : okSides m := ⟨h1.1, h1.2, h2.1, h2.2⟩
 obtain ⟨h5, h6, h7⟩ := size_eq m hs
 simp only [Bool.not_true, cond_false, cond_true, Bool.true_and, X.s_mSize, obs, h5]
 cases h3 : (m.Terrain.length : Int) == m.Width * m.Height
 ·refine ⟨rfl, ?_⟩
  simp only [bne, h3]; rfl
 simp only [bne, h3, Bool.not_true, cond_false, cond_true, Bool.true_and]
 rw [s_all _ _ _ q.2.2.1.1]
 rw [run_all m.Terrain (fun x => pIn x 0 5) (.inr false) (.inl ()) rfl ?_ ?_]
 ·cases ht : (m.Terrain.all fun x => pIn x 0 5)
  ·exact ⟨rfl, rfl⟩
  simp only [cond_true, Sum.elim_inl, obs, Bool.true_and, edges_eq m hs _ q.2.2.2.1.1, edges_eq m hs _ q.2.2.2.2.1.1]
  refine ⟨by cases pEdges m m.Rivers <;> rfl, ?_⟩
  rw [run_allN 2 (fun k => pIncr (([m.Rivers, m.Roads] : List (List Int)).getD k zLI) && (([m.Rivers, m.Roads] : List (List Int)).getD k zLI).all (pEdge m)) (.inr false) (.inl ()) ?_ ?_]
  ·simp only [allFrom, pEdges, Bool.and_true]
   show _ = some ((m.Rivers.all (pEdge m) && pIncr m.Rivers) && (m.Roads.all (pEdge m) && pIncr m.Roads))
   change Sum.elim _ _ (bif ((pIncr m.Rivers && m.Rivers.all (pEdge m)) && (pIncr m.Roads && m.Roads.all (pEdge m))) then _ else _) = _
   cases pIncr m.Rivers <;> cases m.Rivers.all (pEdge m) <;> cases pIncr m.Roads <;> cases m.Roads.all (pEdge m) <;> rfl
  ·intro k hk
   have g1 : (([m.Rivers, m.Roads] : List (List Int)).getD k zLI).length ≤ SM := by
    rcases (show k = 0 ∨ k = 1 by omega) with rfl | rfl
    ·exact q.2.2.2.1.1
    ·exact q.2.2.2.2.1.1
   have g2 : 0 ≤ (k : Int) ∧ (k : Int) < (([m.Rivers, m.Roads] : List (List Int)).length : Int) := ⟨by omega, by simp; omega⟩
   rw [show decide ((k : Int) < (([m.Rivers, m.Roads] : List (List Int)).length : Int)) = true from decide_eq_true g2.2]
   simp only [cond_true]
   rw [if_pos g2]
   simp only [Int.toNat_natCast]
   rw [incr_eq _ g1]
   simp only [obs]
   cases pIncr (([m.Rivers, m.Roads] : List (List Int)).getD k zLI)
   ·rfl
   simp only [Bool.not_true, cond_false, Bool.true_and]
   rw [ed _ g1 hs]
   have : W ((k : Int) + 1) = ((k + 1 : Nat) : Int) := by rw [W_of (by omega)]; omega
   rw [this]
   cases (([m.Rivers, m.Roads] : List (List Int)).getD k zLI).all (pEdge m) <;> rfl
  ·rfl
 ·intro k hk
  have e6 : W ((6 : Int) - 1) = 5 := rfl
  simp only [lt_cast hk, cond_true, at_nat hk, obs, X.i_isIndex, i_in, e6, W_up hk hT]
  cases pIn m.Terrain[k] 0 5 <;> rfl
 ·simp only [nlt_self, cond_false]
noncomputable def pBoard (b : TBoard) : Bool := pRules b.Rules && (pMap b.Map && b.Map.Terrain.all fun x => pIn x 0 ((b.Rules.Terrains.length : Int) - 1))
theorem board_eq (b : TBoard) (q : smTBoard b) : X.s_bGood b = some (pBoard b) ∧ X.i_IsBoard b = some (pBoard b) := by
 have hm := mL
 have hl := q.2.1.2.2.1.1
 have hl' := hl
 unfold SM at hl'
 have hn := q.1.1.1
 unfold SM at hn
 unfold X.s_bGood X.i_IsBoard pBoard
 rw [(rules_eq _ q.1).1, (rules_eq _ q.1).2, (map_eq _ q.2.1).1, (map_eq _ q.2.1).2]
 simp only [obs]
 cases pRules b.Rules
 ·exact ⟨rfl, rfl⟩
 cases hmap : pMap b.Map
 ·exact ⟨rfl, rfl⟩
 simp only [Bool.not_true, cond_false, cond_true, Bool.true_and]
 rw [W_of (n := (b.Rules.Terrains.length : Int) - 1) (by omega), s_all _ _ _ hl]
 refine ⟨rfl, ?_⟩
 have hc : X.g_ContainsFunc_int b.Map.Terrain (fun q0 => X.i_IsBoard_1 q0 b) = some (b.Map.Terrain.any fun x => decide (x ≥ (b.Rules.Terrains.length : Int))) :=
  (hasF_eq (z := zI) (f := fun q0 => X.i_IsBoard_1 q0 b) (p := fun x => decide (x ≥ (b.Rules.Terrains.length : Int))) (by omega) (fun x _ => rfl) : _)
 rw [hc]
 simp only [obs, Option.some.injEq]
 unfold pMap at hmap
 simp only [Bool.and_eq_true] at hmap
 have h0 := hmap.2.2.2.1
 rw [Bool.eq_iff_iff]
 simp only [Bool.not_eq_true', List.any_eq_false, List.all_eq_true, decide_eq_true_eq]
 constructor
 ·intro h x hx
  have h1 := h x hx
  have h2 := List.all_eq_true.1 h0 x hx
  rw [pIn_iff] at h2 ⊢
  omega
 ·intro h x hx
  have h1 := h x hx
  rw [pIn_iff] at h1
  omega
theorem sides_of {b : TBoard} (h : pBoard b = true) : okSides b.Map ∧ ((b.Map.Terrain.length : Int) = b.Map.Width * b.Map.Height) := by
 unfold pBoard at h
 simp only [Bool.and_eq_true] at h
 have h1 := h.2.1
 unfold pMap at h1
 simp only [Bool.and_eq_true, pIn_iff, beq_iff_eq] at h1
 exact ⟨⟨h1.1.1, h1.1.2, h1.2.1.1, h1.2.1.2⟩, h1.2.2.1⟩
theorem size_of {b : TBoard} (h : pBoard b = true) : X.s_mSize b.Map = some (b.Map.Terrain.length : Int) ∧ 1 ≤ (b.Map.Terrain.length : Int) ∧ (b.Map.Terrain.length : Int) ≤ 100 := by
 obtain ⟨hs, hl⟩ := sides_of h
 obtain ⟨h1, h2, h3⟩ := size_eq _ hs
 unfold X.s_mSize
 rw [h1, hl]
 exact ⟨rfl, h2, h3⟩
theorem Wp {z : Int} (h : 0 ≤ z) (k : z ≤ 4611686018427387904) : W (z + 1) = z + 1 := W_of (by omega)
theorem mark_loop {β : Type} {f : Int → Option β} (n b : Nat) {body : Int × Int → Option ((Int × Int) ⊕ Int)} (hn : n ≤ SM) (hb : b ≤ 2097152)
  (hstep : ∀ (i : Nat) (q : Int), i < n → 0 ≤ q → q ≤ 2305843009213693000 → ∃ q' : Int, body (q, (i : Int)) = some (.inl (q', ((i + 1 : Nat) : Int))) ∧ q ≤ q' ∧ q' ≤ q + b)
  (hend : ∀ q, body (q, (n : Int)) = some (.inr q)) (k : Int) (h0 : 0 ≤ k) (hk : k ≤ 1152921504606846976) : ∃ k' : Int, (loop body (k, 0)).bind f = f k' ∧ k ≤ k' ∧ k' ≤ k + 2199023255552 := by
 unfold SM at hn
 have hbb : n * b ≤ 1048576 * 2097152 := Nat.mul_le_mul hn hb
 have key := loop_ind (body := body) (fun x : Int × Int => ∃ i : Nat, x.2 = (i : Int) ∧ i ≤ n ∧ k ≤ x.1 ∧ x.1 ≤ k + ((i * b : Nat) : Int)) (fun x => n - x.2.toNat) (fun r => k ≤ r ∧ r ≤ k + ((n * b : Nat) : Int)) (s := (k, 0)) ?_ ⟨0, rfl, by omega, Int.le_refl _, by simp⟩
 ·obtain ⟨r, h1, h2, h3⟩ := key
  exact ⟨r, by rw [h1]; rfl, h2, by omega⟩
 ·rintro ⟨q, x⟩ ⟨i, rfl, hi, h1, h2⟩
  have hib : i * b ≤ n * b := Nat.mul_le_mul_right b hi
  simp only at h1 h2
  by_cases h : i < n
  ·obtain ⟨q', e, g1, g2⟩ := hstep i q h (by omega) (by omega)
   have e2 : (i + 1) * b = i * b + b := Nat.succ_mul i b
   exact .inl ⟨_, e, ⟨i + 1, rfl, by omega, by simp only; omega, by simp only; omega⟩, by simp only; omega⟩
  ·have : i = n := by omega
   subst this
   exact .inr ⟨_, hend q, h1, h2⟩
def Mk (f : Int → Option Int) : Prop := ∀ k : Int, 0 ≤ k → k ≤ 1152921504606846976 → ∃ k' : Int, f k = some k' ∧ k ≤ k' ∧ k' ≤ k + 2199023255552
theorem mkInt_L {xs : List Int} (h : xs.length ≤ SM) (k : Int) (h0 : 0 ≤ k) (hk : k ≤ 2305843009213693952) : X.l_markIntS_L xs k = some (k + xs.length) := by
 unfold SM at h
 unfold X.l_markIntS_L
 have key := loop_ind (body := (fun (x10 : (Int × Int)) => ((bif (decide (x10.2 < (xs.length : Int))) then ((at' zI xs x10.2).bind fun v13 => some (Sum.inl ((W (x10.1 + 1)), (W (x10.2 + 1))))) else some (Sum.inr x10.1)) : Option ((Int × Int) ⊕ Int))))
  (fun x : Int × Int => ∃ i : Nat, x.2 = (i : Int) ∧ i ≤ xs.length ∧ x.1 = k + i) (fun x => xs.length - x.2.toNat) (fun r => r = k + xs.length) (s := (k, 0)) ?_ ⟨0, rfl, by omega, by simp⟩
 ·obtain ⟨r, h1, h2⟩ := key
  rw [h1, h2]; rfl
 ·rintro ⟨q, x⟩ ⟨i, rfl, hi, e⟩
  simp only at e
  subst e
  by_cases h : i < xs.length
  ·refine .inl ⟨(k + ((i + 1 : Nat) : Int), ((i + 1 : Nat) : Int)), ?_, ⟨i + 1, rfl, by omega, rfl⟩, by simp only; omega⟩
   simp only [lt_cast h, cond_true, at_getD h, obs]
   rw [Wp (by omega) (by omega), Wp (by omega) (by omega)]
   congr 3 <;> omega
  ·have : i = xs.length := by omega
   subst this
   exact .inr ⟨_, by simp only [nlt_self, cond_false], rfl⟩
theorem u8_digit {x : Int} (h : 0 ≤ x ∧ x < 10) : ([IntKind.u8.wrap (W (48 + x))] : List Int).all inU8 = true := by
 rw [W_of (by omega)]
 have : IntKind.u8.wrap (48 + x) = 48 + x := by simp only [IntKind.wrap]; simp [IntKind.signed, IntKind.bits]; omega
 rw [this]
 simp only [List.all_cons, List.all_nil, Bool.and_true, inU8]
 exact decide_eq_true (by omega)
theorem markText_ok (k : Int) (h0 : 0 ≤ k) (hk : k ≤ 4611686018427387904) : ∃ s, X.l_markText k = some s := by
 have hm : maxLen = 9223372036854775807 := by decide
 unfold X.l_markText
 by_cases hz : k ≤ 0
 ·simp [hz]
 ·simp only [decide_eq_false hz, cond_false]
  have key := loop_ind (body := (fun (x12 : (Int × (List UInt8))) => ((bif (decide (x12.1 > 0)) then (if ([(IntKind.u8.wrap (W (48 + (Int.tmod x12.1 10))))] : List Int).all inU8 = true then (if (bytesOf ([(IntKind.u8.wrap (W (48 + (Int.tmod x12.1 10))))] : List Int)).length + x12.2.length ≤ maxLen then some (Sum.inl ((W (Int.tdiv x12.1 10)), ((bytesOf ([(IntKind.u8.wrap (W (48 + (Int.tmod x12.1 10))))] : List Int)) ++ x12.2))) else none) else none) else some (Sum.inr x12.2)) : Option ((Int × (List UInt8)) ⊕ (List UInt8)))))
   (fun x => 0 ≤ x.1 ∧ x.1 + (x.2.length : Int) ≤ k) (fun x => x.1.toNat) (fun r => (r.length : Int) ≤ k) (s := (k, [])) ?_ ⟨h0, by simp⟩
  ·obtain ⟨r, h1, h2⟩ := key
   rw [h1]
   refine ⟨_, if_pos ?_⟩
   simp only [List.length_cons, List.length_nil]; omega
  ·rintro ⟨q, l⟩ ⟨a1, a2⟩
   simp only at a1 a2
   by_cases hq : q > 0
   ·have hr := Int.tmod_eq_emod_of_nonneg (b := 10) a1
    have hd : Int.tdiv q 10 = q / 10 := Int.tdiv_eq_ediv_of_nonneg a1
    refine .inl ⟨(W (Int.tdiv q 10), bytesOf ([(IntKind.u8.wrap (W (48 + (Int.tmod q 10))))] : List Int) ++ l), ?_, ⟨?_, ?_⟩, ?_⟩
    ·simp only [decide_eq_true hq, cond_true]
     rw [if_pos (u8_digit (by omega)), if_pos (by rw [bytesOf_len]; simp only [List.length_cons, List.length_nil]; omega)]
    ·simp only; rw [W_of (by omega)]; omega
    ·simp only [List.length_append, bytesOf_len, List.length_cons, List.length_nil]; rw [W_of (by omega)]; omega
    ·simp only; rw [W_of (by omega)]; omega
   ·exact .inr ⟨l, by simp only [decide_eq_false hq, cond_false], (by omega : (l.length : Int) ≤ k)⟩
theorem mkTerrainS_L {xs : List TTerrain} (h : smLTTerrain xs) : Mk (X.l_markTerrainS_L xs) := fun k h0 hk => by
 have hs := h.1
 unfold SM at hs
 unfold X.l_markTerrainS_L
 refine mark_loop (f := fun y => some y) xs.length 1048580 h.1 (by omega) (fun i q hi hq0 hq => ?_) (fun q => by simp only [nlt_self, cond_false]) k h0 hk
 obtain ⟨s, hs'⟩ := markText_ok q hq0 (by omega)
 have hc : (xs.getD i zTTerrain).Cost.length ≤ SM := by
  have e : xs.getD i zTTerrain = xs[i] := by simp [List.getD, hi]
  rw [e]; exact (h.2 xs[i] (List.getElem_mem hi)).2.1.1
 have hc' := hc
 unfold SM at hc'
 simp only [lt_cast hi, cond_true, at_getD hi, hs', obs]
 rw [Wp hq0 (by omega), mkInt_L hc (q + 1) (by omega) (by omega)]
 simp only [obs]
 simp (disch := omega) only [Wp]
 exact ⟨_, rfl, by omega, by omega⟩
theorem mkKindS_L {xs : List TKind} (h : smLTKind xs) : Mk (X.l_markKindS_L xs) := fun k h0 hk => by
 have hs := h.1
 unfold SM at hs
 unfold X.l_markKindS_L
 refine mark_loop (f := fun y => some y) xs.length 6 h.1 (by omega) (fun i q hi hq0 hq => ?_) (fun q => by simp only [nlt_self, cond_false]) k h0 hk
 obtain ⟨s, hs'⟩ := markText_ok q hq0 (by omega)
 simp only [lt_cast hi, cond_true, at_getD hi, hs', obs]
 simp (disch := omega) only [Wp]
 exact ⟨_, rfl, by omega, by omega⟩
theorem mkRules_L {x : TRules} (h : smTRules x) (k : Int) (h0 : 0 ≤ k) (hk : k ≤ 1099511627776000) : ∃ k' : Int, X.l_markRules_L x k = some k' ∧ k ≤ k' ∧ k' ≤ k + 4398046511104 := by
 obtain ⟨a, e1, b1, c1⟩ := mkTerrainS_L (xs := x.Terrains) (by have := h; simp only [smTRules] at this; exact ⟨this.1.1, this.1.2⟩) k h0 (by omega)
 obtain ⟨d, e2, b2, c2⟩ := mkKindS_L (xs := x.Kinds) (by have := h; simp only [smTRules] at this; exact ⟨this.2.1.1, this.2.1.2⟩) a (by omega) (by omega)
 unfold X.l_markRules_L
 rw [e1, obs, e2]
 exact ⟨_, rfl, by omega, by omega⟩
theorem mkMap_L {x : TMap} (h : smTMap x) (k : Int) (h0 : 0 ≤ k) (hk : k ≤ 1099511627776000) : ∃ k' : Int, X.l_markMap_L x k = some k' ∧ k ≤ k' ∧ k' ≤ k + 4398046511104 := by
 have h' := h
 simp only [smTMap] at h'
 have q1 := h'.2.2.1.1
 have q2 := h'.2.2.2.1.1
 have q3 := h'.2.2.2.2.1.1
 unfold X.l_markMap_L
 unfold SM at q1 q2 q3
 rw [mkInt_L h'.2.2.1.1 k h0 (by omega), obs, mkInt_L h'.2.2.2.1.1 _ (by omega) (by omega), obs, mkInt_L h'.2.2.2.2.1.1 _ (by omega) (by omega), obs]
 exact ⟨_, rfl, by omega, by omega⟩
theorem mkBoard_L {x : TBoard} (h : smTBoard x) (k : Int) (h0 : 0 ≤ k) (hk : k ≤ 549755813888000) : ∃ k' : Int, X.l_markBoard_L x k = some k' ∧ k ≤ k' ∧ k' ≤ k + 8796093022208 := by
 obtain ⟨a, e1, b1, c1⟩ := mkRules_L (x := x.Rules) h.1 k h0 (by omega)
 obtain ⟨d, e2, b2, c2⟩ := mkMap_L (x := x.Map) h.2.1 a (by omega) (by omega)
 unfold X.l_markBoard_L
 rw [e1, obs, e2]
 exact ⟨_, rfl, by omega, by omega⟩
def mks (k : Int) (n : Nat) : List Int := (List.range n).map fun i : Nat => k + (i : Int)
theorem mks_len (k : Int) (n : Nat) : (mks k n).length = n := by simp [mks]
theorem mks_get (k : Int) {n i : Nat} (h : i < n) : (mks k n).getD i zI = k + i := by simp [mks, List.getD, h]
theorem mkInt_M {xs : List Int} (h : xs.length ≤ SM) (k : Int) (h0 : 0 ≤ k) (hk : k ≤ 2305843009213693952) : X.l_markIntS_Mod xs k = some (k + xs.length, mks k xs.length) := by
 unfold SM at h
 unfold X.l_markIntS_Mod
 have key := loop_ind (body := (fun (x8 : (Int × Int × (List Int))) => ((bif (decide (x8.2.1 < (x8.2.2.length : Int))) then (if 0 ≤ x8.2.1 ∧ x8.2.1 < (x8.2.2.length : Int) then some (Sum.inl ((W (x8.1 + 1)), (W (x8.2.1 + 1)), (x8.2.2.set x8.2.1.toNat x8.1))) else none) else some (Sum.inr (x8.1, x8.2.2))) : Option ((Int × Int × (List Int)) ⊕ (Int × (List Int))))))
  (fun x => ∃ i : Nat, x.2.1 = (i : Int) ∧ i ≤ xs.length ∧ x.1 = k + i ∧ x.2.2 = mks k i ++ xs.drop i) (fun x => xs.length - x.2.1.toNat) (fun r => r = (k + (xs.length : Int), mks k xs.length)) (s := (k, 0, xs)) ?_ ⟨0, rfl, by omega, by simp, by simp [mks]⟩
 ·obtain ⟨r, h1, h2⟩ := key
  rw [h1, h2]; rfl
 ·rintro ⟨q, x, l⟩ ⟨i, rfl, hi, e1, e2⟩
  simp only at e1 e2
  subst e1 e2
  have hlen : (mks k i ++ xs.drop i).length = xs.length := by rw [List.length_append, mks_len, List.length_drop]; omega
  by_cases h : i < xs.length
  ·refine .inl ⟨(k + ((i + 1 : Nat) : Int), ((i + 1 : Nat) : Int), mks k (i + 1) ++ xs.drop (i + 1)), ?_, ⟨i + 1, rfl, by omega, rfl, rfl⟩, by simp only; omega⟩
   simp only [hlen, lt_cast h, cond_true]
   rw [if_pos ⟨by omega, by omega⟩, Wp (by omega) (by omega), Wp (by omega) (by omega)]
   have e3 : (mks k i ++ xs.drop i).set (i : Int).toNat (k + (i : Int)) = mks k (i + 1) ++ xs.drop (i + 1) := by
    rw [Int.toNat_natCast, List.set_append_right _ _ (by rw [mks_len]; omega), mks_len, Nat.sub_self, List.drop_eq_getElem_cons h, List.set_cons_zero]
    simp [mks, List.range_succ]
   rw [e3]
   congr 3
   ·omega
  ·have : i = xs.length := by omega
   subst this
   refine .inr ⟨_, ?_, rfl⟩
   simp only [hlen, nlt_self, cond_false]
   simp
theorem heldInt {k : Int} {n : Nat} (h : n ≤ SM) (h0 : 0 ≤ k) (hk : k ≤ 2305843009213693952) : X.l_heldIntS (mks k n) k = some (k + n) := by
 unfold SM at h
 unfold X.l_heldIntS
 have key := loop_ind (body := (fun (x12 : (Int × Int)) => ((bif (decide (x12.2 < ((mks k n).length : Int))) then ((at' zI (mks k n) x12.2).bind fun v15 => (bif (v15 != x12.1) then some (Sum.inr (Sum.inr (-1))) else some (Sum.inl ((W (x12.1 + 1)), (W (x12.2 + 1)))))) else some (Sum.inr (Sum.inl x12.1))) : Option ((Int × Int) ⊕ (Int ⊕ Int)))))
  (fun x => ∃ i : Nat, x.2 = (i : Int) ∧ i ≤ n ∧ x.1 = k + i) (fun x => n - x.2.toNat) (fun r => r = .inl (k + (n : Int))) (s := (k, 0)) ?_ ⟨0, rfl, by omega, by simp⟩
 ·obtain ⟨r, h1, h2⟩ := key
  rw [h1, h2]; rfl
 ·rintro ⟨q, x⟩ ⟨i, rfl, hi, e⟩
  simp only at e
  subst e
  by_cases h : i < n
  ·refine .inl ⟨(k + ((i + 1 : Nat) : Int), ((i + 1 : Nat) : Int)), ?_, ⟨i + 1, rfl, by omega, rfl⟩, by simp only; omega⟩
   simp only [mks_len, lt_cast h, cond_true]
   rw [at_getD (by rw [mks_len]; exact h), mks_get k h]
   simp only [obs, bne_self_eq_false, cond_false]
   rw [Wp (by omega) (by omega), Wp (by omega) (by omega)]
   congr 3
   ·omega
  ·have : i = n := by omega
   subst this
   exact .inr ⟨_, by simp only [mks_len, nlt_self, cond_false], rfl⟩
theorem mhMemory {x : TMemory} (h : smTMemory x) (k : Int) (h0 : 0 ≤ k) (hk : k ≤ 549755813888000) : ∃ (r : Int) (y : TMemory), X.l_markMemory_Mod x k = some (r, y) ∧ (y.Turns.length = x.Turns.length ∧ y.Counts.length = x.Counts.length) ∧ X.l_heldMemory y k = some r ∧ k ≤ r ∧ r ≤ k + 8796093022208 := by
 have q1 := h.1.1
 have q2 := h.2.1.1
 have q1' := q1
 have q2' := q2
 unfold SM at q1' q2'
 refine ⟨k + x.Turns.length + x.Counts.length, ⟨mks k x.Turns.length, mks (k + x.Turns.length) x.Counts.length⟩, ?_, ⟨mks_len _ _, mks_len _ _⟩, ?_, by omega, by omega⟩
 ·unfold X.l_markMemory_Mod
  simp only [mkInt_M q1 k h0 (by omega), mkInt_M q2 (k + x.Turns.length) (by omega) (by omega), obs, mks_len, if_true]
 ·unfold X.l_heldMemory
  simp only [heldInt q1 h0 (show k ≤ 2305843009213693952 by omega), heldInt q2 (show 0 ≤ k + x.Turns.length by omega) (show k + x.Turns.length ≤ 2305843009213693952 by omega), obs, decide_eq_false (show ¬ k + (x.Turns.length : Int) < 0 by omega), decide_eq_false (show ¬ k + (x.Turns.length : Int) + (x.Counts.length : Int) < 0 by omega), cond_false]
def rR (n k : Nat) : List Int := List.replicate k (-1) ++ List.replicate (n - k) 0
theorem rR_len {n k : Nat} (h : k ≤ n) : (rR n k).length = n := by unfold rR; simp; omega
theorem rR_all (n : Nat) : rR n n = List.replicate n (-1) := by unfold rR; simp
theorem rR_take {n k c : Nat} (hc : c ≤ k) : (rR n k).take c = List.replicate c (-1) := by
 unfold rR
 rw [List.take_append_of_le_length (by simp; exact hc), List.take_replicate, Nat.min_eq_left hc]
theorem rR_drop {n k c : Nat} (hk : k ≤ n) (hc : k ≤ c) : (rR n k).drop c = List.replicate (n - c) 0 := by
 unfold rR
 rw [List.drop_append, List.drop_replicate, List.length_replicate, List.drop_replicate]
 have e1 : k - c = 0 := by omega
 have e2 : n - k - (c - k) = n - c := by omega
 rw [e1, e2]; rfl
theorem rR_cpy {n k c : Nat} (hk : k ≤ n) (hc : c ≤ k) (hn : k + c ≤ n) : cpyL (rR n k) (rR n k) k c = rR n (k + c) := by
 unfold cpyL
 rw [rR_take (Nat.le_refl k), rR_take hc, rR_drop hk (by omega)]
 unfold rR
 rw [List.replicate_append_replicate]
theorem repeat_eq {n : Nat} (h1 : 1 ≤ n) (h2 : n ≤ 1000) : X.g_Repeat_int ([-1] : List Int) (n : Int) = some (List.replicate n (-1)) := by
 have w1 : IntKind.u64.wrap ((([-1] : List Int).length : Int)) = 1 := by decide
 have w2 : IntKind.u64.wrap (n : Int) = (n : Int) := by
  show (n : Int) % 18446744073709551616 = n
  omega
 have e1 : X.x_math_bits_Mul 1 (n : Int) = some (0, (n : Int)) := by
  unfold X.x_math_bits_Mul
  rw [if_pos ⟨⟨by omega, by omega⟩, by omega, by omega⟩]
  congr 2
  ·omega
  ·omega
 have w3 : W (n : Int) = (n : Int) := W_of (by omega)
 have f1 : 0 ≤ (n : Int) ∧ n ≤ LIM := ⟨by omega, by unfold LIM; omega⟩
 have m1 : Nat.min 1 n = 1 := by show min 1 n = 1; omega
 unfold X.g_Repeat_int
 rw [decide_eq_false (show ¬ (n : Int) < 0 by omega), w1, w2, e1]
 simp only [cond_false, obs, w3, Int.toNat_natCast, if_pos f1, List.length_replicate, List.length_cons, List.length_nil, Nat.zero_add]
 rw [decide_eq_false (show ¬ (0 : Int) > 0 by omega), decide_eq_false (show ¬ (n : Int) > 9223372036854775807 by omega)]
 simp only [cond_false, m1]
 rw [if_pos ⟨by omega, Nat.le_refl _, Nat.le_refl _⟩]
 have c1 : cpyL (List.replicate n zI) [-1] 0 1 = rR n 1 := by
  unfold cpyL rR
  simp [zI]
 rw [c1]
 refine run_ind (fun o => o = some (List.replicate n (-1))) (fun s => ∃ k : Nat, s.1 = (k : Int) ∧ (1 ≤ k ∧ k ≤ n) ∧ s.2 = rR n k) (fun s => n - s.1.toNat) (fun r => r = List.replicate n (-1)) ⟨1, rfl, ⟨Nat.le_refl _, h1⟩, rfl⟩ ?_ (fun r hr => by rw [hr])
 rintro ⟨x, l⟩ ⟨k, hk, hkn, hl⟩
 simp only at hk hl
 subst hk hl
 have hln := rR_len hkn.2
 by_cases h : k < n
 ·have g1 : 0 ≤ (k : Int) ∧ (k : Int) < (n : Int) ∧ (n : Int) ≤ (n : Int) := by omega
  have g2 : 0 ≤ (k : Int) ∧ (k : Int) ≤ (n : Int) := by omega
  have e3 : ((n : Int) - (k : Int)).toNat = n - k := by omega
  have m2 : Nat.min k (n - k) ≤ k := Nat.min_le_left _ _
  have m3 : Nat.min k (n - k) ≤ n - k := Nat.min_le_right _ _
  have m4 : 0 < Nat.min k (n - k) := by show 0 < min k (n - k); omega
  simp only [hln, lt_cast h, cond_true, if_pos g1, if_pos g2, Int.toNat_natCast, e3]
  rw [if_pos ⟨m4, by omega, hkn.2⟩]
  generalize Nat.min k (n - k) = c at m2 m3 m4
  rw [rR_cpy hkn.2 m2 (by omega), W_of (by omega)]
  exact .inl ⟨_, rfl, ⟨k + c, by simp only; omega, by omega, rfl⟩, by simp only; omega⟩
 ·have : k = n := by omega
  subst this
  simp only [hln, nlt_self, cond_false]
  exact .inr ⟨_, rfl, rR_all k⟩
theorem set_rep {n k : Nat} (h : k < n) : (rR n k).set k (-1) = rR n (k + 1) := by
 unfold rR
 obtain ⟨m, hm⟩ : ∃ m, n - k = m + 1 := ⟨n - k - 1, by omega⟩
 have hm2 : n - (k + 1) = m := by omega
 rw [List.set_append_right _ _ (by rw [List.length_replicate]; exact Nat.le_refl _), List.length_replicate, Nat.sub_self, hm, hm2, List.replicate_succ, List.set_cons_zero, List.replicate_succ', List.append_assoc, List.singleton_append]
theorem core (a0 : TBoard) (k0 : okTBoard a0) (q0 : smTBoard a0) : ∃ w, X.s_NewMemory a0 = some w ∧ X.i_NewMemory a0 = some w ∧ smTMemory w.1 := by
 have hm := mL
 unfold X.s_NewMemory X.i_NewMemory
 rw [(board_eq a0 q0).1, (board_eq a0 q0).2]
 simp only [obs]
 cases hb : pBoard a0
 ·exact ⟨_, rfl, rfl, ⟨⟨Nat.zero_le _, fun x hx => (by cases hx)⟩, ⟨Nat.zero_le _, fun x hx => (by cases hx)⟩, trivial⟩⟩
 obtain ⟨s1, s2, s3⟩ := size_of hb
 have f1 : 0 ≤ (a0.Map.Terrain.length : Int) ∧ (a0.Map.Terrain.length : Int).toNat ≤ LIM := ⟨by omega, by rw [Int.toNat_natCast]; unfold LIM; omega⟩
 have hrep := repeat_eq (n := a0.Map.Terrain.length) (by omega) (by omega)
 have hi : X.i_sizeOf a0 = some (a0.Map.Terrain.length : Int) := rfl
 refine ⟨(TMemory.mk (List.replicate a0.Map.Terrain.length (-1)) (List.replicate a0.Map.Terrain.length 0), true), ?_, ?_, ⟨by simp; unfold SM; omega, fun _ _ => trivial⟩, ⟨by simp; unfold SM; omega, fun _ _ => trivial⟩, trivial⟩
 case refine_2 =>
  rw [Bool.not_true, cond_false, hi, obs, hrep, obs, obs, if_pos f1, Int.toNat_natCast, zI]
 clear hrep hi
 unfold X.s_fgNew
 rw [s1]
 generalize a0.Map.Terrain.length = n at s2 s3 f1
 rw [Int.toNat_natCast] at f1
 simp only [Bool.not_true, cond_false, obs, Int.toNat_natCast, if_pos f1, List.length_replicate]
 rw [run_st n (fun k => ((k : Int), rR n k)) (rR n n) (by unfold rR; simp [zI]) ?_ ?_]
 ·rw [rR_all]; rfl
 ·intro k hk
  simp only [lt_cast hk, cond_true, rR_len (show k ≤ n by omega), if_pos (show 0 ≤ (k : Int) ∧ (k : Int) < (n : Int) by omega), Int.toNat_natCast, set_rep hk, W_succ (show k < 4611686018427387904 by omega)]
 ·simp only [nlt_self, cond_false]
theorem law (a0 : TBoard) (k0 : okTBoard a0) : X.l_FnExactNewMemory a0 = some true := by
 unfold X.l_FnExactNewMemory
 refine law_sz (l_szBoard_sz a0 k0 1048576 (by unfold SM; omega)) (by unfold SM; omega) fun r1 g1 q1 => ?_
 obtain ⟨w, hs, hi, hw⟩ := core a0 k0 q1
 obtain ⟨mk1, ek1, bk1, ck1⟩ := mkBoard_L (x := a0) q1 1 (by omega) (by omega)
 have zk : decide (mk1 < 0) = false := decide_eq_false (by omega)
 obtain ⟨r1m, y1m, em1, el1, eh1, bm1, cm1⟩ := mhMemory (hw) 1 (by omega) (by omega)
 have zm1 : decide (r1m < 0) = false := decide_eq_false (by omega)
 simp [l_toBoard_eq a0 q1, l_eqBoard_eq a0 q1, hs, hi, ek1, zk, em1, el1, eh1, zm1, l_eqMemory_eq (w.1) (hw)]
end Go.Proofs.YtjlabdoeiphegaaDoor.X0
