/- The plain law behind FnExactIsMemory: the program's answer is the reference's, for arguments that a machine can hold. -/
import Derived.Test.YtfpafaampjgckaaDoorI2Wb
import Derived.Test.YtfpafaampjgckaaDoorAbCore2
set_option linter.unusedVariables false
set_option linter.unusedSimpArgs false
set_option maxRecDepth 100000
namespace Go.Proofs.YtfpafaampjgckaaDoor.X0
open Go Go.Proofs.YtfpafaampjgckaaDoor.Ab
abbrev okLI (x : (List Int)) : Prop := okL okI x
abbrev smLI (x : (List Int)) : Prop := smL smI x
theorem l_szIntS_sz (x : (List Int)) (h : okLI x) : SzOk X.l_szIntS smLI x := szS_ok h.1 fun y _ => trivI y
theorem l_toIntS_eq (x : (List Int)) (h : smLI x) : X.l_toIntS x = some x := (toL_eq (z := zI) (f := some) h.1 fun _ _ => rfl : _)
theorem l_eqIntS_eq (x : (List Int)) (h : smLI x) : X.l_eqIntS x x = some true := (eqL_self (z := zI) (f := fun a b => some (a == b)) h.1 fun x _ => by simp : _)
abbrev okTTerrain (x : TTerrain) : Prop := okS x.Name ∧ okLI x.Cost ∧ okI x.Shift ∧ okI x.Height ∧ okB x.Blocks ∧ True
abbrev smTTerrain (x : TTerrain) : Prop := smS x.Name ∧ smLI x.Cost ∧ smI x.Shift ∧ smI x.Height ∧ smB x.Blocks ∧ True
theorem l_szTerrain_sz (x : TTerrain) (h : okTTerrain x) : SzOk X.l_szTerrain smTTerrain x := by
  intro n hn
  unfold X.l_szTerrain
  obtain ⟨r1, e1, l1, f1⟩ := len_cases (xs := x.Name) (h.1) hn
  rw [e1]
  refine szr_bif f1 l1 fun g1 q1 => ?_
  refine szr_step (l_szIntS_sz x.Cost (h.2.1) r1 g1) g1 fun r2 g2 q2 => ?_
  exact szr_last g2 ⟨q1, q2, trivI x.Shift, trivI x.Height, trivB x.Blocks, trivial⟩
theorem l_toTerrain_eq (x : TTerrain) (h : smTTerrain x) : X.l_toTerrain x = some x := by
  unfold X.l_toTerrain
  rw [l_toIntS_eq x.Cost (h.2.1)]; rfl
theorem l_eqTerrain_eq (x : TTerrain) (h : smTTerrain x) : X.l_eqTerrain x x = some true := by
  unfold X.l_eqTerrain
  simp [l_eqIntS_eq x.Cost (h.2.1)]
abbrev okLTTerrain (x : (List TTerrain)) : Prop := okL okTTerrain x
abbrev smLTTerrain (x : (List TTerrain)) : Prop := smL smTTerrain x
theorem l_szTerrainS_sz (x : (List TTerrain)) (h : okLTTerrain x) : SzOk X.l_szTerrainS smLTTerrain x := szL_ok (z := zTTerrain) (f := X.l_szTerrain) h.1 fun y hy => l_szTerrain_sz y (h.2 y hy)
theorem l_toTerrainS_eq (x : (List TTerrain)) (h : smLTTerrain x) : X.l_toTerrainS x = some x := toL_eq (z := zTTerrain) (f := X.l_toTerrain) h.1 fun y hy => l_toTerrain_eq y (h.2 y hy)
theorem l_eqTerrainS_eq (x : (List TTerrain)) (h : smLTTerrain x) : X.l_eqTerrainS x x = some true := eqL_self (z := zTTerrain) (f := X.l_eqTerrain) h.1 fun y hy => l_eqTerrain_eq y (h.2 y hy)
abbrev okTKind (x : TKind) : Prop := okS x.Name ∧ okI x.Strength ∧ okI x.Moves ∧ okI x.Steps ∧ okB x.Zone ∧ okI x.View ∧ True
abbrev smTKind (x : TKind) : Prop := smS x.Name ∧ smI x.Strength ∧ smI x.Moves ∧ smI x.Steps ∧ smB x.Zone ∧ smI x.View ∧ True
theorem l_szKind_sz (x : TKind) (h : okTKind x) : SzOk X.l_szKind smTKind x := by
  intro n hn
  unfold X.l_szKind
  obtain ⟨r1, e1, l1, f1⟩ := len_cases (xs := x.Name) (h.1) hn
  rw [e1]
  refine szr_bif f1 l1 fun g1 q1 => ?_
  exact szr_last g1 ⟨q1, trivI x.Strength, trivI x.Moves, trivI x.Steps, trivB x.Zone, trivI x.View, trivial⟩
theorem l_toKind_eq (x : TKind) (h : smTKind x) : X.l_toKind x = some x := by
  unfold X.l_toKind
  rfl
theorem l_eqKind_eq (x : TKind) (h : smTKind x) : X.l_eqKind x x = some true := by
  unfold X.l_eqKind
  simp []
abbrev okLTKind (x : (List TKind)) : Prop := okL okTKind x
abbrev smLTKind (x : (List TKind)) : Prop := smL smTKind x
theorem l_szKindS_sz (x : (List TKind)) (h : okLTKind x) : SzOk X.l_szKindS smLTKind x := szL_ok (z := zTKind) (f := X.l_szKind) h.1 fun y hy => l_szKind_sz y (h.2 y hy)
theorem l_toKindS_eq (x : (List TKind)) (h : smLTKind x) : X.l_toKindS x = some x := toL_eq (z := zTKind) (f := X.l_toKind) h.1 fun y hy => l_toKind_eq y (h.2 y hy)
theorem l_eqKindS_eq (x : (List TKind)) (h : smLTKind x) : X.l_eqKindS x x = some true := eqL_self (z := zTKind) (f := X.l_eqKind) h.1 fun y hy => l_eqKind_eq y (h.2 y hy)
abbrev okTRules (x : TRules) : Prop := okLTTerrain x.Terrains ∧ okLTKind x.Kinds ∧ okI x.Stack ∧ okI x.River ∧ okI x.Road ∧ okI x.Supply ∧ okI x.Turns ∧ True
abbrev smTRules (x : TRules) : Prop := smLTTerrain x.Terrains ∧ smLTKind x.Kinds ∧ smI x.Stack ∧ smI x.River ∧ smI x.Road ∧ smI x.Supply ∧ smI x.Turns ∧ True
theorem l_szRules_sz (x : TRules) (h : okTRules x) : SzOk X.l_szRules smTRules x := by
  intro n hn
  unfold X.l_szRules
  refine szr_step (l_szTerrainS_sz x.Terrains (h.1) n hn) hn fun r1 g1 q1 => ?_
  refine szr_step (l_szKindS_sz x.Kinds (h.2.1) r1 g1) g1 fun r2 g2 q2 => ?_
  exact szr_last g2 ⟨q1, q2, trivI x.Stack, trivI x.River, trivI x.Road, trivI x.Supply, trivI x.Turns, trivial⟩
theorem l_toRules_eq (x : TRules) (h : smTRules x) : X.l_toRules x = some x := by
  unfold X.l_toRules
  simp only [l_toTerrainS_eq x.Terrains (h.1), l_toKindS_eq x.Kinds (h.2.1), Option.bind_some]
theorem l_eqRules_eq (x : TRules) (h : smTRules x) : X.l_eqRules x x = some true := by
  unfold X.l_eqRules
  simp [l_eqTerrainS_eq x.Terrains (h.1), l_eqKindS_eq x.Kinds (h.2.1)]
abbrev okTMap (x : TMap) : Prop := okI x.Width ∧ okI x.Height ∧ okLI x.Terrain ∧ okLI x.Rivers ∧ okLI x.Roads ∧ True
abbrev smTMap (x : TMap) : Prop := smI x.Width ∧ smI x.Height ∧ smLI x.Terrain ∧ smLI x.Rivers ∧ smLI x.Roads ∧ True
theorem l_szMap_sz (x : TMap) (h : okTMap x) : SzOk X.l_szMap smTMap x := by
  intro n hn
  unfold X.l_szMap
  refine szr_step (l_szIntS_sz x.Terrain (h.2.2.1) n hn) hn fun r1 g1 q1 => ?_
  refine szr_step (l_szIntS_sz x.Rivers (h.2.2.2.1) r1 g1) g1 fun r2 g2 q2 => ?_
  refine szr_step (l_szIntS_sz x.Roads (h.2.2.2.2.1) r2 g2) g2 fun r3 g3 q3 => ?_
  exact szr_last g3 ⟨trivI x.Width, trivI x.Height, q1, q2, q3, trivial⟩
theorem l_toMap_eq (x : TMap) (h : smTMap x) : X.l_toMap x = some x := by
  unfold X.l_toMap
  simp only [l_toIntS_eq x.Terrain (h.2.2.1), l_toIntS_eq x.Rivers (h.2.2.2.1), l_toIntS_eq x.Roads (h.2.2.2.2.1), Option.bind_some]
theorem l_eqMap_eq (x : TMap) (h : smTMap x) : X.l_eqMap x x = some true := by
  unfold X.l_eqMap
  simp [l_eqIntS_eq x.Terrain (h.2.2.1), l_eqIntS_eq x.Rivers (h.2.2.2.1), l_eqIntS_eq x.Roads (h.2.2.2.2.1)]
abbrev okTBoard (x : TBoard) : Prop := okTRules x.Rules ∧ okTMap x.Map ∧ True
abbrev smTBoard (x : TBoard) : Prop := smTRules x.Rules ∧ smTMap x.Map ∧ True
theorem l_szBoard_sz (x : TBoard) (h : okTBoard x) : SzOk X.l_szBoard smTBoard x := by
  intro n hn
  unfold X.l_szBoard
  refine szr_step (l_szRules_sz x.Rules (h.1) n hn) hn fun r1 g1 q1 => ?_
  refine szr_step (l_szMap_sz x.Map (h.2.1) r1 g1) g1 fun r2 g2 q2 => ?_
  exact szr_last g2 ⟨q1, q2, trivial⟩
theorem l_toBoard_eq (x : TBoard) (h : smTBoard x) : X.l_toBoard x = some x := by
  unfold X.l_toBoard
  simp only [l_toRules_eq x.Rules (h.1), l_toMap_eq x.Map (h.2.1), Option.bind_some]
theorem l_eqBoard_eq (x : TBoard) (h : smTBoard x) : X.l_eqBoard x x = some true := by
  unfold X.l_eqBoard
  simp [l_eqRules_eq x.Rules (h.1), l_eqMap_eq x.Map (h.2.1)]
abbrev okTMemory (x : TMemory) : Prop := okLI x.Turns ∧ okLI x.Counts ∧ True
abbrev smTMemory (x : TMemory) : Prop := smLI x.Turns ∧ smLI x.Counts ∧ True
theorem l_szMemory_sz (x : TMemory) (h : okTMemory x) : SzOk X.l_szMemory smTMemory x := by
  intro n hn
  unfold X.l_szMemory
  refine szr_step (l_szIntS_sz x.Turns (h.1) n hn) hn fun r1 g1 q1 => ?_
  refine szr_step (l_szIntS_sz x.Counts (h.2.1) r1 g1) g1 fun r2 g2 q2 => ?_
  exact szr_last g2 ⟨q1, q2, trivial⟩
theorem l_toMemory_eq (x : TMemory) (h : smTMemory x) : X.l_toMemory x = some x := by
  unfold X.l_toMemory
  simp only [l_toIntS_eq x.Turns (h.1), l_toIntS_eq x.Counts (h.2.1), Option.bind_some]
theorem l_eqMemory_eq (x : TMemory) (h : smTMemory x) : X.l_eqMemory x x = some true := by
  unfold X.l_eqMemory
  simp [l_eqIntS_eq x.Turns (h.1), l_eqIntS_eq x.Counts (h.2.1)]
abbrev okTHex (x : THex) : Prop := okI x.Q ∧ okI x.R ∧ True
abbrev smTHex (x : THex) : Prop := smI x.Q ∧ smI x.R ∧ True
theorem trivTHex (x : THex) : smTHex x := ⟨trivI x.Q, trivI x.R, trivial⟩
end Go.Proofs.YtfpafaampjgckaaDoor.X0

set_option maxRecDepth 100000
namespace Go.Proofs.YtfpafaampjgckaaDoor.X0
open Go Go.Proofs.YtfpafaampjgckaaDoor.Ab
theorem s_l1In_eq (n lo hi : Int) : X.s_l1In n lo hi = some (decide (lo ≤ n) && decide (n ≤ hi)) := by
  unfold X.s_l1In
  by_cases h : lo ≤ n
  · simp [h]
  · simp [h]
theorem i_inRange_eq (n lo hi : Int) : X.i_inRange n lo hi = some (decide (lo ≤ n) && decide (n ≤ hi)) := by
  unfold X.i_inRange
  by_cases h : lo ≤ n
  · simp [h]
  · simp [h]

theorem s_l1All_eq (xs : List Int) (lo hi : Int) (hl : xs.length ≤ SM) : X.s_l1All xs lo hi = some (xs.all fun x => decide (lo ≤ x) && decide (x ≤ hi)) := by
  unfold SM at hl
  unfold X.s_l1All
  rw [run_all xs (fun x => decide (lo ≤ x) && decide (x ≤ hi)) (.inr false) (.inl ()) rfl ?_ ?_]
  · cases xs.all fun x => decide (lo ≤ x) && decide (x ≤ hi) <;> rfl
  · intro k hk
    have hk' : (k : Int) < xs.length := by omega
    simp only [hk', decide_true, cond_true, at_nat hk, Option.bind_some, s_l1In_eq, W_succ (show k < 4611686018427387904 by omega)]
    cases (decide (lo ≤ xs[k]) && decide (xs[k] ≤ hi)) <;> simp
  · simp

/-! ### boards -/
def pIn (n lo hi : Int) : Bool := decide (lo ≤ n) && decide (n ≤ hi)
theorem s_in (n lo hi : Int) : X.s_l1In n lo hi = some (pIn n lo hi) := s_l1In_eq n lo hi
theorem i_in (n lo hi : Int) : X.i_inRange n lo hi = some (pIn n lo hi) := i_inRange_eq n lo hi
theorem pIn_iff {n lo hi : Int} : pIn n lo hi = true ↔ lo ≤ n ∧ n ≤ hi := by simp [pIn]
theorem mL : maxLen = 9223372036854775807 := by decide
theorem s_all (xs : List Int) (lo hi : Int) (hl : xs.length ≤ SM) : X.s_l1All xs lo hi = some (xs.all fun x => pIn x lo hi) := s_l1All_eq xs lo hi hl

/-- A text is a name. -/
noncomputable def pName (s : List UInt8) : Bool := (X.s_rName s).getD false
theorem name_eq (s : List UInt8) (h : s.length ≤ maxLen) : X.s_rName s = some (pName s) ∧ X.i_isName s = some (pName s) := by
  have e : X.i_isName s = X.s_rName s := by
    unfold X.i_isName X.s_rName
    simp only [i_in, s_in]
  have hs : ∃ b, X.s_rName s = some b := by
    unfold X.s_rName
    rw [run_allN s.length (fun k => !(decide ((((s.getD k 0).toNat : Nat) : Int) < 97)) && !(decide ((((s.getD k 0).toNat : Nat) : Int) > 122))) (.inr false) (.inl ()) ?_ ?_]
    · cases allFrom s.length 0 _
      · exact ⟨_, rfl⟩
      · simp only [cond_true, Sum.elim_inl, s_in, Option.bind_some]; exact ⟨_, rfl⟩
    · intro k hk
      have h1 : 0 ≤ (k : Int) ∧ (k : Int) < (s.length : Int) := by omega
      simp only [lt_cast hk, cond_true, if_pos h1, W_up hk h, Int.toNat_natCast]
      cases decide ((((s.getD k 0).toNat : Nat) : Int) < 97) <;> cases decide ((((s.getD k 0).toNat : Nat) : Int) > 122) <;> rfl
    · simp only [nlt_self, cond_false]
  obtain ⟨b, hb⟩ := hs
  have hp : X.s_rName s = some (pName s) := by unfold pName; rw [hb]; rfl
  exact ⟨hp, e.trans hp⟩

/-- The index of the first of a name. -/
noncomputable def pTI (xs : List TTerrain) (s : List UInt8) : Int := (X.s_rTerrain xs s).getD 0
noncomputable def pKI (xs : List TKind) (s : List UInt8) : Int := (X.s_rKind xs s).getD 0
theorem ti_eq (xs : List TTerrain) (s : List UInt8) (h : xs.length ≤ maxLen) : X.s_rTerrain xs s = some (pTI xs s) ∧ X.i_terrainIndex xs s = some (pTI xs s) := by
  have e : X.s_rTerrain xs s = idxF zTTerrain (fun v => some (v.Name == s)) xs := rfl
  obtain ⟨i, h1, _⟩ := idxF_ok (z := zTTerrain) (f := fun v => some (v.Name == s)) (p := fun v => v.Name == s) (xs := xs) h (fun _ _ => rfl)
  have hp : X.s_rTerrain xs s = some (pTI xs s) := by unfold pTI; rw [e, h1]; rfl
  refine ⟨hp, ?_⟩
  have e2 : X.i_terrainIndex xs s = (idxF zTTerrain (fun v => some (v.Name == s)) xs).bind some := rfl
  rw [e2, ← e, hp]; rfl
theorem ki_eq (xs : List TKind) (s : List UInt8) (h : xs.length ≤ maxLen) : X.s_rKind xs s = some (pKI xs s) ∧ X.i_kindIndex xs s = some (pKI xs s) := by
  have e : X.s_rKind xs s = idxF zTKind (fun v => some (v.Name == s)) xs := rfl
  obtain ⟨i, h1, _⟩ := idxF_ok (z := zTKind) (f := fun v => some (v.Name == s)) (p := fun v => v.Name == s) (xs := xs) h (fun _ _ => rfl)
  have hp : X.s_rKind xs s = some (pKI xs s) := by unfold pKI; rw [e, h1]; rfl
  refine ⟨hp, ?_⟩
  have e2 : X.i_kindIndex xs s = (idxF zTKind (fun v => some (v.Name == s)) xs).bind some := rfl
  rw [e2, ← e, hp]; rfl

noncomputable def qT (r : TRules) (k : Nat) : Bool :=
  let t := r.Terrains.getD k zTTerrain
  pName t.Name && ((pTI r.Terrains t.Name == (k : Int)) && (((t.Cost.length : Int) == (r.Kinds.length : Int)) && ((t.Cost.all fun x => pIn x 0 9) && (pIn t.Shift (-3) 3 && pIn t.Height 0 3))))
noncomputable def qK (r : TRules) (k : Nat) : Bool :=
  let t := r.Kinds.getD k zTKind
  pName t.Name && ((pKI r.Kinds t.Name == (k : Int)) && (pIn t.Strength 1 9 && (pIn t.Moves 0 9 && (pIn t.Steps 1 4 && pIn t.View 0 4))))
noncomputable def pRules (r : TRules) : Bool :=
  pIn (r.Terrains.length : Int) 1 6 && (pIn (r.Kinds.length : Int) 1 4 && (allFrom r.Terrains.length 0 (qT r) && (allFrom r.Kinds.length 0 (qK r) && (pIn r.Stack 1 4 && (pIn r.River 0 9 && (pIn r.Road 1 9 && (pIn r.Supply 0 20 && pIn r.Turns 1 30)))))))

theorem costs_eq (xs : List Int) (h : xs.length ≤ SM) : X.g_ContainsFunc_int xs (fun q0 => X.i_goodTerrain_1 q0) = some (!(xs.all fun x => pIn x 0 9)) := by
  have hm := mL
  have := hasF_eq (z := zI) (f := fun q0 => X.i_goodTerrain_1 q0) (p := fun x => !(pIn x 0 9)) (xs := xs) (by unfold SM at h; omega) (fun x _ => by unfold X.i_goodTerrain_1; rw [i_in]; rfl)
  rw [List.not_all_eq_any_not]
  exact this

theorem getD_mem {α : Type} {xs : List α} {k : Nat} {z : α} (h : k < xs.length) : xs.getD k z ∈ xs := by
  have : xs.getD k z = xs[k] := by simp [List.getD, h]
  rw [this]; exact List.getElem_mem h

theorem rules_eq (r : TRules) (q : smTRules r) : X.s_rGood r = some (pRules r) ∧ X.i_IsRules r = some (pRules r) := by
  have hm := mL
  have hT : r.Terrains.length ≤ maxLen := by have := q.1.1; unfold SM at this; omega
  have hK : r.Kinds.length ≤ maxLen := by have := q.2.1.1; unfold SM at this; omega
  have hTn : ∀ k, k < r.Terrains.length → (r.Terrains.getD k zTTerrain).Name.length ≤ maxLen ∧ (r.Terrains.getD k zTTerrain).Cost.length ≤ SM := fun k hk => by
    have := q.1.2 _ (getD_mem (z := zTTerrain) hk)
    exact ⟨by have := this.1; unfold smS SM at this; omega, this.2.1.1⟩
  have hKn : ∀ k, k < r.Kinds.length → (r.Kinds.getD k zTKind).Name.length ≤ maxLen := fun k hk => by
    have := (q.2.1.2 _ (getD_mem (z := zTKind) hk)).1
    unfold smS SM at this; omega
  constructor
  · unfold X.s_rGood pRules
    simp only [s_in, Option.bind_some, bif_not]
    cases pIn (r.Terrains.length : Int) 1 6
    · rfl
    cases pIn (r.Kinds.length : Int) 1 4
    · rfl
    simp only [cond_true, Bool.true_and]
    rw [run_allN r.Terrains.length (qT r) (.inr false) (.inl ()) ?_ ?_]
    · cases allFrom r.Terrains.length 0 (qT r)
      · rfl
      simp only [cond_true, Sum.elim_inl, Bool.true_and]
      rw [run_allN r.Kinds.length (qK r) (.inr false) (.inl ()) ?_ ?_]
      · cases allFrom r.Kinds.length 0 (qK r)
        · rfl
        simp only [cond_true, Sum.elim_inl, Bool.true_and]
        cases pIn r.Stack 1 4 <;> cases pIn r.River 0 9 <;> cases pIn r.Road 1 9 <;> cases pIn r.Supply 0 20 <;> rfl
      · intro k hk
        simp only [lt_cast hk, cond_true, at_getD hk, Option.bind_some, (name_eq _ (hKn k hk)).1, (ki_eq _ _ hK).1, W_up hk hK, qK]
        cases pName (r.Kinds.getD k zTKind).Name
        · rfl
        cases h : pKI r.Kinds (r.Kinds.getD k zTKind).Name == (k : Int)
        · simp only [bne, h]; rfl
        simp only [bne, h, Bool.not_true, cond_false, cond_true, Bool.true_and]
        cases pIn (r.Kinds.getD k zTKind).Strength 1 9 <;> cases pIn (r.Kinds.getD k zTKind).Moves 0 9 <;> cases pIn (r.Kinds.getD k zTKind).Steps 1 4 <;> cases pIn (r.Kinds.getD k zTKind).View 0 4 <;> rfl
      · simp only [nlt_self, cond_false]
    · intro k hk
      simp only [lt_cast hk, cond_true, at_getD hk, Option.bind_some, (name_eq _ (hTn k hk).1).1, (ti_eq _ _ hT).1, s_all _ _ _ (hTn k hk).2, W_up hk hT, qT]
      cases pName (r.Terrains.getD k zTTerrain).Name
      · rfl
      cases h : pTI r.Terrains (r.Terrains.getD k zTTerrain).Name == (k : Int)
      · simp only [bne, h]; rfl
      cases h2 : ((r.Terrains.getD k zTTerrain).Cost.length : Int) == (r.Kinds.length : Int)
      · simp only [bne, h, h2]; rfl
      simp only [bne, h, h2, Bool.not_true, cond_false, cond_true, Bool.true_and]
      cases ((r.Terrains.getD k zTTerrain).Cost.all fun x => pIn x 0 9) <;> cases pIn (r.Terrains.getD k zTTerrain).Shift (-3) 3 <;> cases pIn (r.Terrains.getD k zTTerrain).Height 0 3 <;> rfl
    · simp only [nlt_self, cond_false]
  · unfold X.i_IsRules pRules
    simp only [i_in, Option.bind_some, bif_not]
    cases pIn (r.Terrains.length : Int) 1 6
    · rfl
    cases pIn (r.Kinds.length : Int) 1 4
    · rfl
    simp only [cond_true, Bool.true_and]
    rw [run_allN r.Terrains.length (qT r) (.inr false) (.inl ()) ?_ ?_]
    · cases allFrom r.Terrains.length 0 (qT r)
      · rfl
      simp only [cond_true, Sum.elim_inl, Bool.true_and]
      rw [run_allN r.Kinds.length (qK r) (.inr false) (.inl ()) ?_ ?_]
      · cases allFrom r.Kinds.length 0 (qK r)
        · rfl
        simp only [cond_true, Sum.elim_inl, Bool.true_and]
        cases pIn r.Stack 1 4 <;> cases pIn r.River 0 9 <;> cases pIn r.Road 1 9 <;> cases pIn r.Supply 0 20 <;> rfl
      · intro k hk
        simp only [lt_cast hk, cond_true, at_getD hk, Option.bind_some, X.i_goodKind, i_in, (name_eq _ (hKn k hk)).2, (ki_eq _ _ hK).2, W_up hk hK, qK]
        cases pName (r.Kinds.getD k zTKind).Name
        · rfl
        cases h : pKI r.Kinds (r.Kinds.getD k zTKind).Name == (k : Int) <;> simp only [bne, h] <;>
        cases pIn (r.Kinds.getD k zTKind).Strength 1 9 <;> cases pIn (r.Kinds.getD k zTKind).Moves 0 9 <;> cases pIn (r.Kinds.getD k zTKind).Steps 1 4 <;> cases pIn (r.Kinds.getD k zTKind).View 0 4 <;> rfl
      · simp only [nlt_self, cond_false]
    · intro k hk
      simp only [lt_cast hk, cond_true, at_getD hk, Option.bind_some, X.i_goodTerrain, i_in, (name_eq _ (hTn k hk).1).2, (ti_eq _ _ hT).2, costs_eq _ (hTn k hk).2, W_up hk hT, qT]
      cases pName (r.Terrains.getD k zTTerrain).Name
      · rfl
      cases h2 : ((r.Terrains.getD k zTTerrain).Cost.length : Int) == (r.Kinds.length : Int)
      · simp only [bne, h2]; cases (pTI r.Terrains (r.Terrains.getD k zTTerrain).Name == (k : Int)) <;> rfl
      cases h : pTI r.Terrains (r.Terrains.getD k zTTerrain).Name == (k : Int) <;> simp only [bne, h, h2, Bool.not_true, cond_false, cond_true, Bool.true_and] <;>
      cases ((r.Terrains.getD k zTTerrain).Cost.all fun x => pIn x 0 9) <;> cases pIn (r.Terrains.getD k zTTerrain).Shift (-3) 3 <;> cases pIn (r.Terrains.getD k zTTerrain).Height 0 3 <;> rfl
    · simp only [nlt_self, cond_false]

/-! ### maps -/
def dQ : List Int := [1, 1, 0, -1, -1, 0]
def dR : List Int := [0, -1, -1, 0, 1, 1]
/-- A map's sides. -/
def okSides (m : TMap) : Prop := 1 ≤ m.Width ∧ m.Width ≤ 10 ∧ 1 ≤ m.Height ∧ m.Height ≤ 10
def pIdx (m : TMap) (a b : Int) : Int := bif pIn a 0 (m.Width - 1) && pIn b 0 (m.Height - 1) then b * m.Width + a else -1
/-- The neighbour's index, or -1. -/
def pNext (m : TMap) (i : Int) (d : Int) : Int := pIdx m (i % m.Width + dQ.getD d.toNat 0) (i / m.Width + dR.getD d.toNat 0)
theorem size_eq (m : TMap) (h : okSides m) : W (m.Width * m.Height) = m.Width * m.Height ∧ 1 ≤ m.Width * m.Height ∧ m.Width * m.Height ≤ 100 := by
  obtain ⟨h1, h2, h3, h4⟩ := h
  have a : 1 * 1 ≤ m.Width * m.Height := Int.mul_le_mul h1 h3 (by omega) (by omega)
  have b : m.Width * m.Height ≤ 10 * 10 := Int.mul_le_mul h2 h4 (by omega) (by omega)
  exact ⟨W_of (by omega), by omega, by omega⟩
theorem tmod_nn {a b : Int} (ha : 0 ≤ a) (hb : 1 ≤ b) : Int.tmod a b = a % b := Int.tmod_eq_emod_of_nonneg ha
theorem tdiv_nn {a b : Int} (ha : 0 ≤ a) : Int.tdiv a b = a / b := Int.tdiv_eq_ediv_of_nonneg ha
theorem idx_eq (m : TMap) (h : okSides m) (a b : Int) : X.s_mIndex m ⟨a, b⟩ = some (pIdx m a b) ∧ X.i_indexOf m ⟨a, b⟩ = some (pIdx m a b) := by
  have hw := h
  obtain ⟨h1, h2, h3, h4⟩ := h
  unfold X.s_mIndex X.i_indexOf X.i_isIndex pIdx
  simp only [s_in, i_in, Option.bind_some]
  rw [W_of (n := m.Width - 1) (by omega), W_of (n := m.Height - 1) (by omega)]
  cases ha : pIn a 0 (m.Width - 1)
  · exact ⟨rfl, rfl⟩
  cases hb : pIn b 0 (m.Height - 1)
  · exact ⟨rfl, rfl⟩
  simp only [Bool.not_true, cond_false, Bool.and_self, cond_true]
  rw [pIn_iff] at ha hb
  have e1 : 0 * 1 ≤ b * m.Width := Int.mul_le_mul (by omega) (by omega) (by omega) (by omega)
  have e2 : b * m.Width ≤ 10 * 10 := Int.mul_le_mul (by omega) (by omega) (by omega) (by omega)
  rw [W_of (n := b * m.Width) (by omega), W_of (by omega)]
  exact ⟨rfl, rfl⟩
theorem pIdx_lt {m : TMap} (h : okSides m) {a b : Int} : pIdx m a b = -1 ∨ (0 ≤ pIdx m a b ∧ pIdx m a b < m.Width * m.Height) := by
  obtain ⟨h1, h2, h3, h4⟩ := h
  unfold pIdx
  cases ha : pIn a 0 (m.Width - 1) && pIn b 0 (m.Height - 1)
  · exact .inl rfl
  · simp only [Bool.and_eq_true, pIn_iff] at ha
    right
    simp only [cond_true]
    have e1 : 0 * 1 ≤ b * m.Width := Int.mul_le_mul (by omega) (by omega) (by omega) (by omega)
    have e2 : b * m.Width ≤ (m.Height - 1) * m.Width := Int.mul_le_mul_of_nonneg_right (by omega) (by omega)
    have e3 : (m.Height - 1) * m.Width = m.Width * m.Height - m.Width := by rw [Int.sub_mul, Int.mul_comm m.Height, Int.one_mul]
    omega
theorem dirs_getD (d : Nat) (h : d < 6) : dirs.getD d zTHex = ⟨dQ.getD d 0, dR.getD d 0⟩ ∧ -1 ≤ dQ.getD d 0 ∧ dQ.getD d 0 ≤ 1 ∧ -1 ≤ dR.getD d 0 ∧ dR.getD d 0 ≤ 1 := by
  match d, h with
  | 0, _ => exact ⟨rfl, by decide⟩
  | 1, _ => exact ⟨rfl, by decide⟩
  | 2, _ => exact ⟨rfl, by decide⟩
  | 3, _ => exact ⟨rfl, by decide⟩
  | 4, _ => exact ⟨rfl, by decide⟩
  | 5, _ => exact ⟨rfl, by decide⟩
theorem next_eq (m : TMap) (h : okSides m) (i d : Int) (hi : 0 ≤ i ∧ i < 4611686018427387904) (hd : 0 ≤ d ∧ d < 6) : X.s_mNext m i d = some (pNext m i d) ∧ X.i_nextTo m i d = some (pNext m i d) := by
  have hw := h
  obtain ⟨h1, h2, h3, h4⟩ := h
  obtain ⟨k, rfl⟩ := Int.eq_ofNat_of_zero_le hd.1
  have hk : k < 6 := by omega
  obtain ⟨g0, g1, g2, g3, g4⟩ := dirs_getD k hk
  have hne : m.Width ≠ 0 := by omega
  have hm1 : 0 ≤ i % m.Width := Int.emod_nonneg _ hne
  have hm2 : i % m.Width < m.Width := Int.emod_lt_of_pos _ (by omega)
  have hd1 : 0 ≤ i / m.Width := Int.ediv_nonneg hi.1 (by omega)
  have hd2 : i / m.Width ≤ i := Int.ediv_le_self _ hi.1
  have e : pNext m i (k : Int) = pIdx m (i % m.Width + dQ.getD k 0) (i / m.Width + dR.getD k 0) := rfl
  constructor
  · unfold X.s_mNext X.s_mHex X.s_hStep
    rw [if_pos hne, if_pos hne]
    simp only [Option.bind_some]
    have hl1 : 0 ≤ (k : Int) ∧ (k : Int) < (([1, 1, 0, -1, -1, 0] : List Int).length : Int) := ⟨by omega, by simp; omega⟩
    have hl2 : 0 ≤ (k : Int) ∧ (k : Int) < (([0, -1, -1, 0, 1, 1] : List Int).length : Int) := ⟨by omega, by simp; omega⟩
    rw [if_pos hl1, if_pos hl2]
    simp only [Option.bind_some, Int.toNat_natCast]
    rw [tmod_nn hi.1 h1, tdiv_nn hi.1, W_of (n := i / m.Width) (by omega)]
    change ((X.s_mIndex m (THex.mk (W (i % m.Width + dQ.getD k 0)) (W (i / m.Width + dR.getD k 0)))).bind fun v5 => some v5) = _
    rw [W_of (n := i % m.Width + dQ.getD k 0) (by omega), W_of (n := i / m.Width + dR.getD k 0) (by omega), (idx_eq m hw _ _).1, e]; rfl
  · unfold X.i_nextTo X.i_hexOf X.i_stepBy
    rw [if_pos hne, if_pos hne]
    simp only [Option.bind_some]
    rw [tmod_nn hi.1 h1, tdiv_nn hi.1, W_of (n := i / m.Width) (by omega)]
    rw [at_getD (z := zTHex) (xs := dirs) (k := k) hk, g0]
    simp only [Option.bind_some, Int.one_mul]
    rw [W_of (n := dQ.getD k 0) (by omega), W_of (n := dR.getD k 0) (by omega)]
    rw [W_of (n := i % m.Width + dQ.getD k 0) (by omega), W_of (n := i / m.Width + dR.getD k 0) (by omega), (idx_eq m hw _ _).2, e]; rfl

/-- A number is that of an edge. -/
def pEdge (m : TMap) (e : Int) : Bool := pIn e 0 (3 * (m.Width * m.Height) - 1) && decide (0 ≤ pNext m (e / 3) (e % 3))
def pIncr (l : List Int) : Bool := allFrom (l.length - 1) 1 fun k => decide (l.getD (k - 1) 0 < l.getD k 0)
def pEdges (m : TMap) (l : List Int) : Bool := l.all (pEdge m) && pIncr l

theorem isEdge_eq (m : TMap) (h : okSides m) (e : Int) : X.i_isEdge m e = some (pEdge m e) := by
  obtain ⟨h5, h6, h7⟩ := size_eq m h
  have hw := h
  obtain ⟨h1, h2, h3, h4⟩ := h
  unfold X.i_isEdge pEdge
  have e3 : W ((W ((W (3 * m.Width)) * m.Height)) - 1) = 3 * (m.Width * m.Height) - 1 := by
    rw [W_of (n := 3 * m.Width) (by omega), Int.mul_assoc, W_of (n := 3 * (m.Width * m.Height)) (by omega), W_of (by omega)]
  rw [e3]
  simp only [i_in, Option.bind_some]
  cases hp : pIn e 0 (3 * (m.Width * m.Height) - 1)
  · rfl
  · rw [pIn_iff] at hp
    simp only [cond_true, Bool.true_and]
    have q1 : Int.tdiv e 3 = e / 3 := tdiv_nn hp.1
    have q2 : Int.tmod e 3 = e % 3 := tmod_nn hp.1 (by omega)
    rw [q1, q2, W_of (n := e / 3) (by omega), (next_eq m hw (e / 3) (e % 3) (by omega) (by omega)).2]
    simp
theorem s_edge (m : TMap) (h : okSides m) (e : Int) : ((X.s_mSize m).bind fun v73 => (X.s_l1In e 0 (W ((W (3 * v73)) - 1)))) = some (pIn e 0 (3 * (m.Width * m.Height) - 1)) ∧
    (pIn e 0 (3 * (m.Width * m.Height) - 1) = true → X.s_mNext m (W (Int.tdiv e 3)) (Int.tmod e 3) = some (pNext m (e / 3) (e % 3))) := by
  obtain ⟨h5, h6, h7⟩ := size_eq m h
  unfold X.s_mSize
  simp only [Option.bind_some, s_in]
  rw [h5, W_of (n := 3 * (m.Width * m.Height)) (by omega), W_of (by omega)]
  refine ⟨rfl, fun hp => ?_⟩
  rw [pIn_iff] at hp
  have q1 : Int.tdiv e 3 = e / 3 := tdiv_nn hp.1
  have q2 : Int.tmod e 3 = e % 3 := tmod_nn hp.1 (by omega)
  rw [q1, q2, W_of (n := e / 3) (by omega)]
  exact (next_eq m h (e / 3) (e % 3) (by omega) (by omega)).1
theorem incr_eq (l : List Int) (h : l.length ≤ SM) : X.i_increasing l = some (pIncr l) := by
  have hm := mL
  have h' := h
  unfold SM at h'
  unfold X.i_increasing pIncr
  by_cases h0 : l.length = 0
  · rw [loop_eq, h0]; rfl
  · have := loop_allFrom (body := (fun (x16 : Int) => ((bif (decide (x16 < (l.length : Int))) then ((at' zI l (W (x16 - 1))).bind fun v19 => ((at' zI l x16).bind fun v21 => (bif (decide (v19 ≥ v21)) then some (Sum.inr (Sum.inr false)) else some (Sum.inl (W (x16 + 1)))))) else some (Sum.inr (Sum.inl ()))) : Option (Int ⊕ (Unit ⊕ Bool)))))
      (fun k => decide (l.getD (k - 1) 0 < l.getD k 0)) (.inr false) (.inl ()) (l.length - 1) 1 (fun j h1 h2 => by
        have hj : j < l.length := by omega
        have e1 : W ((j : Int) - 1) = ((j - 1 : Nat) : Int) := by rw [W_of (by omega)]; omega
        simp only [lt_cast hj, cond_true, e1, at_getD (show j - 1 < l.length by omega), at_getD hj, Option.bind_some, W_up hj (show l.length ≤ maxLen by omega)]
        show _ = some (bif decide (l.getD (j - 1) zI < l.getD j zI) then _ else _)
        by_cases e : l.getD (j - 1) zI < l.getD j zI
        · have e' : ¬ l.getD (j - 1) zI ≥ l.getD j zI := by omega
          simp only [e, e', decide_true, decide_false, cond_true, cond_false]
        · have e' : l.getD (j - 1) zI ≥ l.getD j zI := by omega
          simp only [e, e', decide_true, decide_false, cond_true, cond_false]) (by
        have : 1 + (l.length - 1) = l.length := by omega
        rw [this]; simp only [nlt_self, cond_false])
    rw [show ((1 : Nat) : Int) = 1 from rfl] at this
    rw [this]
    cases allFrom (l.length - 1) 1 fun k => decide (l.getD (k - 1) 0 < l.getD k 0) <;> rfl
theorem rising_eq (l : List Int) (lo hi : Int) (h : l.length ≤ SM) : X.s_l1Rising l lo hi = some (allFrom l.length 0 fun k => pIn (l.getD k 0) lo hi && (decide (k = 0) || decide (l.getD (k - 1) 0 < l.getD k 0))) := by
  have hm := mL
  have h' := h
  unfold SM at h'
  unfold X.s_l1Rising
  rw [run_allN l.length (fun k => pIn (l.getD k 0) lo hi && (decide (k = 0) || decide (l.getD (k - 1) 0 < l.getD k 0))) (.inr false) (.inl ()) ?_ ?_]
  · cases allFrom l.length 0 _ <;> rfl
  · intro k hk
    simp only [lt_cast hk, cond_true, at_getD hk, Option.bind_some, s_in, W_up hk (show l.length ≤ maxLen by omega)]
    show _ = some (bif pIn (l.getD k zI) lo hi && (decide (k = 0) || decide (l.getD (k - 1) zI < l.getD k zI)) then _ else _)
    cases pIn (l.getD k zI) lo hi
    · rfl
    simp only [Bool.not_true, cond_false, Bool.true_and]
    by_cases h0 : k = 0
    · subst h0; simp
    · have e0 : (k : Int) > 0 := by omega
      have e1 : W ((k : Int) - 1) = ((k - 1 : Nat) : Int) := by rw [W_of (by omega)]; omega
      simp only [e0, decide_true, cond_true, e1, at_getD (show k - 1 < l.length by omega), Option.bind_some, h0, decide_false, Bool.false_or]
      by_cases e : l.getD (k - 1) zI < l.getD k zI
      · have e' : ¬ l.getD (k - 1) zI ≥ l.getD k zI := by omega
        simp only [e, e', decide_true, decide_false, cond_true, cond_false]
      · have e' : l.getD (k - 1) zI ≥ l.getD k zI := by omega
        simp only [e, e', decide_true, decide_false, cond_true, cond_false]
  · simp only [nlt_self, cond_false]
theorem rising_incr (l : List Int) (lo hi : Int) (h : ∀ k, k < l.length → pIn (l.getD k 0) lo hi = true) : (allFrom l.length 0 fun k => pIn (l.getD k 0) lo hi && (decide (k = 0) || decide (l.getD (k - 1) 0 < l.getD k 0))) = pIncr l := by
  rw [Bool.eq_iff_iff]
  unfold pIncr
  rw [allFrom_iff, allFrom_iff]
  constructor
  · intro g j h1 h2
    have := g j (by omega) (by omega)
    simp only [Bool.and_eq_true, Bool.or_eq_true, decide_eq_true_eq] at this ⊢
    rcases this.2 with e | e
    · omega
    · exact e
  · intro g j _ h2
    simp only [Bool.and_eq_true, Bool.or_eq_true, decide_eq_true_eq]
    refine ⟨h j (by omega), ?_⟩
    by_cases e : j = 0
    · exact .inl e
    · have := g j (by omega) (by omega)
      exact .inr (by simpa using this)
theorem edges_eq (m : TMap) (h : okSides m) (l : List Int) (hl : l.length ≤ SM) : X.s_mEdges m l = some (pEdges m l) := by
  have hm := mL
  have hl' := hl
  unfold SM at hl'
  obtain ⟨h5, h6, h7⟩ := size_eq m h
  have e3 : W ((W (3 * (W (m.Width * m.Height)))) - 1) = 3 * (m.Width * m.Height) - 1 := by rw [h5, W_of (n := 3 * (m.Width * m.Height)) (by omega), W_of (by omega)]
  unfold X.s_mEdges pEdges
  rw [run_all l (pEdge m) (.inr false) (.inl ()) rfl ?_ ?_]
  · cases ha : l.all (pEdge m)
    · rfl
    · simp only [cond_true, Sum.elim_inl, X.s_mSize, Option.bind_some, Bool.true_and, e3, rising_eq l _ _ hl]
      rw [rising_incr]
      intro k hk
      have := List.all_eq_true.1 ha _ (getD_mem (z := 0) hk)
      unfold pEdge at this
      rw [Bool.and_eq_true] at this
      exact this.1
  · intro k hk
    simp only [lt_cast hk, cond_true, at_nat hk, Option.bind_some, X.s_mSize, e3, s_in, W_up hk (show l.length ≤ maxLen by omega)]
    unfold pEdge
    cases hp : pIn l[k] 0 (3 * (m.Width * m.Height) - 1)
    · rfl
    · simp only [Bool.not_true, cond_false, (s_edge m h l[k]).2 hp, Option.bind_some, Bool.true_and]
      by_cases e : pNext m (l[k] / 3) (l[k] % 3) < 0
      · have e' : ¬ 0 ≤ pNext m (l[k] / 3) (l[k] % 3) := by omega
        simp only [e, e', decide_true, decide_false, cond_true, cond_false]
      · have e' : 0 ≤ pNext m (l[k] / 3) (l[k] % 3) := by omega
        simp only [e, e', decide_true, decide_false, cond_true, cond_false]
  · simp only [nlt_self, cond_false]

def pMap (m : TMap) : Bool :=
  pIn m.Width 1 10 && (pIn m.Height 1 10 && (((m.Terrain.length : Int) == m.Width * m.Height) && ((m.Terrain.all fun x => pIn x 0 5) && (pEdges m m.Rivers && pEdges m m.Roads))))
theorem map_eq (m : TMap) (q : smTMap m) : X.s_mGood m = some (pMap m) ∧ X.i_IsMap m = some (pMap m) := by
  have hm := mL
  have hT : m.Terrain.length ≤ maxLen := by have := q.2.2.1.1; unfold SM at this; omega
  have ed : ∀ l : List Int, l.length ≤ SM → okSides m → ∀ {γ : Type} (f : Unit ⊕ Bool → Option γ), ((loop (fun (x167 : Int) => ((bif (decide (x167 < (l.length : Int))) then ((at' zI l x167).bind fun v170 => ((X.i_isEdge m v170).bind fun v172 => (bif (!v172) then some (Sum.inr (Sum.inr false)) else some (Sum.inl (W (x167 + 1)))))) else some (Sum.inr (Sum.inl ()))) : Option (Int ⊕ (Unit ⊕ Bool)))) 0).bind f) = f (bif l.all (pEdge m) then .inl () else .inr false) := by
    intro l hl hs γ f
    have hl' := hl
    unfold SM at hl'
    rw [run_all l (pEdge m) (.inr false) (.inl ()) rfl ?_ ?_]
    · intro k hk
      simp only [lt_cast hk, cond_true, at_nat hk, Option.bind_some, isEdge_eq m hs, W_up hk (show l.length ≤ maxLen by omega)]
      cases pEdge m l[k] <;> rfl
    · simp only [nlt_self, cond_false]
  unfold X.s_mGood X.i_IsMap pMap
  simp only [s_in, i_in, Option.bind_some]
  cases h1 : pIn m.Width 1 10
  · exact ⟨rfl, rfl⟩
  cases h2 : pIn m.Height 1 10
  · exact ⟨rfl, rfl⟩
  rw [pIn_iff] at h1 h2
  have hs : okSides m := ⟨h1.1, h1.2, h2.1, h2.2⟩
  obtain ⟨h5, h6, h7⟩ := size_eq m hs
  simp only [Bool.not_true, cond_false, cond_true, Bool.true_and, X.s_mSize, Option.bind_some, h5]
  cases h3 : (m.Terrain.length : Int) == m.Width * m.Height
  · refine ⟨rfl, ?_⟩
    simp only [bne, h3]; rfl
  simp only [bne, h3, Bool.not_true, cond_false, cond_true, Bool.true_and]
  rw [s_all _ _ _ q.2.2.1.1]
  rw [run_all m.Terrain (fun x => pIn x 0 5) (.inr false) (.inl ()) rfl ?_ ?_]
  · cases ht : (m.Terrain.all fun x => pIn x 0 5)
    · exact ⟨rfl, rfl⟩
    simp only [cond_true, Sum.elim_inl, Option.bind_some, Bool.true_and, edges_eq m hs _ q.2.2.2.1.1, edges_eq m hs _ q.2.2.2.2.1.1]
    refine ⟨by cases pEdges m m.Rivers <;> rfl, ?_⟩
    rw [run_allN 2 (fun k => pIncr (([m.Rivers, m.Roads] : List (List Int)).getD k zLI) && (([m.Rivers, m.Roads] : List (List Int)).getD k zLI).all (pEdge m)) (.inr false) (.inl ()) ?_ ?_]
    · simp only [allFrom, pEdges, Bool.and_true]
      show _ = some ((m.Rivers.all (pEdge m) && pIncr m.Rivers) && (m.Roads.all (pEdge m) && pIncr m.Roads))
      change Sum.elim _ _ (bif ((pIncr m.Rivers && m.Rivers.all (pEdge m)) && (pIncr m.Roads && m.Roads.all (pEdge m))) then _ else _) = _
      cases pIncr m.Rivers <;> cases m.Rivers.all (pEdge m) <;> cases pIncr m.Roads <;> cases m.Roads.all (pEdge m) <;> rfl
    · intro k hk
      have g1 : (([m.Rivers, m.Roads] : List (List Int)).getD k zLI).length ≤ SM := by
        rcases (show k = 0 ∨ k = 1 by omega) with rfl | rfl
        · exact q.2.2.2.1.1
        · exact q.2.2.2.2.1.1
      have g2 : 0 ≤ (k : Int) ∧ (k : Int) < (([m.Rivers, m.Roads] : List (List Int)).length : Int) := ⟨by omega, by simp; omega⟩
      rw [show decide ((k : Int) < (([m.Rivers, m.Roads] : List (List Int)).length : Int)) = true from decide_eq_true g2.2]
      simp only [cond_true]
      rw [if_pos g2]
      simp only [Int.toNat_natCast]
      rw [incr_eq _ g1]
      simp only [Option.bind_some]
      cases pIncr (([m.Rivers, m.Roads] : List (List Int)).getD k zLI)
      · rfl
      simp only [Bool.not_true, cond_false, Bool.true_and]
      rw [ed _ g1 hs]
      have : W ((k : Int) + 1) = ((k + 1 : Nat) : Int) := by rw [W_of (by omega)]; omega
      rw [this]
      cases (([m.Rivers, m.Roads] : List (List Int)).getD k zLI).all (pEdge m) <;> rfl
    · rfl
  · intro k hk
    have e6 : W ((6 : Int) - 1) = 5 := rfl
    simp only [lt_cast hk, cond_true, at_nat hk, Option.bind_some, X.i_isIndex, i_in, e6, W_up hk hT]
    cases pIn m.Terrain[k] 0 5 <;> rfl
  · simp only [nlt_self, cond_false]

noncomputable def pBoard (b : TBoard) : Bool := pRules b.Rules && (pMap b.Map && b.Map.Terrain.all fun x => pIn x 0 ((b.Rules.Terrains.length : Int) - 1))
theorem board_eq (b : TBoard) (q : smTBoard b) : X.s_bGood b = some (pBoard b) ∧ X.i_IsBoard b = some (pBoard b) := by
  have hm := mL
  have hl := q.2.1.2.2.1.1
  have hl' := hl
  unfold SM at hl'
  have hn := q.1.1.1
  unfold SM at hn
  unfold X.s_bGood X.i_IsBoard pBoard
  rw [(rules_eq _ q.1).1, (rules_eq _ q.1).2, (map_eq _ q.2.1).1, (map_eq _ q.2.1).2]
  simp only [Option.bind_some]
  cases pRules b.Rules
  · exact ⟨rfl, rfl⟩
  cases hmap : pMap b.Map
  · exact ⟨rfl, rfl⟩
  simp only [Bool.not_true, cond_false, cond_true, Bool.true_and]
  rw [W_of (n := (b.Rules.Terrains.length : Int) - 1) (by omega), s_all _ _ _ hl]
  refine ⟨rfl, ?_⟩
  have hc : X.g_ContainsFunc_int b.Map.Terrain (fun q0 => X.i_IsBoard_1 q0 b) = some (b.Map.Terrain.any fun x => decide (x ≥ (b.Rules.Terrains.length : Int))) :=
    (hasF_eq (z := zI) (f := fun q0 => X.i_IsBoard_1 q0 b) (p := fun x => decide (x ≥ (b.Rules.Terrains.length : Int))) (by omega) (fun x _ => rfl) : _)
  rw [hc]
  simp only [Option.bind_some, Option.some.injEq]
  unfold pMap at hmap
  simp only [Bool.and_eq_true] at hmap
  have h0 := hmap.2.2.2.1
  rw [Bool.eq_iff_iff]
  simp only [Bool.not_eq_true', List.any_eq_false, List.all_eq_true, decide_eq_true_eq]
  constructor
  · intro h x hx
    have h1 := h x hx
    have h2 := List.all_eq_true.1 h0 x hx
    rw [pIn_iff] at h2 ⊢
    omega
  · intro h x hx
    have h1 := h x hx
    rw [pIn_iff] at h1
    omega
theorem sides_of {b : TBoard} (h : pBoard b = true) : okSides b.Map ∧ ((b.Map.Terrain.length : Int) = b.Map.Width * b.Map.Height) := by
  unfold pBoard at h
  simp only [Bool.and_eq_true] at h
  have h1 := h.2.1
  unfold pMap at h1
  simp only [Bool.and_eq_true, pIn_iff, beq_iff_eq] at h1
  exact ⟨⟨h1.1.1, h1.1.2, h1.2.1.1, h1.2.1.2⟩, h1.2.2.1⟩
theorem core (a0 : TBoard) (a1 : TMemory) (k0 : okTBoard a0) (k1 : okTMemory a1) (q0 : smTBoard a0) (q1 : smTMemory a1) : ∃ w, X.s_IsMemory a0 a1 = some w ∧ X.i_IsMemory a0 a1 = some w := by
  have hm := mL
  have hT := q1.1.1
  have hC := q1.2.1.1
  unfold SM at hT hC
  unfold X.s_IsMemory X.i_IsMemory
  rw [(board_eq a0 q0).1, (board_eq a0 q0).2]
  simp only [Option.bind_some]
  cases hb : pBoard a0
  · exact ⟨_, rfl, rfl⟩
  simp only [Bool.not_true, cond_false]
  obtain ⟨hs, hl⟩ := sides_of hb
  unfold X.s_fgMemory X.i_goodMemory
  rw [(board_eq a0 q0).1, hb]
  simp only [Option.bind_some, Bool.not_true, cond_false, X.s_mSize, X.i_sizeOf]
  rw [(size_eq _ hs).1, ← hl]
  cases h1 : ((a1.Turns.length : Int) == (a0.Map.Terrain.length : Int))
  · simp only [bne, h1]; exact ⟨_, rfl, rfl⟩
  have e1 : (a1.Turns.length : Int) = (a0.Map.Terrain.length : Int) := by simpa using h1
  simp only [bne, h1, Bool.not_true, cond_false, e1, beq_self_eq_true]
  cases h2 : ((a1.Counts.length : Int) == (a0.Map.Terrain.length : Int))
  · exact ⟨_, rfl, rfl⟩
  have e2 : a1.Counts.length = a1.Turns.length := by
    have : (a1.Counts.length : Int) = (a0.Map.Terrain.length : Int) := by simpa using h2
    omega
  simp only [Bool.not_true, cond_false, s_all _ _ _ q1.1.1, s_all _ _ _ q1.2.1.1, Option.bind_some]
  have hi := run_allN (body := (fun (x42 : Int) => ((bif (decide (x42 < (a0.Map.Terrain.length : Int))) then ((at' zI a1.Turns x42).bind fun v45 => ((X.i_inRange v45 (-1) a0.Rules.Turns).bind fun v47 => (bif (!v47) then some (Sum.inr (Sum.inr false)) else ((at' zI a1.Counts x42).bind fun v50 => ((X.i_inRange v50 0 4).bind fun v52 => (bif (!v52) then some (Sum.inr (Sum.inr false)) else (bif (v45 == (-1)) then (bif (!(v50 == 0)) then some (Sum.inr (Sum.inr false)) else some (Sum.inl (W (x42 + 1)))) else some (Sum.inl (W (x42 + 1)))))))))) else some (Sum.inr (Sum.inl ()))) : Option (Int ⊕ (Unit ⊕ Bool)))))
    (f := fun y57 => (Sum.elim (fun (y59 : Unit) => some true) (fun (y60 : Bool) => some y60) y57)) a1.Turns.length
    (fun k => pIn (a1.Turns.getD k zI) (-1) a0.Rules.Turns && (pIn (a1.Counts.getD k zI) 0 4 && !((a1.Turns.getD k zI == -1) && !(a1.Counts.getD k zI == 0)))) (.inr false) (.inl ()) (by
      intro k hk
      have hk2 : k < a1.Counts.length := by omega
      simp only [← e1, lt_cast hk, cond_true, at_getD hk, at_getD hk2, Option.bind_some, i_in, W_up hk (show a1.Turns.length ≤ maxLen by omega)]
      cases pIn (a1.Turns.getD k zI) (-1) a0.Rules.Turns
      · rfl
      cases pIn (a1.Counts.getD k zI) 0 4
      · rfl
      cases (a1.Turns.getD k zI == -1) <;> cases (a1.Counts.getD k zI == 0) <;> rfl) (by simp only [e1, nlt_self, cond_false])
  have hsp := run_allN (body := (fun (x44 : Int) => ((bif (decide (x44 < (a0.Map.Terrain.length : Int))) then ((at' zI a1.Turns x44).bind fun v47 => (bif (decide (v47 < 0)) then ((at' zI a1.Counts x44).bind fun v50 => (bif (decide (v50 > 0)) then some (Sum.inr (Sum.inr false)) else some (Sum.inl (W (x44 + 1))))) else some (Sum.inl (W (x44 + 1))))) else some (Sum.inr (Sum.inl ()))) : Option (Int ⊕ (Unit ⊕ Bool)))))
    (f := fun y53 => (Sum.elim (fun (y55 : Unit) => some true) (fun (y56 : Bool) => some y56) y53)) a1.Turns.length
    (fun k => !(decide (a1.Turns.getD k zI < 0) && decide (a1.Counts.getD k zI > 0))) (.inr false) (.inl ()) (by
      intro k hk
      have hk2 : k < a1.Counts.length := by omega
      simp only [← e1, lt_cast hk, cond_true, at_getD hk, at_getD hk2, Option.bind_some, W_up hk (show a1.Turns.length ≤ maxLen by omega)]
      cases decide (a1.Turns.getD k zI < 0) <;> cases decide (a1.Counts.getD k zI > 0) <;> rfl) (by simp only [e1, nlt_self, cond_false])
  rw [hi, hsp]
  have key : ((a1.Turns.all fun x => pIn x (-1) a0.Rules.Turns) && ((a1.Counts.all fun x => pIn x 0 4) && allFrom a1.Turns.length 0 (fun k => !(decide (a1.Turns.getD k zI < 0) && decide (a1.Counts.getD k zI > 0))))) =
      allFrom a1.Turns.length 0 (fun k => pIn (a1.Turns.getD k zI) (-1) a0.Rules.Turns && (pIn (a1.Counts.getD k zI) 0 4 && !((a1.Turns.getD k zI == -1) && !(a1.Counts.getD k zI == 0)))) := by
    rw [Bool.eq_iff_iff]
    simp only [Bool.and_eq_true, List.all_eq_true, allFrom_iff, pIn_iff, Bool.not_eq_true', Bool.and_eq_false_iff, decide_eq_false_iff_not, beq_eq_false_iff_ne, Bool.not_eq_false', beq_iff_eq]
    constructor
    · rintro ⟨g1, g2, g3⟩ j _ hj
      have f1 := g1 _ (getD_mem (z := zI) (show j < a1.Turns.length by omega))
      have f2 := g2 _ (getD_mem (z := zI) (show j < a1.Counts.length by omega))
      have f3 := g3 j (by omega) hj
      refine ⟨f1, f2, ?_⟩
      omega
    · intro g
      refine ⟨fun x hx => ?_, fun x hx => ?_, fun j h0 hj => ?_⟩
      · obtain ⟨j, hj, rfl⟩ := List.getElem_of_mem hx
        have := (g j (by omega) (by omega)).1
        simpa [List.getD, hj] using this
      · obtain ⟨j, hj, rfl⟩ := List.getElem_of_mem hx
        have := (g j (by omega) (by omega)).2.1
        simpa [List.getD, hj] using this
      · have := g j h0 hj
        omega
  rw [← key]
  generalize allFrom a1.Turns.length 0 (fun k => !(decide (a1.Turns.getD k zI < 0) && decide (a1.Counts.getD k zI > 0))) = b3
  cases (a1.Turns.all fun x => pIn x (-1) a0.Rules.Turns)
  · exact ⟨_, rfl, rfl⟩
  cases (a1.Counts.all fun x => pIn x 0 4)
  · exact ⟨_, rfl, rfl⟩
  cases b3 <;> exact ⟨_, rfl, rfl⟩
-- core: theorem core (a0 : TBoard) (a1 : TMemory) (k0 : okTBoard a0) (k1 : okTMemory a1) (q0 : smTBoard a0) (q1 : smTMemory a1) : ∃ w, X.s_IsMemory a0 a1 = some w ∧ X.i_IsMemory a0 a1 = some w
theorem law (a0 : TBoard) (a1 : TMemory) (k0 : okTBoard a0) (k1 : okTMemory a1) : X.l_FnExactIsMemory a0 a1 = some true := by
  unfold X.l_FnExactIsMemory
  refine law_sz (l_szBoard_sz a0 k0 1048576 (by unfold SM; omega)) (by unfold SM; omega) fun r1 g1 q1 => ?_
  refine law_sz (l_szMemory_sz a1 k1 r1 g1) g1 fun r2 g2 q2 => ?_
  obtain ⟨w, hs, hi⟩ := core a0 a1 k0 k1 q1 q2
  simp [l_toBoard_eq a0 q1, l_eqBoard_eq a0 q1, l_toMemory_eq a1 q2, l_eqMemory_eq a1 q2, hs, hi]
end Go.Proofs.YtfpafaampjgckaaDoor.X0
