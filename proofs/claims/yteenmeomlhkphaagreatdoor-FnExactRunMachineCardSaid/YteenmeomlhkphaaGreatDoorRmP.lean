/- The plain law behind FnExactRunMachine, for arguments that a machine can hold. -/
import Derived.Test.YteenmeomlhkphaaGreatDoorRmWc
import Derived.Test.YteenmeomlhkphaaGreatDoorAmCore3
set_option linter.unusedVariables false
set_option linter.unusedSimpArgs false
set_option maxRecDepth 100000
namespace Go.Proofs.YteenmeomlhkphaaGreatDoor.X0
open Go Go.Proofs.YteenmeomlhkphaaGreatDoor.Ab
abbrev okLI (x : (List Int)) : Prop := okL okI x
abbrev smLI (x : (List Int)) : Prop := smL smI x
theorem l_szIntS_sz (x : (List Int)) (h : okLI x) : SzOk X.l_szIntS smLI x := szS_ok h.1 fun y _ => trivI y
theorem l_toIntS_eq (x : (List Int)) (h : smLI x) : X.l_toIntS x = some x := (toL_eq (z := zI) (f := some) h.1 fun _ _ => rfl : _)
theorem l_eqIntS_eq (x : (List Int)) (h : smLI x) : X.l_eqIntS x x = some true := (eqL_self (z := zI) (f := fun a b => some (a == b)) h.1 fun x _ => by simp : _)
abbrev okTTerrain (x : TTerrain) : Prop := okS x.Name ∧ okLI x.Cost ∧ okI x.Shift ∧ okI x.Height ∧ okB x.Blocks ∧ True
abbrev smTTerrain (x : TTerrain) : Prop := smS x.Name ∧ smLI x.Cost ∧ smI x.Shift ∧ smI x.Height ∧ smB x.Blocks ∧ True
theorem l_szTerrain_sz (x : TTerrain) (h : okTTerrain x) : SzOk X.l_szTerrain smTTerrain x := by
 intro n hn
 unfold X.l_szTerrain
 obtain ⟨r1, e1, l1, f1⟩ := len_cases (xs := x.Name) (h.1) hn
 rw [e1]
 refine szr_bif f1 l1 fun g1 q1 => ?_
 refine szr_step (l_szIntS_sz x.Cost (h.2.1) r1 g1) g1 fun r2 g2 q2 => ?_
 exact szr_last g2 ⟨q1, q2, trivI x.Shift, trivI x.Height, trivB x.Blocks, trivial⟩
theorem l_toTerrain_eq (x : TTerrain) (h : smTTerrain x) : X.l_toTerrain x = some x := by
 unfold X.l_toTerrain
 rw [l_toIntS_eq x.Cost (h.2.1)]; rfl
theorem l_eqTerrain_eq (x : TTerrain) (h : smTTerrain x) : X.l_eqTerrain x x = some true := by
 unfold X.l_eqTerrain
 simp [l_eqIntS_eq x.Cost (h.2.1)]
abbrev okLTTerrain (x : (List TTerrain)) : Prop := okL okTTerrain x
abbrev smLTTerrain (x : (List TTerrain)) : Prop := smL smTTerrain x
theorem l_szTerrainS_sz (x : (List TTerrain)) (h : okLTTerrain x) : SzOk X.l_szTerrainS smLTTerrain x := szL_ok (z := zTTerrain) (f := X.l_szTerrain) h.1 fun y hy => l_szTerrain_sz y (h.2 y hy)
theorem l_toTerrainS_eq (x : (List TTerrain)) (h : smLTTerrain x) : X.l_toTerrainS x = some x := toL_eq (z := zTTerrain) (f := X.l_toTerrain) h.1 fun y hy => l_toTerrain_eq y (h.2 y hy)
theorem l_eqTerrainS_eq (x : (List TTerrain)) (h : smLTTerrain x) : X.l_eqTerrainS x x = some true := eqL_self (z := zTTerrain) (f := X.l_eqTerrain) h.1 fun y hy => l_eqTerrain_eq y (h.2 y hy)
abbrev okTKind (x : TKind) : Prop := okS x.Name ∧ okI x.Strength ∧ okI x.Moves ∧ okI x.Steps ∧ okB x.Zone ∧ okI x.View ∧ True
abbrev smTKind (x : TKind) : Prop := smS x.Name ∧ smI x.Strength ∧ smI x.Moves ∧ smI x.Steps ∧ smB x.Zone ∧ smI x.View ∧ True
theorem l_szKind_sz (x : TKind) (h : okTKind x) : SzOk X.l_szKind smTKind x := by
 intro n hn
 unfold X.l_szKind
 obtain ⟨r1, e1, l1, f1⟩ := len_cases (xs := x.Name) (h.1) hn
 rw [e1]
 refine szr_bif f1 l1 fun g1 q1 => ?_
 exact szr_last g1 ⟨q1, trivI x.Strength, trivI x.Moves, trivI x.Steps, trivB x.Zone, trivI x.View, trivial⟩
theorem l_toKind_eq (x : TKind) (h : smTKind x) : X.l_toKind x = some x := by
 unfold X.l_toKind
 rfl
theorem l_eqKind_eq (x : TKind) (h : smTKind x) : X.l_eqKind x x = some true := by
 unfold X.l_eqKind
 simp []
abbrev okLTKind (x : (List TKind)) : Prop := okL okTKind x
abbrev smLTKind (x : (List TKind)) : Prop := smL smTKind x
theorem l_szKindS_sz (x : (List TKind)) (h : okLTKind x) : SzOk X.l_szKindS smLTKind x := szL_ok (z := zTKind) (f := X.l_szKind) h.1 fun y hy => l_szKind_sz y (h.2 y hy)
theorem l_toKindS_eq (x : (List TKind)) (h : smLTKind x) : X.l_toKindS x = some x := toL_eq (z := zTKind) (f := X.l_toKind) h.1 fun y hy => l_toKind_eq y (h.2 y hy)
theorem l_eqKindS_eq (x : (List TKind)) (h : smLTKind x) : X.l_eqKindS x x = some true := eqL_self (z := zTKind) (f := X.l_eqKind) h.1 fun y hy => l_eqKind_eq y (h.2 y hy)
abbrev okTRules (x : TRules) : Prop := okLTTerrain x.Terrains ∧ okLTKind x.Kinds ∧ okI x.Stack ∧ okI x.River ∧ okI x.Road ∧ okI x.Supply ∧ okI x.Turns ∧ True
abbrev smTRules (x : TRules) : Prop := smLTTerrain x.Terrains ∧ smLTKind x.Kinds ∧ smI x.Stack ∧ smI x.River ∧ smI x.Road ∧ smI x.Supply ∧ smI x.Turns ∧ True
theorem l_szRules_sz (x : TRules) (h : okTRules x) : SzOk X.l_szRules smTRules x := by
 intro n hn
 unfold X.l_szRules
 refine szr_step (l_szTerrainS_sz x.Terrains (h.1) n hn) hn fun r1 g1 q1 => ?_
 refine szr_step (l_szKindS_sz x.Kinds (h.2.1) r1 g1) g1 fun r2 g2 q2 => ?_
 exact szr_last g2 ⟨q1, q2, trivI x.Stack, trivI x.River, trivI x.Road, trivI x.Supply, trivI x.Turns, trivial⟩
theorem l_toRules_eq (x : TRules) (h : smTRules x) : X.l_toRules x = some x := by
 unfold X.l_toRules
 simp only [l_toTerrainS_eq x.Terrains (h.1), l_toKindS_eq x.Kinds (h.2.1), Option.bind_some]
theorem l_eqRules_eq (x : TRules) (h : smTRules x) : X.l_eqRules x x = some true := by
 unfold X.l_eqRules
 simp [l_eqTerrainS_eq x.Terrains (h.1), l_eqKindS_eq x.Kinds (h.2.1)]
abbrev okTMap (x : TMap) : Prop := okI x.Width ∧ okI x.Height ∧ okLI x.Terrain ∧ okLI x.Rivers ∧ okLI x.Roads ∧ True
abbrev smTMap (x : TMap) : Prop := smI x.Width ∧ smI x.Height ∧ smLI x.Terrain ∧ smLI x.Rivers ∧ smLI x.Roads ∧ True
theorem l_szMap_sz (x : TMap) (h : okTMap x) : SzOk X.l_szMap smTMap x := by
 intro n hn
 unfold X.l_szMap
 refine szr_step (l_szIntS_sz x.Terrain (h.2.2.1) n hn) hn fun r1 g1 q1 => ?_
 refine szr_step (l_szIntS_sz x.Rivers (h.2.2.2.1) r1 g1) g1 fun r2 g2 q2 => ?_
 refine szr_step (l_szIntS_sz x.Roads (h.2.2.2.2.1) r2 g2) g2 fun r3 g3 q3 => ?_
 exact szr_last g3 ⟨trivI x.Width, trivI x.Height, q1, q2, q3, trivial⟩
theorem l_toMap_eq (x : TMap) (h : smTMap x) : X.l_toMap x = some x := by
 unfold X.l_toMap
 simp only [l_toIntS_eq x.Terrain (h.2.2.1), l_toIntS_eq x.Rivers (h.2.2.2.1), l_toIntS_eq x.Roads (h.2.2.2.2.1), Option.bind_some]
theorem l_eqMap_eq (x : TMap) (h : smTMap x) : X.l_eqMap x x = some true := by
 unfold X.l_eqMap
 simp [l_eqIntS_eq x.Terrain (h.2.2.1), l_eqIntS_eq x.Rivers (h.2.2.2.1), l_eqIntS_eq x.Roads (h.2.2.2.2.1)]
abbrev okTBoard (x : TBoard) : Prop := okTRules x.Rules ∧ okTMap x.Map ∧ True
abbrev smTBoard (x : TBoard) : Prop := smTRules x.Rules ∧ smTMap x.Map ∧ True
theorem l_szBoard_sz (x : TBoard) (h : okTBoard x) : SzOk X.l_szBoard smTBoard x := by
 intro n hn
 unfold X.l_szBoard
 refine szr_step (l_szRules_sz x.Rules (h.1) n hn) hn fun r1 g1 q1 => ?_
 refine szr_step (l_szMap_sz x.Map (h.2.1) r1 g1) g1 fun r2 g2 q2 => ?_
 exact szr_last g2 ⟨q1, q2, trivial⟩
theorem l_toBoard_eq (x : TBoard) (h : smTBoard x) : X.l_toBoard x = some x := by
 unfold X.l_toBoard
 simp only [l_toRules_eq x.Rules (h.1), l_toMap_eq x.Map (h.2.1), Option.bind_some]
theorem l_eqBoard_eq (x : TBoard) (h : smTBoard x) : X.l_eqBoard x x = some true := by
 unfold X.l_eqBoard
 simp [l_eqRules_eq x.Rules (h.1), l_eqMap_eq x.Map (h.2.1)]
abbrev okTReaction (x : TReaction) : Prop := okI x.Unit ∧ okI x.Watch ∧ okI x.Kind ∧ True
abbrev smTReaction (x : TReaction) : Prop := smI x.Unit ∧ smI x.Watch ∧ smI x.Kind ∧ True
theorem trivTReaction (x : TReaction) : smTReaction x := ⟨trivI x.Unit, trivI x.Watch, trivI x.Kind, trivial⟩
theorem l_toReaction_eq (x : TReaction) (h : smTReaction x) : X.l_toReaction x = some x := by
 unfold X.l_toReaction
 rfl
theorem l_eqReaction_eq (x : TReaction) (h : smTReaction x) : X.l_eqReaction x x = some true := by
 unfold X.l_eqReaction
 simp []
abbrev okLTReaction (x : (List TReaction)) : Prop := okL okTReaction x
abbrev smLTReaction (x : (List TReaction)) : Prop := smL smTReaction x
theorem l_szReactionS_sz (x : (List TReaction)) (h : okLTReaction x) : SzOk X.l_szReactionS smLTReaction x := szS_ok h.1 fun y _ => trivTReaction y
theorem l_toReactionS_eq (x : (List TReaction)) (h : smLTReaction x) : X.l_toReactionS x = some x := toL_eq (z := zTReaction) (f := X.l_toReaction) h.1 fun y hy => l_toReaction_eq y (h.2 y hy)
theorem l_eqReactionS_eq (x : (List TReaction)) (h : smLTReaction x) : X.l_eqReactionS x x = some true := eqL_self (z := zTReaction) (f := X.l_eqReaction) h.1 fun y hy => l_eqReaction_eq y (h.2 y hy)
abbrev okTFrame (x : TFrame) : Prop := okI x.Unit ∧ okI x.At ∧ okI x.By ∧ True
abbrev smTFrame (x : TFrame) : Prop := smI x.Unit ∧ smI x.At ∧ smI x.By ∧ True
theorem trivTFrame (x : TFrame) : smTFrame x := ⟨trivI x.Unit, trivI x.At, trivI x.By, trivial⟩
theorem l_toFrame_eq (x : TFrame) (h : smTFrame x) : X.l_toFrame x = some x := by
 unfold X.l_toFrame
 rfl
theorem l_eqFrame_eq (x : TFrame) (h : smTFrame x) : X.l_eqFrame x x = some true := by
 unfold X.l_eqFrame
 simp []
abbrev okLTFrame (x : (List TFrame)) : Prop := okL okTFrame x
abbrev smLTFrame (x : (List TFrame)) : Prop := smL smTFrame x
theorem l_szFrameS_sz (x : (List TFrame)) (h : okLTFrame x) : SzOk X.l_szFrameS smLTFrame x := szS_ok h.1 fun y _ => trivTFrame y
theorem l_toFrameS_eq (x : (List TFrame)) (h : smLTFrame x) : X.l_toFrameS x = some x := toL_eq (z := zTFrame) (f := X.l_toFrame) h.1 fun y hy => l_toFrame_eq y (h.2 y hy)
theorem l_eqFrameS_eq (x : (List TFrame)) (h : smLTFrame x) : X.l_eqFrameS x x = some true := eqL_self (z := zTFrame) (f := X.l_eqFrame) h.1 fun y hy => l_eqFrame_eq y (h.2 y hy)
abbrev okTUnit (x : TUnit) : Prop := okI x.Side ∧ okI x.Kind ∧ okI x.At ∧ okI x.Steps ∧ True
abbrev smTUnit (x : TUnit) : Prop := smI x.Side ∧ smI x.Kind ∧ smI x.At ∧ smI x.Steps ∧ True
theorem trivTUnit (x : TUnit) : smTUnit x := ⟨trivI x.Side, trivI x.Kind, trivI x.At, trivI x.Steps, trivial⟩
theorem l_toUnit_eq (x : TUnit) (h : smTUnit x) : X.l_toUnit x = some x := by
 unfold X.l_toUnit
 rfl
theorem l_eqUnit_eq (x : TUnit) (h : smTUnit x) : X.l_eqUnit x x = some true := by
 unfold X.l_eqUnit
 simp []
abbrev okLTUnit (x : (List TUnit)) : Prop := okL okTUnit x
abbrev smLTUnit (x : (List TUnit)) : Prop := smL smTUnit x
theorem l_szUnitS_sz (x : (List TUnit)) (h : okLTUnit x) : SzOk X.l_szUnitS smLTUnit x := szS_ok h.1 fun y _ => trivTUnit y
theorem l_toUnitS_eq (x : (List TUnit)) (h : smLTUnit x) : X.l_toUnitS x = some x := toL_eq (z := zTUnit) (f := X.l_toUnit) h.1 fun y hy => l_toUnit_eq y (h.2 y hy)
theorem l_eqUnitS_eq (x : (List TUnit)) (h : smLTUnit x) : X.l_eqUnitS x x = some true := eqL_self (z := zTUnit) (f := X.l_eqUnit) h.1 fun y hy => l_eqUnit_eq y (h.2 y hy)
abbrev okTState (x : TState) : Prop := okI x.Turn ∧ okI x.Weather ∧ okLTUnit x.Units ∧ True
abbrev smTState (x : TState) : Prop := smI x.Turn ∧ smI x.Weather ∧ smLTUnit x.Units ∧ True
theorem l_szState_sz (x : TState) (h : okTState x) : SzOk X.l_szState smTState x := by
 intro n hn
 unfold X.l_szState
 refine szr_step (l_szUnitS_sz x.Units (h.2.2.1) n hn) hn fun r1 g1 q1 => ?_
 exact szr_last g1 ⟨trivI x.Turn, trivI x.Weather, q1, trivial⟩
theorem l_toState_eq (x : TState) (h : smTState x) : X.l_toState x = some x := by
 unfold X.l_toState
 rw [l_toUnitS_eq x.Units (h.2.2.1)]; rfl
theorem l_eqState_eq (x : TState) (h : smTState x) : X.l_eqState x x = some true := by
 unfold X.l_eqState
 simp [l_eqUnitS_eq x.Units (h.2.2.1)]
abbrev okTMachine (x : TMachine) : Prop := okLTFrame x.Stack ∧ okLI x.Used ∧ okTState x.State ∧ okLI x.Log ∧ True
abbrev smTMachine (x : TMachine) : Prop := smLTFrame x.Stack ∧ smLI x.Used ∧ smTState x.State ∧ smLI x.Log ∧ True
theorem l_szMachine_sz (x : TMachine) (h : okTMachine x) : SzOk X.l_szMachine smTMachine x := by
 intro n hn
 unfold X.l_szMachine
 refine szr_step (l_szFrameS_sz x.Stack (h.1) n hn) hn fun r1 g1 q1 => ?_
 refine szr_step (l_szIntS_sz x.Used (h.2.1) r1 g1) g1 fun r2 g2 q2 => ?_
 refine szr_step (l_szState_sz x.State (h.2.2.1) r2 g2) g2 fun r3 g3 q3 => ?_
 refine szr_step (l_szIntS_sz x.Log (h.2.2.2.1) r3 g3) g3 fun r4 g4 q4 => ?_
 exact szr_last g4 ⟨q1, q2, q3, q4, trivial⟩
theorem l_toMachine_eq (x : TMachine) (h : smTMachine x) : X.l_toMachine x = some x := by
 unfold X.l_toMachine
 simp only [l_toFrameS_eq x.Stack (h.1), l_toIntS_eq x.Used (h.2.1), l_toState_eq x.State (h.2.2.1), l_toIntS_eq x.Log (h.2.2.2.1), Option.bind_some]
theorem l_eqMachine_eq (x : TMachine) (h : smTMachine x) : X.l_eqMachine x x = some true := by
 unfold X.l_eqMachine
 simp [l_eqFrameS_eq x.Stack (h.1), l_eqIntS_eq x.Used (h.2.1), l_eqState_eq x.State (h.2.2.1), l_eqIntS_eq x.Log (h.2.2.2.1)]
end Go.Proofs.YteenmeomlhkphaaGreatDoor.X0

set_option maxRecDepth 100000
namespace Go.Proofs.YteenmeomlhkphaaGreatDoor.X0
open Go Go.Proofs.YteenmeomlhkphaaGreatDoor.Ab
theorem s_l1In_eq (n lo hi : Int) : X.s_l1In n lo hi = some (decide (lo ≤ n) && decide (n ≤ hi)) := by
 unfold X.s_l1In
 by_cases h : lo ≤ n
 ·simp [h]
 ·simp [h]
theorem i_inRange_eq (n lo hi : Int) : X.i_inRange n lo hi = some (decide (lo ≤ n) && decide (n ≤ hi)) := by
 unfold X.i_inRange
 by_cases h : lo ≤ n
 ·simp [h]
 ·simp [h]
theorem s_l1All_eq (xs : List Int) (lo hi : Int) (hl : xs.length ≤ SM) : X.s_l1All xs lo hi = some (xs.all fun x => decide (lo ≤ x) && decide (x ≤ hi)) := by
 unfold SM at hl
 unfold X.s_l1All
 rw [run_all xs (fun x => decide (lo ≤ x) && decide (x ≤ hi)) (.inr false) (.inl ()) rfl ?_ ?_]
 ·cases xs.all fun x => decide (lo ≤ x) && decide (x ≤ hi) <;> rfl
 ·intro k hk
  have hk' : (k : Int) < xs.length := by omega
  simp only [hk', decide_true, cond_true, at_nat hk, Option.bind_some, s_l1In_eq, W_succ (show k < 4611686018427387904 by omega)]
  cases (decide (lo ≤ xs[k]) && decide (xs[k] ≤ hi)) <;> simp
 ·simp
theorem contains_int (xs : List Int) (x : Int) (hl : xs.length ≤ maxLen) : X.g_Contains_int xs x = some (xs.any fun v => x == v) := (hasF_eq (z := zI) (f := fun v => some (x == v)) (p := fun v => x == v) hl (fun _ _ => rfl) : _)
def pIn (n lo hi : Int) : Bool := decide (lo ≤ n) && decide (n ≤ hi)
theorem s_in (n lo hi : Int) : X.s_l1In n lo hi = some (pIn n lo hi) := s_l1In_eq n lo hi
theorem i_in (n lo hi : Int) : X.i_inRange n lo hi = some (pIn n lo hi) := i_inRange_eq n lo hi
theorem pIn_iff {n lo hi : Int} : pIn n lo hi = true ↔ lo ≤ n ∧ n ≤ hi := by simp [pIn]
theorem mL : maxLen = 9223372036854775807 := by decide
theorem s_all (xs : List Int) (lo hi : Int) (hl : xs.length ≤ SM) : X.s_l1All xs lo hi = some (xs.all fun x => pIn x lo hi) := s_l1All_eq xs lo hi hl
noncomputable def pName (s : List UInt8) : Bool := (X.s_rName s).getD false
theorem name_eq (s : List UInt8) (h : s.length ≤ maxLen) : X.s_rName s = some (pName s) ∧ X.i_isName s = some (pName s) := by
 have e : X.i_isName s = X.s_rName s := by
  unfold X.i_isName X.s_rName
  simp only [i_in, s_in]
 have hs : ∃ b, X.s_rName s = some b := by
  unfold X.s_rName
  rw [run_allN s.length (fun k => !(decide ((((s.getD k 0).toNat : Nat) : Int) < 97)) && !(decide ((((s.getD k 0).toNat : Nat) : Int) > 122))) (.inr false) (.inl ()) ?_ ?_]
  ·cases allFrom s.length 0 _
   ·exact ⟨_, rfl⟩
   ·simp only [cond_true, Sum.elim_inl, s_in, Option.bind_some]; exact ⟨_, rfl⟩
  ·intro k hk
   have h1 : 0 ≤ (k : Int) ∧ (k : Int) < (s.length : Int) := by omega
   simp only [lt_cast hk, cond_true, if_pos h1, W_up hk h, Int.toNat_natCast]
   cases decide ((((s.getD k 0).toNat : Nat) : Int) < 97) <;> cases decide ((((s.getD k 0).toNat : Nat) : Int) > 122) <;> rfl
  ·simp only [nlt_self, cond_false]
 obtain ⟨b, hb⟩ := hs
 have hp : X.s_rName s = some (pName s) := by unfold pName; rw [hb]; rfl
 exact ⟨hp, e.trans hp⟩
noncomputable def pTI (xs : List TTerrain) (s : List UInt8) : Int := (X.s_rTerrain xs s).getD 0
noncomputable def pKI (xs : List TKind) (s : List UInt8) : Int := (X.s_rKind xs s).getD 0
theorem ti_eq (xs : List TTerrain) (s : List UInt8) (h : xs.length ≤ maxLen) : X.s_rTerrain xs s = some (pTI xs s) ∧ X.i_terrainIndex xs s = some (pTI xs s) := by
 have e : X.s_rTerrain xs s = idxF zTTerrain (fun v => some (v.Name == s)) xs := rfl
 obtain ⟨i, h1, _⟩ := idxF_ok (z := zTTerrain) (f := fun v => some (v.Name == s)) (p := fun v => v.Name == s) (xs := xs) h (fun _ _ => rfl)
 have hp : X.s_rTerrain xs s = some (pTI xs s) := by unfold pTI; rw [e, h1]; rfl
 refine ⟨hp, ?_⟩
 have e2 : X.i_terrainIndex xs s = (idxF zTTerrain (fun v => some (v.Name == s)) xs).bind some := rfl
 rw [e2, ← e, hp]; rfl
theorem ki_eq (xs : List TKind) (s : List UInt8) (h : xs.length ≤ maxLen) : X.s_rKind xs s = some (pKI xs s) ∧ X.i_kindIndex xs s = some (pKI xs s) := by
 have e : X.s_rKind xs s = idxF zTKind (fun v => some (v.Name == s)) xs := rfl
 obtain ⟨i, h1, _⟩ := idxF_ok (z := zTKind) (f := fun v => some (v.Name == s)) (p := fun v => v.Name == s) (xs := xs) h (fun _ _ => rfl)
 have hp : X.s_rKind xs s = some (pKI xs s) := by unfold pKI; rw [e, h1]; rfl
 refine ⟨hp, ?_⟩
 have e2 : X.i_kindIndex xs s = (idxF zTKind (fun v => some (v.Name == s)) xs).bind some := rfl
 rw [e2, ← e, hp]; rfl
noncomputable def qT (r : TRules) (k : Nat) : Bool :=
 let t := r.Terrains.getD k zTTerrain
 pName t.Name && ((pTI r.Terrains t.Name == (k : Int)) && (((t.Cost.length : Int) == (r.Kinds.length : Int)) && ((t.Cost.all fun x => pIn x 0 9) && (pIn t.Shift (-3) 3 && pIn t.Height 0 3))))
noncomputable def qK (r : TRules) (k : Nat) : Bool :=
 let t := r.Kinds.getD k zTKind
 pName t.Name && ((pKI r.Kinds t.Name == (k : Int)) && (pIn t.Strength 1 9 && (pIn t.Moves 0 9 && (pIn t.Steps 1 4 && pIn t.View 0 4))))
noncomputable def pRules (r : TRules) : Bool :=
 pIn (r.Terrains.length : Int) 1 6 && (pIn (r.Kinds.length : Int) 1 4 && (allFrom r.Terrains.length 0 (qT r) && (allFrom r.Kinds.length 0 (qK r) && (pIn r.Stack 1 4 && (pIn r.River 0 9 && (pIn r.Road 1 9 && (pIn r.Supply 0 20 && pIn r.Turns 1 30)))))))
theorem costs_eq (xs : List Int) (h : xs.length ≤ SM) : X.g_ContainsFunc_int xs (fun q0 => X.i_goodTerrain_1 q0) = some (!(xs.all fun x => pIn x 0 9)) := by
 have hm := mL
 have := hasF_eq (z := zI) (f := fun q0 => X.i_goodTerrain_1 q0) (p := fun x => !(pIn x 0 9)) (xs := xs) (by unfold SM at h; omega) (fun x _ => by unfold X.i_goodTerrain_1; rw [i_in]; rfl)
 rw [List.not_all_eq_any_not]
 exact this
theorem getD_mem {α : Type} {xs : List α} {k : Nat} {z : α} (h : k < xs.length) : xs.getD k z ∈ xs := by
 have : xs.getD k z = xs[k] := by simp [List.getD, h]
 rw [this]; exact List.getElem_mem h
theorem rules_eq (r : TRules) (q : smTRules r) : X.s_rGood r = some (pRules r) ∧ X.i_IsRules r = some (pRules r) := by
 have hm := mL
 have hT : r.Terrains.length ≤ maxLen := by have := q.1.1; unfold SM at this; omega
 have hK : r.Kinds.length ≤ maxLen := by have := q.2.1.1; unfold SM at this; omega
 have hTn : ∀ k, k < r.Terrains.length → (r.Terrains.getD k zTTerrain).Name.length ≤ maxLen ∧ (r.Terrains.getD k zTTerrain).Cost.length ≤ SM := fun k hk => by
  have := q.1.2 _ (getD_mem (z := zTTerrain) hk)
  exact ⟨by have := this.1; unfold smS SM at this; omega, this.2.1.1⟩
 have hKn : ∀ k, k < r.Kinds.length → (r.Kinds.getD k zTKind).Name.length ≤ maxLen := fun k hk => by
  have := (q.2.1.2 _ (getD_mem (z := zTKind) hk)).1
  unfold smS SM at this; omega
 constructor
 ·unfold X.s_rGood pRules
  simp only [s_in, Option.bind_some, bif_not]
  cases pIn (r.Terrains.length : Int) 1 6
  ·rfl
  cases pIn (r.Kinds.length : Int) 1 4
  ·rfl
  simp only [cond_true, Bool.true_and]
  rw [run_allN r.Terrains.length (qT r) (.inr false) (.inl ()) ?_ ?_]
  ·cases allFrom r.Terrains.length 0 (qT r)
   ·rfl
   simp only [cond_true, Sum.elim_inl, Bool.true_and]
   rw [run_allN r.Kinds.length (qK r) (.inr false) (.inl ()) ?_ ?_]
   ·cases allFrom r.Kinds.length 0 (qK r)
    ·rfl
    simp only [cond_true, Sum.elim_inl, Bool.true_and]
    cases pIn r.Stack 1 4 <;> cases pIn r.River 0 9 <;> cases pIn r.Road 1 9 <;> cases pIn r.Supply 0 20 <;> rfl
   ·intro k hk
    simp only [lt_cast hk, cond_true, at_getD hk, Option.bind_some, (name_eq _ (hKn k hk)).1, (ki_eq _ _ hK).1, W_up hk hK, qK]
    cases pName (r.Kinds.getD k zTKind).Name
    ·rfl
    cases h : pKI r.Kinds (r.Kinds.getD k zTKind).Name == (k : Int)
    ·simp only [bne, h]; rfl
    simp only [bne, h, Bool.not_true, cond_false, cond_true, Bool.true_and]
    cases pIn (r.Kinds.getD k zTKind).Strength 1 9 <;> cases pIn (r.Kinds.getD k zTKind).Moves 0 9 <;> cases pIn (r.Kinds.getD k zTKind).Steps 1 4 <;> cases pIn (r.Kinds.getD k zTKind).View 0 4 <;> rfl
   ·simp only [nlt_self, cond_false]
  ·intro k hk
   simp only [lt_cast hk, cond_true, at_getD hk, Option.bind_some, (name_eq _ (hTn k hk).1).1, (ti_eq _ _ hT).1, s_all _ _ _ (hTn k hk).2, W_up hk hT, qT]
   cases pName (r.Terrains.getD k zTTerrain).Name
   ·rfl
   cases h : pTI r.Terrains (r.Terrains.getD k zTTerrain).Name == (k : Int)
   ·simp only [bne, h]; rfl
   cases h2 : ((r.Terrains.getD k zTTerrain).Cost.length : Int) == (r.Kinds.length : Int)
   ·simp only [bne, h, h2]; rfl
   simp only [bne, h, h2, Bool.not_true, cond_false, cond_true, Bool.true_and]
   cases ((r.Terrains.getD k zTTerrain).Cost.all fun x => pIn x 0 9) <;> cases pIn (r.Terrains.getD k zTTerrain).Shift (-3) 3 <;> cases pIn (r.Terrains.getD k zTTerrain).Height 0 3 <;> rfl
  ·simp only [nlt_self, cond_false]
 ·unfold X.i_IsRules pRules
  simp only [i_in, Option.bind_some, bif_not]
  cases pIn (r.Terrains.length : Int) 1 6
  ·rfl
  cases pIn (r.Kinds.length : Int) 1 4
  ·rfl
  simp only [cond_true, Bool.true_and]
  rw [run_allN r.Terrains.length (qT r) (.inr false) (.inl ()) ?_ ?_]
  ·cases allFrom r.Terrains.length 0 (qT r)
   ·rfl
   simp only [cond_true, Sum.elim_inl, Bool.true_and]
   rw [run_allN r.Kinds.length (qK r) (.inr false) (.inl ()) ?_ ?_]
   ·cases allFrom r.Kinds.length 0 (qK r)
    ·rfl
    simp only [cond_true, Sum.elim_inl, Bool.true_and]
    cases pIn r.Stack 1 4 <;> cases pIn r.River 0 9 <;> cases pIn r.Road 1 9 <;> cases pIn r.Supply 0 20 <;> rfl
   ·intro k hk
    simp only [lt_cast hk, cond_true, at_getD hk, Option.bind_some, X.i_goodKind, i_in, (name_eq _ (hKn k hk)).2, (ki_eq _ _ hK).2, W_up hk hK, qK]
    cases pName (r.Kinds.getD k zTKind).Name
    ·rfl
    cases h : pKI r.Kinds (r.Kinds.getD k zTKind).Name == (k : Int) <;> simp only [bne, h] <;>
    cases pIn (r.Kinds.getD k zTKind).Strength 1 9 <;> cases pIn (r.Kinds.getD k zTKind).Moves 0 9 <;> cases pIn (r.Kinds.getD k zTKind).Steps 1 4 <;> cases pIn (r.Kinds.getD k zTKind).View 0 4 <;> rfl
   ·simp only [nlt_self, cond_false]
  ·intro k hk
   simp only [lt_cast hk, cond_true, at_getD hk, Option.bind_some, X.i_goodTerrain, i_in, (name_eq _ (hTn k hk).1).2, (ti_eq _ _ hT).2, costs_eq _ (hTn k hk).2, W_up hk hT, qT]
   cases pName (r.Terrains.getD k zTTerrain).Name
   ·rfl
   cases h2 : ((r.Terrains.getD k zTTerrain).Cost.length : Int) == (r.Kinds.length : Int)
   ·simp only [bne, h2]; cases (pTI r.Terrains (r.Terrains.getD k zTTerrain).Name == (k : Int)) <;> rfl
   cases h : pTI r.Terrains (r.Terrains.getD k zTTerrain).Name == (k : Int) <;> simp only [bne, h, h2, Bool.not_true, cond_false, cond_true, Bool.true_and] <;>
   cases ((r.Terrains.getD k zTTerrain).Cost.all fun x => pIn x 0 9) <;> cases pIn (r.Terrains.getD k zTTerrain).Shift (-3) 3 <;> cases pIn (r.Terrains.getD k zTTerrain).Height 0 3 <;> rfl
  ·simp only [nlt_self, cond_false]
def dQ : List Int := [1, 1, 0, -1, -1, 0]
def dR : List Int := [0, -1, -1, 0, 1, 1]
def okSides (m : TMap) : Prop := 1 ≤ m.Width ∧ m.Width ≤ 10 ∧ 1 ≤ m.Height ∧ m.Height ≤ 10
def pIdx (m : TMap) (a b : Int) : Int := bif pIn a 0 (m.Width - 1) && pIn b 0 (m.Height - 1) then b * m.Width + a else -1
def pNext (m : TMap) (i : Int) (d : Int) : Int := pIdx m (i % m.Width + dQ.getD d.toNat 0) (i / m.Width + dR.getD d.toNat 0)
theorem size_eq (m : TMap) (h : okSides m) : W (m.Width * m.Height) = m.Width * m.Height ∧ 1 ≤ m.Width * m.Height ∧ m.Width * m.Height ≤ 100 := by
 obtain ⟨h1, h2, h3, h4⟩ := h
 have a : 1 * 1 ≤ m.Width * m.Height := Int.mul_le_mul h1 h3 (by omega) (by omega)
 have b : m.Width * m.Height ≤ 10 * 10 := Int.mul_le_mul h2 h4 (by omega) (by omega)
 exact ⟨W_of (by omega), by omega, by omega⟩
theorem tmod_nn {a b : Int} (ha : 0 ≤ a) (hb : 1 ≤ b) : Int.tmod a b = a % b := Int.tmod_eq_emod_of_nonneg ha
theorem tdiv_nn {a b : Int} (ha : 0 ≤ a) : Int.tdiv a b = a / b := Int.tdiv_eq_ediv_of_nonneg ha
theorem idx_eq (m : TMap) (h : okSides m) (a b : Int) : X.s_mIndex m ⟨a, b⟩ = some (pIdx m a b) ∧ X.i_indexOf m ⟨a, b⟩ = some (pIdx m a b) := by
 have hw := h
 obtain ⟨h1, h2, h3, h4⟩ := h
 unfold X.s_mIndex X.i_indexOf X.i_isIndex pIdx
 simp only [s_in, i_in, Option.bind_some]
 rw [W_of (n := m.Width - 1) (by omega), W_of (n := m.Height - 1) (by omega)]
 cases ha : pIn a 0 (m.Width - 1)
 ·exact ⟨rfl, rfl⟩
 cases hb : pIn b 0 (m.Height - 1)
 ·exact ⟨rfl, rfl⟩
 simp only [Bool.not_true, cond_false, Bool.and_self, cond_true]
 rw [pIn_iff] at ha hb
 have e1 : 0 * 1 ≤ b * m.Width := Int.mul_le_mul (by omega) (by omega) (by omega) (by omega)
 have e2 : b * m.Width ≤ 10 * 10 := Int.mul_le_mul (by omega) (by omega) (by omega) (by omega)
 rw [W_of (n := b * m.Width) (by omega), W_of (by omega)]
 exact ⟨rfl, rfl⟩
theorem dirs_getD (d : Nat) (h : d < 6) : dirs.getD d zTHex = ⟨dQ.getD d 0, dR.getD d 0⟩ ∧ -1 ≤ dQ.getD d 0 ∧ dQ.getD d 0 ≤ 1 ∧ -1 ≤ dR.getD d 0 ∧ dR.getD d 0 ≤ 1 := by
 match d, h with
 | 0, _ => exact ⟨rfl, by decide⟩
 | 1, _ => exact ⟨rfl, by decide⟩
 | 2, _ => exact ⟨rfl, by decide⟩
 | 3, _ => exact ⟨rfl, by decide⟩
 | 4, _ => exact ⟨rfl, by decide⟩
 | 5, _ => exact ⟨rfl, by decide⟩
theorem next_eq (m : TMap) (h : okSides m) (i d : Int) (hi : 0 ≤ i ∧ i < 4611686018427387904) (hd : 0 ≤ d ∧ d < 6) : X.s_mNext m i d = some (pNext m i d) ∧ X.i_nextTo m i d = some (pNext m i d) := by
 have hw := h
 obtain ⟨h1, h2, h3, h4⟩ := h
 obtain ⟨k, rfl⟩ := Int.eq_ofNat_of_zero_le hd.1
 have hk : k < 6 := by omega
 obtain ⟨g0, g1, g2, g3, g4⟩ := dirs_getD k hk
 have hne : m.Width ≠ 0 := by omega
 have hm1 : 0 ≤ i % m.Width := Int.emod_nonneg _ hne
 have hm2 : i % m.Width < m.Width := Int.emod_lt_of_pos _ (by omega)
 have hd1 : 0 ≤ i / m.Width := Int.ediv_nonneg hi.1 (by omega)
 have hd2 : i / m.Width ≤ i := Int.ediv_le_self _ hi.1
 have e : pNext m i (k : Int) = pIdx m (i % m.Width + dQ.getD k 0) (i / m.Width + dR.getD k 0) := rfl
 constructor
 ·unfold X.s_mNext X.s_mHex X.s_hStep
  rw [if_pos hne, if_pos hne]
  simp only [Option.bind_some]
  have hl1 : 0 ≤ (k : Int) ∧ (k : Int) < (([1, 1, 0, -1, -1, 0] : List Int).length : Int) := ⟨by omega, by simp; omega⟩
  have hl2 : 0 ≤ (k : Int) ∧ (k : Int) < (([0, -1, -1, 0, 1, 1] : List Int).length : Int) := ⟨by omega, by simp; omega⟩
  rw [if_pos hl1, if_pos hl2]
  simp only [Option.bind_some, Int.toNat_natCast]
  rw [tmod_nn hi.1 h1, tdiv_nn hi.1, W_of (n := i / m.Width) (by omega)]
  change ((X.s_mIndex m (THex.mk (W (i % m.Width + dQ.getD k 0)) (W (i / m.Width + dR.getD k 0)))).bind fun v5 => some v5) = _
  rw [W_of (n := i % m.Width + dQ.getD k 0) (by omega), W_of (n := i / m.Width + dR.getD k 0) (by omega), (idx_eq m hw _ _).1, e]; rfl
 ·unfold X.i_nextTo X.i_hexOf X.i_stepBy
  rw [if_pos hne, if_pos hne]
  simp only [Option.bind_some]
  rw [tmod_nn hi.1 h1, tdiv_nn hi.1, W_of (n := i / m.Width) (by omega)]
  rw [at_getD (z := zTHex) (xs := dirs) (k := k) hk, g0]
  simp only [Option.bind_some, Int.one_mul]
  rw [W_of (n := dQ.getD k 0) (by omega), W_of (n := dR.getD k 0) (by omega)]
  rw [W_of (n := i % m.Width + dQ.getD k 0) (by omega), W_of (n := i / m.Width + dR.getD k 0) (by omega), (idx_eq m hw _ _).2, e]; rfl
def pEdge (m : TMap) (e : Int) : Bool := pIn e 0 (3 * (m.Width * m.Height) - 1) && decide (0 ≤ pNext m (e / 3) (e % 3))
def pIncr (l : List Int) : Bool := allFrom (l.length - 1) 1 fun k => decide (l.getD (k - 1) 0 < l.getD k 0)
def pEdges (m : TMap) (l : List Int) : Bool := l.all (pEdge m) && pIncr l
theorem isEdge_eq (m : TMap) (h : okSides m) (e : Int) : X.i_isEdge m e = some (pEdge m e) := by
 obtain ⟨h5, h6, h7⟩ := size_eq m h
 have hw := h
 obtain ⟨h1, h2, h3, h4⟩ := h
 unfold X.i_isEdge pEdge
 have e3 : W ((W ((W (3 * m.Width)) * m.Height)) - 1) = 3 * (m.Width * m.Height) - 1 := by
  rw [W_of (n := 3 * m.Width) (by omega), Int.mul_assoc, W_of (n := 3 * (m.Width * m.Height)) (by omega), W_of (by omega)]
 rw [e3]
 simp only [i_in, Option.bind_some]
 cases hp : pIn e 0 (3 * (m.Width * m.Height) - 1)
 ·rfl
 ·rw [pIn_iff] at hp
  simp only [cond_true, Bool.true_and]
  have q1 : Int.tdiv e 3 = e / 3 := tdiv_nn hp.1
  have q2 : Int.tmod e 3 = e % 3 := tmod_nn hp.1 (by omega)
  rw [q1, q2, W_of (n := e / 3) (by omega), (next_eq m hw (e / 3) (e % 3) (by omega) (by omega)).2]
  simp
theorem s_edge (m : TMap) (h : okSides m) (e : Int) : ((X.s_mSize m).bind fun v73 => (X.s_l1In e 0 (W ((W (3 * v73)) - 1)))) = some (pIn e 0 (3 * (m.Width * m.Height) - 1)) ∧
  (pIn e 0 (3 * (m.Width * m.Height) - 1) = true → X.s_mNext m (W (Int.tdiv e 3)) (Int.tmod e 3) = some (pNext m (e / 3) (e % 3))) := by
 obtain ⟨h5, h6, h7⟩ := size_eq m h
 unfold X.s_mSize
 simp only [Option.bind_some, s_in]
 rw [h5, W_of (n := 3 * (m.Width * m.Height)) (by omega), W_of (by omega)]
 refine ⟨rfl, fun hp => ?_⟩
 rw [pIn_iff] at hp
 have q1 : Int.tdiv e 3 = e / 3 := tdiv_nn hp.1
 have q2 : Int.tmod e 3 = e % 3 := tmod_nn hp.1 (by omega)
 rw [q1, q2, W_of (n := e / 3) (by omega)]
 exact (next_eq m h (e / 3) (e % 3) (by omega) (by omega)).1
theorem incr_eq (l : List Int) (h : l.length ≤ SM) : X.i_increasing l = some (pIncr l) := by
 have hm := mL
 have h' := h
 unfold SM at h'
 unfold X.i_increasing pIncr
 by_cases h0 : l.length = 0
 ·rw [loop_eq, h0]; rfl
 ·have := loop_allFrom (body := (fun (x16 : Int) => ((bif (decide (x16 < (l.length : Int))) then ((at' zI l (W (x16 - 1))).bind fun v19 => ((at' zI l x16).bind fun v21 => (bif (decide (v19 ≥ v21)) then some (Sum.inr (Sum.inr false)) else some (Sum.inl (W (x16 + 1)))))) else some (Sum.inr (Sum.inl ()))) : Option (Int ⊕ (Unit ⊕ Bool)))))
   (fun k => decide (l.getD (k - 1) 0 < l.getD k 0)) (.inr false) (.inl ()) (l.length - 1) 1 (fun j h1 h2 => by
    have hj : j < l.length := by omega
    have e1 : W ((j : Int) - 1) = ((j - 1 : Nat) : Int) := by rw [W_of (by omega)]; omega
    simp only [lt_cast hj, cond_true, e1, at_getD (show j - 1 < l.length by omega), at_getD hj, Option.bind_some, W_up hj (show l.length ≤ maxLen by omega)]
    show _ = some (bif decide (l.getD (j - 1) zI < l.getD j zI) then _ else _)
    by_cases e : l.getD (j - 1) zI < l.getD j zI
    ·have e' : ¬ l.getD (j - 1) zI ≥ l.getD j zI := by omega
     simp only [e, e', decide_true, decide_false, cond_true, cond_false]
    ·have e' : l.getD (j - 1) zI ≥ l.getD j zI := by omega
     simp only [e, e', decide_true, decide_false, cond_true, cond_false]) (by
    have : 1 + (l.length - 1) = l.length := by omega
    rw [this]; simp only [nlt_self, cond_false])
  rw [show ((1 : Nat) : Int) = 1 from rfl] at this
  rw [this]
  cases allFrom (l.length - 1) 1 fun k => decide (l.getD (k - 1) 0 < l.getD k 0) <;> rfl
theorem rising_eq (l : List Int) (lo hi : Int) (h : l.length ≤ SM) : X.s_l1Rising l lo hi = some (allFrom l.length 0 fun k => pIn (l.getD k 0) lo hi && (decide (k = 0) || decide (l.getD (k - 1) 0 < l.getD k 0))) := by
 have hm := mL
 have h' := h
 unfold SM at h'
 unfold X.s_l1Rising
 rw [run_allN l.length (fun k => pIn (l.getD k 0) lo hi && (decide (k = 0) || decide (l.getD (k - 1) 0 < l.getD k 0))) (.inr false) (.inl ()) ?_ ?_]
 ·cases allFrom l.length 0 _ <;> rfl
 ·intro k hk
  simp only [lt_cast hk, cond_true, at_getD hk, Option.bind_some, s_in, W_up hk (show l.length ≤ maxLen by omega)]
  show _ = some (bif pIn (l.getD k zI) lo hi && (decide (k = 0) || decide (l.getD (k - 1) zI < l.getD k zI)) then _ else _)
  cases pIn (l.getD k zI) lo hi
  ·rfl
  simp only [Bool.not_true, cond_false, Bool.true_and]
  by_cases h0 : k = 0
  ·subst h0; simp
  ·have e0 : (k : Int) > 0 := by omega
   have e1 : W ((k : Int) - 1) = ((k - 1 : Nat) : Int) := by rw [W_of (by omega)]; omega
   simp only [e0, decide_true, cond_true, e1, at_getD (show k - 1 < l.length by omega), Option.bind_some, h0, decide_false, Bool.false_or]
   by_cases e : l.getD (k - 1) zI < l.getD k zI
   ·have e' : ¬ l.getD (k - 1) zI ≥ l.getD k zI := by omega
    simp only [e, e', decide_true, decide_false, cond_true, cond_false]
   ·have e' : l.getD (k - 1) zI ≥ l.getD k zI := by omega
    simp only [e, e', decide_true, decide_false, cond_true, cond_false]
 ·simp only [nlt_self, cond_false]
theorem rising_incr (l : List Int) (lo hi : Int) (h : ∀ k, k < l.length → pIn (l.getD k 0) lo hi = true) : (allFrom l.length 0 fun k => pIn (l.getD k 0) lo hi && (decide (k = 0) || decide (l.getD (k - 1) 0 < l.getD k 0))) = pIncr l := by
 rw [Bool.eq_iff_iff]
 unfold pIncr
 rw [allFrom_iff, allFrom_iff]
 constructor
 ·intro g j h1 h2
  have := g j (by omega) (by omega)
  simp only [Bool.and_eq_true, Bool.or_eq_true, decide_eq_true_eq] at this ⊢
  rcases this.2 with e | e
  ·omega
  ·exact e
 ·intro g j _ h2
  simp only [Bool.and_eq_true, Bool.or_eq_true, decide_eq_true_eq]
  refine ⟨h j (by omega), ?_⟩
  by_cases e : j = 0
  ·exact .inl e
  ·have := g j (by omega) (by omega)
   exact .inr (by simpa using this)
theorem edges_eq (m : TMap) (h : okSides m) (l : List Int) (hl : l.length ≤ SM) : X.s_mEdges m l = some (pEdges m l) := by
 have hm := mL
 have hl' := hl
 unfold SM at hl'
 obtain ⟨h5, h6, h7⟩ := size_eq m h
 have e3 : W ((W (3 * (W (m.Width * m.Height)))) - 1) = 3 * (m.Width * m.Height) - 1 := by rw [h5, W_of (n := 3 * (m.Width * m.Height)) (by omega), W_of (by omega)]
 unfold X.s_mEdges pEdges
 rw [run_all l (pEdge m) (.inr false) (.inl ()) rfl ?_ ?_]
 ·cases ha : l.all (pEdge m)
  ·rfl
  ·simp only [cond_true, Sum.elim_inl, X.s_mSize, Option.bind_some, Bool.true_and, e3, rising_eq l _ _ hl]
   rw [rising_incr]
   intro k hk
   have := List.all_eq_true.1 ha _ (getD_mem (z := 0) hk)
   unfold pEdge at this
   rw [Bool.and_eq_true] at this
   exact this.1
 ·intro k hk
  simp only [lt_cast hk, cond_true, at_nat hk, Option.bind_some, X.s_mSize, e3, s_in, W_up hk (show l.length ≤ maxLen by omega)]
  unfold pEdge
  cases hp : pIn l[k] 0 (3 * (m.Width * m.Height) - 1)
  ·rfl
  ·simp only [Bool.not_true, cond_false, (s_edge m h l[k]).2 hp, Option.bind_some, Bool.true_and]
   by_cases e : pNext m (l[k] / 3) (l[k] % 3) < 0
   ·have e' : ¬ 0 ≤ pNext m (l[k] / 3) (l[k] % 3) := by omega
    simp only [e, e', decide_true, decide_false, cond_true, cond_false]
   ·have e' : 0 ≤ pNext m (l[k] / 3) (l[k] % 3) := by omega
    simp only [e, e', decide_true, decide_false, cond_true, cond_false]
 ·simp only [nlt_self, cond_false]
def pMap (m : TMap) : Bool :=
 pIn m.Width 1 10 && (pIn m.Height 1 10 && (((m.Terrain.length : Int) == m.Width * m.Height) && ((m.Terrain.all fun x => pIn x 0 5) && (pEdges m m.Rivers && pEdges m m.Roads))))
theorem map_eq (m : TMap) (q : smTMap m) : X.s_mGood m = some (pMap m) ∧ X.i_IsMap m = some (pMap m) := by
 have hm := mL
 have hT : m.Terrain.length ≤ maxLen := by have := q.2.2.1.1; unfold SM at this; omega
 have ed : ∀ l : List Int, l.length ≤ SM → okSides m → ∀ {γ : Type} (f : Unit ⊕ Bool → Option γ), ((loop (fun (x167 : Int) => ((bif (decide (x167 < (l.length : Int))) then ((at' zI l x167).bind fun v170 => ((X.i_isEdge m v170).bind fun v172 => (bif (!v172) then some (Sum.inr (Sum.inr false)) else some (Sum.inl (W (x167 + 1)))))) else some (Sum.inr (Sum.inl ()))) : Option (Int ⊕ (Unit ⊕ Bool)))) 0).bind f) = f (bif l.all (pEdge m) then .inl () else .inr false) := by
  intro l hl hs γ f
  have hl' := hl
  unfold SM at hl'
  rw [run_all l (pEdge m) (.inr false) (.inl ()) rfl ?_ ?_]
  ·intro k hk
   simp only [lt_cast hk, cond_true, at_nat hk, Option.bind_some, isEdge_eq m hs, W_up hk (show l.length ≤ maxLen by omega)]
   cases pEdge m l[k] <;> rfl
  ·simp only [nlt_self, cond_false]
 unfold X.s_mGood X.i_IsMap pMap
 simp only [s_in, i_in, Option.bind_some]
 cases h1 : pIn m.Width 1 10
 ·exact ⟨rfl, rfl⟩
 cases h2 : pIn m.Height 1 10
 ·exact ⟨rfl, rfl⟩
 rw [pIn_iff] at h1 h2
 have hs : okSides m := ⟨h1.1, h1.2, h2.1, h2.2⟩
 obtain ⟨h5, h6, h7⟩ := size_eq m hs
 simp only [Bool.not_true, cond_false, cond_true, Bool.true_and, X.s_mSize, Option.bind_some, h5]
 cases h3 : (m.Terrain.length : Int) == m.Width * m.Height
 ·refine ⟨rfl, ?_⟩
  simp only [bne, h3]; rfl
 simp only [bne, h3, Bool.not_true, cond_false, cond_true, Bool.true_and]
 rw [s_all _ _ _ q.2.2.1.1]
 rw [run_all m.Terrain (fun x => pIn x 0 5) (.inr false) (.inl ()) rfl ?_ ?_]
 ·cases ht : (m.Terrain.all fun x => pIn x 0 5)
  ·exact ⟨rfl, rfl⟩
  simp only [cond_true, Sum.elim_inl, Option.bind_some, Bool.true_and, edges_eq m hs _ q.2.2.2.1.1, edges_eq m hs _ q.2.2.2.2.1.1]
  refine ⟨by cases pEdges m m.Rivers <;> rfl, ?_⟩
  rw [run_allN 2 (fun k => pIncr (([m.Rivers, m.Roads] : List (List Int)).getD k zLI) && (([m.Rivers, m.Roads] : List (List Int)).getD k zLI).all (pEdge m)) (.inr false) (.inl ()) ?_ ?_]
  ·simp only [allFrom, pEdges, Bool.and_true]
   show _ = some ((m.Rivers.all (pEdge m) && pIncr m.Rivers) && (m.Roads.all (pEdge m) && pIncr m.Roads))
   change Sum.elim _ _ (bif ((pIncr m.Rivers && m.Rivers.all (pEdge m)) && (pIncr m.Roads && m.Roads.all (pEdge m))) then _ else _) = _
   cases pIncr m.Rivers <;> cases m.Rivers.all (pEdge m) <;> cases pIncr m.Roads <;> cases m.Roads.all (pEdge m) <;> rfl
  ·intro k hk
   have g1 : (([m.Rivers, m.Roads] : List (List Int)).getD k zLI).length ≤ SM := by
    rcases (show k = 0 ∨ k = 1 by omega) with rfl | rfl
    ·exact q.2.2.2.1.1
    ·exact q.2.2.2.2.1.1
   have g2 : 0 ≤ (k : Int) ∧ (k : Int) < (([m.Rivers, m.Roads] : List (List Int)).length : Int) := ⟨by omega, by simp; omega⟩
   rw [show decide ((k : Int) < (([m.Rivers, m.Roads] : List (List Int)).length : Int)) = true from decide_eq_true g2.2]
   simp only [cond_true]
   rw [if_pos g2]
   simp only [Int.toNat_natCast]
   rw [incr_eq _ g1]
   simp only [Option.bind_some]
   cases pIncr (([m.Rivers, m.Roads] : List (List Int)).getD k zLI)
   ·rfl
   simp only [Bool.not_true, cond_false, Bool.true_and]
   rw [ed _ g1 hs]
   have : W ((k : Int) + 1) = ((k + 1 : Nat) : Int) := by rw [W_of (by omega)]; omega
   rw [this]
   cases (([m.Rivers, m.Roads] : List (List Int)).getD k zLI).all (pEdge m) <;> rfl
  ·rfl
 ·intro k hk
  have e6 : W ((6 : Int) - 1) = 5 := rfl
  simp only [lt_cast hk, cond_true, at_nat hk, Option.bind_some, X.i_isIndex, i_in, e6, W_up hk hT]
  cases pIn m.Terrain[k] 0 5 <;> rfl
 ·simp only [nlt_self, cond_false]
noncomputable def pBoard (b : TBoard) : Bool := pRules b.Rules && (pMap b.Map && b.Map.Terrain.all fun x => pIn x 0 ((b.Rules.Terrains.length : Int) - 1))
theorem board_eq (b : TBoard) (q : smTBoard b) : X.s_bGood b = some (pBoard b) ∧ X.i_IsBoard b = some (pBoard b) := by
 have hm := mL
 have hl := q.2.1.2.2.1.1
 have hl' := hl
 unfold SM at hl'
 have hn := q.1.1.1
 unfold SM at hn
 unfold X.s_bGood X.i_IsBoard pBoard
 rw [(rules_eq _ q.1).1, (rules_eq _ q.1).2, (map_eq _ q.2.1).1, (map_eq _ q.2.1).2]
 simp only [Option.bind_some]
 cases pRules b.Rules
 ·exact ⟨rfl, rfl⟩
 cases hmap : pMap b.Map
 ·exact ⟨rfl, rfl⟩
 simp only [Bool.not_true, cond_false, cond_true, Bool.true_and]
 rw [W_of (n := (b.Rules.Terrains.length : Int) - 1) (by omega), s_all _ _ _ hl]
 refine ⟨rfl, ?_⟩
 have hc : X.g_ContainsFunc_int b.Map.Terrain (fun q0 => X.i_IsBoard_1 q0 b) = some (b.Map.Terrain.any fun x => decide (x ≥ (b.Rules.Terrains.length : Int))) :=
  (hasF_eq (z := zI) (f := fun q0 => X.i_IsBoard_1 q0 b) (p := fun x => decide (x ≥ (b.Rules.Terrains.length : Int))) (by omega) (fun x _ => rfl) : _)
 rw [hc]
 simp only [Option.bind_some, Option.some.injEq]
 unfold pMap at hmap
 simp only [Bool.and_eq_true] at hmap
 have h0 := hmap.2.2.2.1
 rw [Bool.eq_iff_iff]
 simp only [Bool.not_eq_true', List.any_eq_false, List.all_eq_true, decide_eq_true_eq]
 constructor
 ·intro h x hx
  have h1 := h x hx
  have h2 := List.all_eq_true.1 h0 x hx
  rw [pIn_iff] at h2 ⊢
  omega
 ·intro h x hx
  have h1 := h x hx
  rw [pIn_iff] at h1
  omega
theorem sides_of {b : TBoard} (h : pBoard b = true) : okSides b.Map ∧ ((b.Map.Terrain.length : Int) = b.Map.Width * b.Map.Height) := by
 unfold pBoard at h
 simp only [Bool.and_eq_true] at h
 have h1 := h.2.1
 unfold pMap at h1
 simp only [Bool.and_eq_true, pIn_iff, beq_iff_eq] at h1
 exact ⟨⟨h1.1.1, h1.1.2, h1.2.1.1, h1.2.1.2⟩, h1.2.2.1⟩
theorem size_of {b : TBoard} (h : pBoard b = true) : X.s_mSize b.Map = some (b.Map.Terrain.length : Int) ∧ 1 ≤ (b.Map.Terrain.length : Int) ∧ (b.Map.Terrain.length : Int) ≤ 100 := by
 obtain ⟨hs, hl⟩ := sides_of h
 obtain ⟨h1, h2, h3⟩ := size_eq _ hs
 unfold X.s_mSize
 rw [h1, hl]
 exact ⟨rfl, h2, h3⟩
theorem i_idx (i n : Int) (hn : 0 ≤ n ∧ n ≤ (SM : Int)) : X.i_isIndex i n = some (pIn i 0 (n - 1)) := by
 unfold X.i_isIndex
 unfold SM at hn
 rw [W_of (by omega), i_in]; rfl
def terr (b : TBoard) (i : Nat) : TTerrain := b.Rules.Terrains.getD (b.Map.Terrain.getD i zI).toNat zTTerrain
def pCost (b : TBoard) (kind i : Nat) : Int := (terr b i).Cost.getD kind zI
theorem kinds_of {b : TBoard} (h : pBoard b = true) : 1 ≤ b.Rules.Kinds.length ∧ b.Rules.Kinds.length ≤ 4 ∧ 1 ≤ b.Rules.Terrains.length ∧ b.Rules.Terrains.length ≤ 6 ∧ (1 ≤ b.Rules.Stack ∧ b.Rules.Stack ≤ 4) ∧ (1 ≤ b.Rules.Turns ∧ b.Rules.Turns ≤ 30) := by
 unfold pBoard pRules at h
 simp only [Bool.and_eq_true, pIn_iff] at h
 omega
theorem kind_of {b : TBoard} (h : pBoard b = true) {k : Nat} (hk : k < b.Rules.Kinds.length) : 1 ≤ (b.Rules.Kinds.getD k zTKind).Strength ∧ (b.Rules.Kinds.getD k zTKind).Strength ≤ 9 ∧ 0 ≤ (b.Rules.Kinds.getD k zTKind).Moves ∧ (b.Rules.Kinds.getD k zTKind).Moves ≤ 9 ∧
  1 ≤ (b.Rules.Kinds.getD k zTKind).Steps ∧ (b.Rules.Kinds.getD k zTKind).Steps ≤ 4 ∧ 0 ≤ (b.Rules.Kinds.getD k zTKind).View ∧ (b.Rules.Kinds.getD k zTKind).View ≤ 4 := by
 unfold pBoard pRules at h
 simp only [Bool.and_eq_true, allFrom_iff] at h
 have := h.1.2.2.2.1 k (by omega) (by omega)
 unfold qK at this
 simp only [Bool.and_eq_true, pIn_iff] at this
 omega
theorem terr_of {b : TBoard} (h : pBoard b = true) {i : Nat} (hi : i < b.Map.Terrain.length) : 0 ≤ b.Map.Terrain.getD i zI ∧ b.Map.Terrain.getD i zI < (b.Rules.Terrains.length : Int) := by
 unfold pBoard at h
 simp only [Bool.and_eq_true, List.all_eq_true, pIn_iff] at h
 have := h.2.2 _ (getD_mem (z := zI) hi)
 omega
theorem costs_of {b : TBoard} (h : pBoard b = true) {t : Nat} (ht : t < b.Rules.Terrains.length) : (b.Rules.Terrains.getD t zTTerrain).Cost.length = b.Rules.Kinds.length ∧ (∀ x ∈ (b.Rules.Terrains.getD t zTTerrain).Cost, 0 ≤ x ∧ x ≤ 9) ∧
  0 ≤ (b.Rules.Terrains.getD t zTTerrain).Height ∧ (b.Rules.Terrains.getD t zTTerrain).Height ≤ 3 ∧ -3 ≤ (b.Rules.Terrains.getD t zTTerrain).Shift ∧ (b.Rules.Terrains.getD t zTTerrain).Shift ≤ 3 := by
 unfold pBoard pRules at h
 simp only [Bool.and_eq_true, allFrom_iff] at h
 have := h.1.2.2.1 t (by omega) (by omega)
 unfold qT at this
 simp only [Bool.and_eq_true, pIn_iff, List.all_eq_true, beq_iff_eq] at this
 refine ⟨by omega, fun x hx => this.2.2.2.1 x hx, by omega, by omega, by omega, by omega⟩
theorem terr_eq {b : TBoard} (h : pBoard b = true) {i : Nat} (hi : i < b.Map.Terrain.length) : X.s_bTerrain b (i : Int) = some (terr b i) ∧ X.i_terrainAt b (i : Int) = some (terr b i) := by
 obtain ⟨h1, h2⟩ := terr_of h hi
 obtain ⟨t, ht⟩ := Int.eq_ofNat_of_zero_le h1
 have ht2 : t < b.Rules.Terrains.length := by omega
 unfold X.s_bTerrain X.i_terrainAt terr
 simp only [at_getD hi, Option.bind_some, ht, at_getD ht2, Int.toNat_natCast, and_self]
theorem cost_eq {b : TBoard} (h : pBoard b = true) {k i : Nat} (hk : k < b.Rules.Kinds.length) (hi : i < b.Map.Terrain.length) :
  X.s_bCost b (k : Int) (i : Int) = some (pCost b k i) ∧ X.i_enterCost b (k : Int) (i : Int) = some (pCost b k i) ∧ 0 ≤ pCost b k i ∧ pCost b k i ≤ 9 := by
 obtain ⟨h1, h2⟩ := terr_of h hi
 obtain ⟨t, ht⟩ := Int.eq_ofNat_of_zero_le h1
 have ht2 : t < b.Rules.Terrains.length := by omega
 obtain ⟨c1, c2, _⟩ := costs_of h ht2
 have hk2 : k < (terr b i).Cost.length := by
  unfold terr
  rw [ht, Int.toNat_natCast, c1]; exact hk
 have hc : 0 ≤ pCost b k i ∧ pCost b k i ≤ 9 := by
  unfold pCost
  refine c2 _ ?_
  have := getD_mem (z := zI) hk2
  unfold terr at this ⊢
  rw [ht, Int.toNat_natCast] at this ⊢
  exact this
 unfold X.s_bCost X.i_enterCost
 rw [(terr_eq h hi).1, (terr_eq h hi).2]
 simp only [Option.bind_some, at_getD hk2]
 exact ⟨rfl, rfl, hc⟩
def pUnit (b : TBoard) (u : TUnit) : Bool :=
 pIn u.Side 0 1 && (pIn u.Kind 0 ((b.Rules.Kinds.length : Int) - 1) && (pIn u.Steps 0 (b.Rules.Kinds.getD u.Kind.toNat zTKind).Steps &&
  ((u.At == -1) || (decide (u.Steps > 0) && (pIn u.At 0 ((b.Map.Terrain.length : Int) - 1) && decide (pCost b u.Kind.toNat u.At.toNat > 0))))))
theorem pUnit_iff {b : TBoard} {u : TUnit} (h : pUnit b u = true) : (u.Side = 0 ∨ u.Side = 1) ∧ 0 ≤ u.Kind ∧ u.Kind < (b.Rules.Kinds.length : Int) ∧ 0 ≤ u.Steps ∧ u.Steps ≤ (b.Rules.Kinds.getD u.Kind.toNat zTKind).Steps ∧
  (u.At = -1 ∨ (0 < u.Steps ∧ 0 ≤ u.At ∧ u.At < (b.Map.Terrain.length : Int) ∧ 0 < pCost b u.Kind.toNat u.At.toNat)) := by
 unfold pUnit at h
 simp only [Bool.and_eq_true, Bool.or_eq_true, pIn_iff, beq_iff_eq, decide_eq_true_eq] at h
 omega
theorem unit_eq {b : TBoard} (h : pBoard b = true) (u : TUnit) : X.s_sUnit b u = some (pUnit b u) ∧ X.i_goodUnit b u = some (pUnit b u) := by
 obtain ⟨g1, g2, _, _⟩ := kinds_of h
 obtain ⟨s1, s2, s3⟩ := size_of h
 unfold X.s_sUnit X.i_goodUnit pUnit X.i_isSide
 simp only [s_in, i_in, Option.bind_some, i_idx _ _ (show 0 ≤ (b.Rules.Kinds.length : Int) ∧ (b.Rules.Kinds.length : Int) ≤ (SM : Int) by unfold SM; omega), W_of (n := (b.Rules.Kinds.length : Int) - 1) (by omega)]
 cases pIn u.Side 0 1
 ·exact ⟨rfl, rfl⟩
 cases hk : pIn u.Kind 0 ((b.Rules.Kinds.length : Int) - 1)
 ·exact ⟨rfl, rfl⟩
 rw [pIn_iff] at hk
 obtain ⟨k, ek⟩ := Int.eq_ofNat_of_zero_le hk.1
 have hk2 : k < b.Rules.Kinds.length := by omega
 simp only [Bool.not_true, cond_false, Bool.true_and, ek, at_getD hk2, Option.bind_some, Int.toNat_natCast]
 cases pIn u.Steps 0 (b.Rules.Kinds.getD k zTKind).Steps
 ·exact ⟨rfl, rfl⟩
 cases ha : u.At == -1
 case true => exact ⟨rfl, rfl⟩
 simp only [Bool.not_true, cond_false, Bool.true_and, Bool.false_or]
 cases hst : decide (u.Steps > 0)
 ·exact ⟨rfl, rfl⟩
 simp only [cond_true, s1, X.i_sizeOf, Option.bind_some, i_idx _ _ (show 0 ≤ (b.Map.Terrain.length : Int) ∧ (b.Map.Terrain.length : Int) ≤ (SM : Int) by unfold SM; omega), W_of (n := (b.Map.Terrain.length : Int) - 1) (by omega), Bool.true_and]
 cases hp : pIn u.At 0 ((b.Map.Terrain.length : Int) - 1)
 ·exact ⟨rfl, rfl⟩
 rw [pIn_iff] at hp
 obtain ⟨i, ei⟩ := Int.eq_ofNat_of_zero_le hp.1
 have hi : i < b.Map.Terrain.length := by omega
 obtain ⟨c1, c2, c3, _⟩ := cost_eq h hk2 hi
 simp only [cond_true, ei, c1, c2, Option.bind_some, Bool.true_and, Int.toNat_natCast]
 refine ⟨trivial, ?_⟩
 congr 1
 rw [Bool.eq_iff_iff]
 simp only [bne_iff_ne, ne_eq, decide_eq_true_eq]
 omega
theorem limN {n : Nat} (h : n ≤ SM) : n + 1 ≤ LIM := by unfold SM at h; unfold LIM; omega
def pHere (us : List TUnit) (a s : Int) (k : Nat) : Bool := ((us.getD k zTUnit).At == a) && ((us.getD k zTUnit).Side == s)
theorem sAt_eq (s : TState) (a d : Int) (h : s.Units.length ≤ SM) : X.s_sAt s a d = some (idxs (pHere s.Units a d) s.Units.length) := by
 have hm := mL
 have h' := h
 unfold SM at h'
 unfold X.s_sAt
 rw [run_idxs s.Units.length (pHere s.Units a d) (fun k l => ((k : Int), l)) (fun l => l) (by rfl) ?_ ?_]
 ·intro j l hj hl
  have e : (l ++ ([(j : Int)] : List Int)).length ≤ LIM := by simp; have := limN (n := l.length) (by unfold SM; omega); omega
  simp only [lt_cast hj, cond_true, at_getD hj, Option.bind_some, W_up hj (show s.Units.length ≤ maxLen by omega), if_pos e, pHere]
  cases ((s.Units.getD j zTUnit).At == a) <;> cases ((s.Units.getD j zTUnit).Side == d) <;> rfl
 ·intro l; simp only [nlt_self, cond_false]
def cnt (us : List TUnit) (a s : Int) (k : Nat) : Nat := (idxs (pHere us a s) k).length
theorem cnt_succ (us : List TUnit) (a s : Int) (k : Nat) : cnt us a s (k + 1) = bif pHere us a s k then cnt us a s k + 1 else cnt us a s k := by
 unfold cnt
 rw [idxs_succ]
 cases pHere us a s k <;> simp
def grid (n : Nat) (us : List TUnit) (k : Nat) : List A2_I := (List.range n).map fun i : Nat => ⟨(cnt us (i : Int) 0 k : Int), (cnt us (i : Int) 1 k : Int)⟩
theorem grid_zero (n : Nat) (us : List TUnit) : List.replicate n zA2_I = grid n us 0 := by
 unfold grid cnt
 simp only [idxs_zero, List.length_nil]
 apply List.ext_getElem
 ·simp
 ·intro i h1 h2; simp [zA2_I, zI]
theorem grid_get {n : Nat} {us : List TUnit} {k i : Nat} (h : i < n) : (grid n us k).getD i zA2_I = ⟨(cnt us (i : Int) 0 k : Int), (cnt us (i : Int) 1 k : Int)⟩ := by
 unfold grid
 simp [List.getD, h]
theorem grid_len {n : Nat} {us : List TUnit} {k : Nat} : (grid n us k).length = n := by simp [grid]
theorem grid_skip {n : Nat} {us : List TUnit} {k : Nat} (h : (us.getD k zTUnit).At < 0) : grid n us (k + 1) = grid n us k := by
 unfold grid
 apply List.map_congr_left
 intro i _
 rw [cnt_succ, cnt_succ]
 have : ∀ s, pHere us (i : Int) s k = false := fun s => by
  unfold pHere
  have : ((us.getD k zTUnit).At == (i : Int)) = false := beq_eq_false_iff_ne.2 (by omega)
  rw [this]; rfl
 rw [this, this]; rfl
theorem grid_set {n : Nat} {us : List TUnit} {k a : Nat} (h : (us.getD k zTUnit).At = (a : Int)) (ha : a < n) :
  (grid n us k).set a ⟨(cnt us (a : Int) 0 (k + 1) : Int), (cnt us (a : Int) 1 (k + 1) : Int)⟩ = grid n us (k + 1) := by
 apply List.ext_getElem
 ·simp [grid]
 ·intro i h1 h2
  rw [List.getElem_set]
  by_cases e : a = i
  ·subst e; simp [grid]
  ·simp only [e, if_false]
   simp only [grid, List.getElem_map, List.getElem_range]
   have : ∀ s, pHere us (i : Int) s k = false := fun s => by
    unfold pHere
    have : ((us.getD k zTUnit).At == (i : Int)) = false := beq_eq_false_iff_ne.2 (by rw [h]; omega)
    rw [this]; rfl
   rw [cnt_succ, cnt_succ, this, this]; rfl
def pPlace (b : TBoard) (us : List TUnit) (k m : Nat) : Bool :=
 decide ((us.getD k zTUnit).At < 0) || (decide (cnt us (us.getD k zTUnit).At (1 - (us.getD k zTUnit).Side) m = 0) && decide ((cnt us (us.getD k zTUnit).At (us.getD k zTUnit).Side m : Int) ≤ b.Rules.Stack))
def pState (b : TBoard) (s : TState) : Bool :=
 pIn s.Turn 0 b.Rules.Turns && (pIn s.Weather 0 2 && (!(decide ((s.Units.length : Int) > 12)) && (allFrom s.Units.length 0 (fun k => pUnit b (s.Units.getD k zTUnit)) && allFrom s.Units.length 0 (fun k => pPlace b s.Units k s.Units.length))))
theorem place_eq (b : TBoard) (us : List TUnit) (hu : ∀ k, k < us.length → (us.getD k zTUnit).Side = 0 ∨ (us.getD k zTUnit).Side = 1) :
  allFrom us.length 0 (fun k => pPlace b us k (k + 1)) = allFrom us.length 0 (fun k => pPlace b us k us.length) := by
 rw [Bool.eq_iff_iff, allFrom_iff, allFrom_iff]
 unfold pPlace
 simp only [Bool.or_eq_true, Bool.and_eq_true, decide_eq_true_eq, Nat.zero_add]
 constructor
 ·intro h j _ hj
  by_cases ha : (us.getD j zTUnit).At < 0
  ·exact .inl ha
  right
  constructor
  ·unfold cnt
   rw [idxs_nil]
   intro i hi
   cases hp : pHere us (us.getD j zTUnit).At (1 - (us.getD j zTUnit).Side) i with
   | false => rfl
   | true =>
    exfalso
    unfold pHere at hp
    simp only [Bool.and_eq_true, beq_iff_eq] at hp
    by_cases hij : i < j
    ·rcases h j (by omega) hj with g | ⟨g, _⟩
     ·exact ha g
     ·unfold cnt at g
      rw [idxs_nil] at g
      have := g i (by omega)
      unfold pHere at this
      rw [hp.1, hp.2] at this
      simp at this
    ·have hij' : i ≠ j := by
      intro e; subst e
      have := hu i hi
      omega
     rcases h i (by omega) hi with g | ⟨g, _⟩
     ·omega
     ·unfold cnt at g
      rw [idxs_nil] at g
      have := g j (by omega)
      unfold pHere at this
      have e2 : 1 - (us.getD i zTUnit).Side = (us.getD j zTUnit).Side := by have := hu j hj; omega
      rw [hp.1, e2] at this
      simp at this
  ·
   have key : ∀ m, m ≤ us.length → j < m → (cnt us (us.getD j zTUnit).At (us.getD j zTUnit).Side m : Int) ≤ b.Rules.Stack := by
    intro m
    induction m with
    | zero => intro _ h2; omega
    | succ m ih =>
     intro h1 h2
     rw [cnt_succ]
     cases hp : pHere us (us.getD j zTUnit).At (us.getD j zTUnit).Side m with
     | true =>
      have hp' := hp
      unfold pHere at hp
      simp only [Bool.and_eq_true, beq_iff_eq] at hp
      rcases h m (by omega) (by omega) with g | ⟨_, g⟩
      ·omega
      ·rw [hp.1, hp.2, cnt_succ, hp'] at g
       exact g
     | false =>
      simp only [cond_false]
      by_cases e : j = m
      ·subst e
       unfold pHere at hp
       simp at hp
      ·exact ih (by omega) (by omega)
   exact key us.length (Nat.le_refl _) hj
 ·intro h j h0 hj
  rcases h j h0 hj with g | ⟨g1, g2⟩
  ·exact .inl g
  ·right
   constructor
   ·have := idxs_mono (p := pHere us (us.getD j zTUnit).At (1 - (us.getD j zTUnit).Side)) (show j + 1 ≤ us.length by omega)
    unfold cnt at g1 ⊢
    omega
   ·have := idxs_mono (p := pHere us (us.getD j zTUnit).At (us.getD j zTUnit).Side) (show j + 1 ≤ us.length by omega)
    unfold cnt at g2 ⊢
    omega
theorem grid_round {n : Nat} {us : List TUnit} {k a : Nat} (hk : us.length ≤ SM) (hk2 : k < us.length) (ha : (us.getD k zTUnit).At = (a : Int)) (han : a < n) :
  ((us.getD k zTUnit).Side = 0 → (grid n us k).set a (A2_I.mk (W (((grid n us k).getD a zA2_I).a0 + 1)) (((grid n us k).getD a zA2_I).a1)) = grid n us (k + 1)) ∧
  ((us.getD k zTUnit).Side = 1 → (grid n us k).set a (A2_I.mk (((grid n us k).getD a zA2_I).a0) (W (((grid n us k).getD a zA2_I).a1 + 1))) = grid n us (k + 1)) := by
 unfold SM at hk
 have l0 : cnt us (a : Int) 0 k ≤ k := idxs_len _ k
 have l1 : cnt us (a : Int) 1 k ≤ k := idxs_len _ k
 constructor
 ·intro hs
  rw [grid_get han, ← grid_set ha han]
  have p0 : pHere us (a : Int) 0 k = true := by unfold pHere; rw [ha, hs]; simp
  have p1 : pHere us (a : Int) 1 k = false := by unfold pHere; rw [hs]; simp
  rw [cnt_succ, cnt_succ, p0, p1]
  simp only [cond_true, cond_false]
  rw [W_of (by omega)]
  rfl
 ·intro hs
  rw [grid_get han, ← grid_set ha han]
  have p0 : pHere us (a : Int) 0 k = false := by unfold pHere; rw [hs]; simp
  have p1 : pHere us (a : Int) 1 k = true := by unfold pHere; rw [ha, hs]; simp
  rw [cnt_succ, cnt_succ, p0, p1]
  simp only [cond_true, cond_false]
  rw [W_of (n := (cnt us (a : Int) 1 k : Int) + 1) (by omega)]
  rfl
theorem state_eq {b : TBoard} (h : pBoard b = true) (q : smTBoard b) (s : TState) (qs : smTState s) : X.s_sGood b s = some (pState b s) ∧ X.i_goodState b s = some (pState b s) := by
 have hm := mL
 obtain ⟨g1, g2, _, _, g3, _⟩ := kinds_of h
 obtain ⟨s1, s2, s3⟩ := size_of h
 have hU := qs.2.2.1.1
 have hU' := hU
 unfold SM at hU'
 constructor
 ·unfold X.s_sGood pState
  rw [(board_eq b q).1, h]
  simp only [Option.bind_some, Bool.not_true, cond_false, s_in]
  cases pIn s.Turn 0 b.Rules.Turns
  ·rfl
  cases pIn s.Weather 0 2
  ·rfl
  cases decide ((s.Units.length : Int) > 12)
  case true => rfl
  simp only [Bool.not_true, Bool.not_false, cond_false, Bool.true_and]
  rw [run_allN s.Units.length (fun k => pUnit b (s.Units.getD k zTUnit)) (.inr false) (.inl ()) ?_ ?_]
  ·cases hall : allFrom s.Units.length 0 (fun k => pUnit b (s.Units.getD k zTUnit))
   ·rfl
   simp only [cond_true, Sum.elim_inl, Bool.true_and]
   rw [run_allN s.Units.length (fun k => pPlace b s.Units k s.Units.length) (.inr false) (.inl ()) ?_ ?_]
   ·cases allFrom s.Units.length 0 (fun k => pPlace b s.Units k s.Units.length) <;> rfl
   ·intro k hk
    have hu := pUnit_iff ((allFrom_iff _ _).1 hall k (by omega) (by omega))
    have e1 : W (1 - (s.Units.getD k zTUnit).Side) = 1 - (s.Units.getD k zTUnit).Side := W_of (by omega)
    simp only [lt_cast hk, cond_true, at_getD hk, Option.bind_some, W_up hk (show s.Units.length ≤ maxLen by omega), e1, sAt_eq s _ _ hU]
    unfold pPlace
    by_cases hA : (s.Units.getD k zTUnit).At < 0
    ·have hA' : ¬ (s.Units.getD k zTUnit).At ≥ 0 := by omega
     simp only [hA, hA', decide_true, decide_false, cond_false, Bool.true_or, cond_true]
    ·have hA' : (s.Units.getD k zTUnit).At ≥ 0 := by omega
     simp only [hA, hA', decide_true, decide_false, cond_true, Bool.false_or]
     change (bif decide ((cnt s.Units (s.Units.getD k zTUnit).At (1 - (s.Units.getD k zTUnit).Side) s.Units.length : Int) > 0) then _ else bif decide ((cnt s.Units (s.Units.getD k zTUnit).At (s.Units.getD k zTUnit).Side s.Units.length : Int) > b.Rules.Stack) then _ else _) = _
     by_cases c1 : cnt s.Units (s.Units.getD k zTUnit).At (1 - (s.Units.getD k zTUnit).Side) s.Units.length = 0
     ·have c1' : ¬ (cnt s.Units (s.Units.getD k zTUnit).At (1 - (s.Units.getD k zTUnit).Side) s.Units.length : Int) > 0 := by omega
      simp only [c1', decide_false, cond_false]
      simp only [c1, decide_true, Bool.true_and]
      by_cases c2 : (cnt s.Units (s.Units.getD k zTUnit).At (s.Units.getD k zTUnit).Side s.Units.length : Int) ≤ b.Rules.Stack
      ·have c2' : ¬ (cnt s.Units (s.Units.getD k zTUnit).At (s.Units.getD k zTUnit).Side s.Units.length : Int) > b.Rules.Stack := by omega
       simp only [c2, c2', decide_true, decide_false, cond_true, cond_false]
      ·have c2' : (cnt s.Units (s.Units.getD k zTUnit).At (s.Units.getD k zTUnit).Side s.Units.length : Int) > b.Rules.Stack := by omega
       simp only [c2, c2', decide_true, decide_false, cond_true, cond_false]
     ·have c1' : (cnt s.Units (s.Units.getD k zTUnit).At (1 - (s.Units.getD k zTUnit).Side) s.Units.length : Int) > 0 := by omega
      simp only [c1, c1', decide_true, decide_false, cond_true, cond_false, Bool.false_and]
   ·simp only [nlt_self, cond_false]
  ·intro k hk
   simp only [lt_cast hk, cond_true, at_getD hk, Option.bind_some, (unit_eq h _).1, W_up hk (show s.Units.length ≤ maxLen by omega)]
   cases pUnit b (s.Units.getD k zTUnit) <;> rfl
  ·simp only [nlt_self, cond_false]
 ·have hq : allFrom s.Units.length 0 (fun k => pUnit b (s.Units.getD k zTUnit) && pPlace b s.Units k (k + 1)) =
    (allFrom s.Units.length 0 (fun k => pUnit b (s.Units.getD k zTUnit)) && allFrom s.Units.length 0 (fun k => pPlace b s.Units k s.Units.length)) := by
   rw [allFrom_and]
   cases hall : allFrom s.Units.length 0 (fun k => pUnit b (s.Units.getD k zTUnit))
   ·rfl
   ·rw [place_eq]
    intro k hk
    exact (pUnit_iff ((allFrom_iff _ _).1 hall k (by omega) (by omega))).1
  unfold X.i_goodState pState
  rw [← hq]
  simp only [i_in, Option.bind_some, X.i_sizeOf]
  cases pIn s.Turn 0 b.Rules.Turns
  ·rfl
  cases pIn s.Weather 0 2
  ·rfl
  cases decide ((s.Units.length : Int) > 12)
  case true => rfl
  simp only [Bool.not_true, Bool.not_false, cond_false, Bool.true_and]
  have hlim : 0 ≤ (b.Map.Terrain.length : Int) ∧ (b.Map.Terrain.length : Int).toNat ≤ LIM := by unfold LIM; omega
  rw [if_pos hlim, Int.toNat_natCast]
  rw [run_allSt s.Units.length (fun k => pUnit b (s.Units.getD k zTUnit) && pPlace b s.Units k (k + 1)) (fun k => ((k : Int), grid b.Map.Terrain.length s.Units k)) (.inr false) (.inl ()) (by rw [grid_zero]; rfl) ?_ ?_]
  ·cases allFrom s.Units.length 0 (fun k => pUnit b (s.Units.getD k zTUnit) && pPlace b s.Units k (k + 1)) <;> rfl
  ·intro k hk
   simp only [lt_cast hk, cond_true, at_getD hk, Option.bind_some, (unit_eq h _).2, W_up hk (show s.Units.length ≤ maxLen by omega)]
   cases hu : pUnit b (s.Units.getD k zTUnit)
   ·rfl
   simp only [Bool.not_true, cond_false, Bool.true_and]
   obtain ⟨hside, _, _, _, _, hat⟩ := pUnit_iff hu
   rcases hat with hat | ⟨_, hat0, hat1, _⟩
   ·have hA : (s.Units.getD k zTUnit).At < 0 := by omega
    simp only [hA, decide_true, cond_true, pPlace, Bool.true_or, grid_skip hA]
   ·have hA : ¬ (s.Units.getD k zTUnit).At < 0 := by omega
    obtain ⟨a, ha⟩ := Int.eq_ofNat_of_zero_le hat0
    have han : a < b.Map.Terrain.length := by omega
    obtain ⟨r0, r1⟩ := grid_round hU hk ha han
    simp only [pPlace, hA, decide_false, cond_false, Bool.false_or]
    rw [if_pos ⟨hat0, by rw [grid_len]; exact hat1⟩]
    have w1 : W (1 - 0) = 1 := rfl
    have w0 : W (1 - 1) = 0 := rfl
    have n10 : ¬ ((1 : Int) = ((0 : Nat) : Int)) := by decide
    have e00 : (0 : Int) = ((0 : Nat) : Int) := rfl
    have e11 : (1 : Int) = ((1 : Nat) : Int) := rfl
    have n01 : ¬ ((0 : Int) = ((1 : Nat) : Int)) := by decide
    rcases hside with hs | hs
    ·have r0 := r0 hs
     rw [ha, Int.toNat_natCast, r0, hs, w1, if_pos e00, if_neg n10, if_pos e11, grid_get han]
     by_cases c1 : cnt s.Units (a : Int) 1 (k + 1) = 0
     ·have c1' : ¬ (cnt s.Units (a : Int) 1 (k + 1) : Int) > 0 := by omega
      have e10 : (1 : Int) - 0 = 1 := rfl
      simp only [decide_eq_false c1', e10, decide_eq_true c1, cond_false, Bool.true_and]
      by_cases c2 : (cnt s.Units (a : Int) 0 (k + 1) : Int) ≤ b.Rules.Stack
      ·have c2' : ¬ (cnt s.Units (a : Int) 0 (k + 1) : Int) > b.Rules.Stack := by omega
       simp only [c2, c2', decide_true, decide_false, cond_true, cond_false]
      ·have c2' : (cnt s.Units (a : Int) 0 (k + 1) : Int) > b.Rules.Stack := by omega
       simp only [c2, c2', decide_true, decide_false, cond_true, cond_false]
     ·have c1' : (cnt s.Units (a : Int) 1 (k + 1) : Int) > 0 := by omega
      have e10 : (1 : Int) - 0 = 1 := rfl
      simp only [decide_eq_true c1', cond_true, e10, decide_eq_false c1, Bool.false_and, cond_false]
    ·have r1 := r1 hs
     rw [ha, Int.toNat_natCast, r1, hs, w0, if_neg n10, if_pos e11, if_pos e00, grid_get han]
     by_cases c1 : cnt s.Units (a : Int) 0 (k + 1) = 0
     ·have c1' : ¬ (cnt s.Units (a : Int) 0 (k + 1) : Int) > 0 := by omega
      have e10 : (1 : Int) - 1 = 0 := rfl
      simp only [decide_eq_false c1', e10, decide_eq_true c1, cond_false, Bool.true_and]
      by_cases c2 : (cnt s.Units (a : Int) 1 (k + 1) : Int) ≤ b.Rules.Stack
      ·have c2' : ¬ (cnt s.Units (a : Int) 1 (k + 1) : Int) > b.Rules.Stack := by omega
       simp only [c2, c2', decide_true, decide_false, cond_true, cond_false]
      ·have c2' : (cnt s.Units (a : Int) 1 (k + 1) : Int) > b.Rules.Stack := by omega
       simp only [c2, c2', decide_true, decide_false, cond_true, cond_false]
     ·have c1' : (cnt s.Units (a : Int) 0 (k + 1) : Int) > 0 := by omega
      have e10 : (1 : Int) - 1 = 0 := rfl
      simp only [decide_eq_true c1', cond_true, e10, decide_eq_false c1, Bool.false_and, cond_false]
  ·simp only [nlt_self, cond_false]
theorem s_fits_eq {b : TBoard} (q : smTBoard b) (s : TState) (qs : smTState s) : X.s_sGood b s = some (pBoard b && pState b s) := by
 cases h : pBoard b
 ·unfold X.s_sGood
  rw [(board_eq b q).1, h]
  rfl
 ·rw [(state_eq h q s qs).1]
  rfl
theorem unit_of {b : TBoard} {s : TState} (h : pState b s = true) {k : Nat} (hk : k < s.Units.length) : pUnit b (s.Units.getD k zTUnit) = true := by
 unfold pState at h
 simp only [Bool.and_eq_true, allFrom_iff] at h
 exact h.2.2.2.1 k (by omega) (by omega)
theorem units_of {b : TBoard} {s : TState} (h : pState b s = true) : s.Units.length ≤ 12 := by
 unfold pState at h
 simp only [Bool.and_eq_true, Bool.not_eq_true', decide_eq_false_iff_not] at h
 have := h.2.2.1
 omega
theorem has_eq (l : List Int) (x : Int) (h : l.length ≤ maxLen) : X.s_l1Has l x = some (l.any fun v => v == x) := by
 unfold X.s_l1Has
 rw [run_all l (fun v => !(v == x)) (.inr true) (.inl ()) rfl ?_ ?_]
 ·rw [List.any_eq_not_all_not]
  cases l.all fun v => !(v == x) <;> rfl
 ·intro k hk
  simp only [lt_cast hk, cond_true, at_nat hk, Option.bind_some, W_up hk h]
  cases l[k] == x <;> rfl
 ·simp only [nlt_self, cond_false]
theorem any_comm (l : List Int) (e : Int) : (l.any fun v => e == v) = l.any fun v => v == e := by
 congr 1
 funext x
 rw [Bool.eq_iff_iff]; simp only [beq_iff_eq]; exact eq_comm
def pReact (b : TBoard) (s : TState) (l : List TReaction) : Bool :=
 !(decide ((l.length : Int) > 12)) && allFrom l.length 0 fun k => pIn (l.getD k zTReaction).Unit 0 ((s.Units.length : Int) - 1) && (pIn (l.getD k zTReaction).Watch 0 ((b.Map.Terrain.length : Int) - 1) && pIn (l.getD k zTReaction).Kind 0 1)
theorem react_eq {b : TBoard} {s : TState} (hb : pBoard b = true) (hs : pState b s = true) (q : smTBoard b) (qs : smTState s) (l : List TReaction) (ql : smLTReaction l) : X.s_iGood b s l = some (pReact b s l) ∧ X.i_goodReactions b s l = some (pReact b s l) := by
 have hm := mL
 have hl := ql.1
 unfold SM at hl
 have hU := units_of hs
 obtain ⟨s1, s2, s3⟩ := size_of hb
 unfold X.s_iGood X.i_goodReactions pReact
 rw [s_fits_eq q s qs, hb, hs]
 simp only [Option.bind_some, Bool.and_self, Bool.not_true, cond_false]
 cases decide ((l.length : Int) > 12)
 case true => exact ⟨rfl, rfl⟩
 simp only [cond_false, Bool.not_false, Bool.true_and]
 rw [run_allN l.length (fun k => pIn (l.getD k zTReaction).Unit 0 ((s.Units.length : Int) - 1) && (pIn (l.getD k zTReaction).Watch 0 ((b.Map.Terrain.length : Int) - 1) && pIn (l.getD k zTReaction).Kind 0 1)) (.inr false) (.inl ()) ?_ ?_,
  run_allN l.length (fun k => pIn (l.getD k zTReaction).Unit 0 ((s.Units.length : Int) - 1) && (pIn (l.getD k zTReaction).Watch 0 ((b.Map.Terrain.length : Int) - 1) && pIn (l.getD k zTReaction).Kind 0 1)) (.inr false) (.inl ()) ?_ ?_]
 ·cases allFrom l.length 0 _ <;> exact ⟨rfl, rfl⟩
 ·intro k hk
  simp only [lt_cast hk, cond_true, at_getD hk, Option.bind_some, X.i_sizeOf, i_in, i_idx _ _ (show 0 ≤ (s.Units.length : Int) ∧ (s.Units.length : Int) ≤ (SM : Int) by unfold SM; omega), i_idx _ _ (show 0 ≤ (b.Map.Terrain.length : Int) ∧ (b.Map.Terrain.length : Int) ≤ (SM : Int) by unfold SM; omega), W_up hk (show l.length ≤ maxLen by omega)]
  cases pIn (l.getD k zTReaction).Unit 0 ((s.Units.length : Int) - 1) <;> cases pIn (l.getD k zTReaction).Watch 0 ((b.Map.Terrain.length : Int) - 1) <;> cases pIn (l.getD k zTReaction).Kind 0 1 <;> rfl
 ·simp only [nlt_self, cond_false]
 ·intro k hk
  simp only [lt_cast hk, cond_true, at_getD hk, Option.bind_some, s1, s_in, W_of (n := (s.Units.length : Int) - 1) (by omega), W_of (n := (b.Map.Terrain.length : Int) - 1) (by omega), W_up hk (show l.length ≤ maxLen by omega)]
  cases pIn (l.getD k zTReaction).Unit 0 ((s.Units.length : Int) - 1) <;> cases pIn (l.getD k zTReaction).Watch 0 ((b.Map.Terrain.length : Int) - 1) <;> cases pIn (l.getD k zTReaction).Kind 0 1 <;> rfl
 ·simp only [nlt_self, cond_false]
def pDiff (l : List Int) : Bool := allFrom l.length 0 fun k => !((l.take k).any fun v => v == l.getD k zI)
theorem take0 {l : List Int} {k : Nat} (hk : k ≤ l.length) : (0 ≤ (0 : Int) ∧ (0 : Int) ≤ (k : Int) ∧ (k : Int) ≤ (l.length : Int)) ∧ (l.drop (0 : Int).toNat).take ((k : Int).toNat - (0 : Int).toNat) = l.take k := by
 refine ⟨by omega, ?_⟩
 simp
theorem i_diff_eq (l : List Int) (h : l.length ≤ SM) : X.i_different l = some (pDiff l) := by
 have hm := mL
 unfold SM at h
 unfold X.i_different pDiff
 rw [run_allN l.length (fun k => !((l.take k).any fun v => v == l.getD k zI)) (.inr false) (.inl ()) ?_ ?_]
 ·cases allFrom l.length 0 _ <;> rfl
 ·intro k hk
  obtain ⟨t1, t2⟩ := take0 (l := l) (k := k) (by omega)
  simp only [lt_cast hk, cond_true, at_getD hk, Option.bind_some, if_pos t1, t2, contains_int (l.take k) _ (by simp; omega), any_comm, W_up hk (show l.length ≤ maxLen by omega)]
  cases (l.take k).any fun v => v == l.getD k zI <;> rfl
 ·simp only [nlt_self, cond_false]
theorem s_diff_eq (l : List Int) (hi : Int) (h : l.length ≤ SM) : X.s_iDifferent l hi = some ((l.all fun x => pIn x 0 hi) && pDiff l) := by
 have hm := mL
 unfold SM at h
 have e : ((l.all fun x => pIn x 0 hi) && pDiff l) = allFrom l.length 0 fun k => pIn (l.getD k zI) 0 hi && !((l.take k).any fun v => v == l.getD k zI) := by
  rw [allFrom_and]
  unfold pDiff
  congr 1
  rw [Bool.eq_iff_iff, allFrom_iff, List.all_eq_true]
  constructor
  ·intro g j _ hj; exact g _ (getD_mem (by omega))
  ·intro g x hx
   obtain ⟨j, hj, rfl⟩ := List.getElem_of_mem hx
   have := g j (by omega) (by omega)
   simpa [List.getD, hj] using this
 rw [e]
 unfold X.s_iDifferent
 rw [run_allN l.length (fun k => pIn (l.getD k zI) 0 hi && !((l.take k).any fun v => v == l.getD k zI)) (.inr false) (.inl ()) ?_ ?_]
 ·cases allFrom l.length 0 _ <;> rfl
 ·intro k hk
  obtain ⟨t1, t2⟩ := take0 (l := l) (k := k) (by omega)
  simp only [lt_cast hk, cond_true, at_getD hk, Option.bind_some, s_in, if_pos t1, t2, has_eq (l.take k) _ (by simp; omega), W_up hk (show l.length ≤ maxLen by omega)]
  cases pIn (l.getD k zI) 0 hi <;> cases (l.take k).any fun v => v == l.getD k zI <;> rfl
 ·simp only [nlt_self, cond_false]
def pEvent (b : TBoard) (s : TState) (f : TFrame) : Bool := pIn f.Unit 0 ((s.Units.length : Int) - 1) && pIn f.At 0 ((b.Map.Terrain.length : Int) - 1)
def bys (m : TMachine) : List Int := m.Stack.map fun f => f.By
def qFrame (b : TBoard) (m : TMachine) (k : Nat) : Bool :=
 pEvent b m.State (m.Stack.getD k zTFrame) && bif decide (k = 0) then (m.Stack.getD k zTFrame).By == -1 else m.Used.any fun v => v == (m.Stack.getD k zTFrame).By
theorem bys_get {m : TMachine} {k : Nat} (hk : k < m.Stack.length) : (bys m).getD k zI = (m.Stack.getD k zTFrame).By := by
 unfold bys
 simp [List.getD, hk]
theorem bys_take {m : TMachine} {k : Nat} (hk : k < m.Stack.length) : (bys m).take (k + 1) = (bys m).take k ++ [(m.Stack.getD k zTFrame).By] := by
 have h : k < (bys m).length := by unfold bys; simpa using hk
 have e : (bys m)[k] = (m.Stack.getD k zTFrame).By := by
  show (List.map (fun f : TFrame => f.By) m.Stack)[k]'(by simpa using hk) = _
  rw [List.getElem_map]
  simp [List.getD, hk]
 rw [List.take_succ_eq_append_getElem h, e]
theorem stack_eq {b : TBoard} (hb : pBoard b = true) {m : TMachine} (hs : pState b m.State = true) (hS : m.Stack.length ≤ SM) (hUs : m.Used.length ≤ SM) : X.i_goodStack b m = some (allFrom m.Stack.length 0 (qFrame b m) && pDiff ((bys m).drop 1)) := by
 have hm := mL
 have hS' := hS
 have hUs' := hUs
 unfold SM at hS' hUs'
 have hU := units_of hs
 obtain ⟨s1, s2, s3⟩ := size_of hb
 have hlen : (bys m).length = m.Stack.length := by simp [bys]
 unfold X.i_goodStack
 rw [run_allSt m.Stack.length (qFrame b m) (fun k => ((k : Int), ((bys m).take k).drop 1)) (.inr false) (.inl ((bys m).drop 1)) (by simp) ?_ ?_]
 ·cases allFrom m.Stack.length 0 (qFrame b m)
  ·rfl
  ·simp only [cond_true, Sum.elim_inl]
   rw [i_diff_eq _ (by simp [hlen]; omega)]; rfl
 ·intro k hk
  simp only [lt_cast hk, cond_true, at_getD hk, Option.bind_some, X.i_sizeOf, i_idx _ _ (show 0 ≤ (m.State.Units.length : Int) ∧ (m.State.Units.length : Int) ≤ (SM : Int) by unfold SM; omega), i_idx _ _ (show 0 ≤ (b.Map.Terrain.length : Int) ∧ (b.Map.Terrain.length : Int) ≤ (SM : Int) by unfold SM; omega), W_up hk (show m.Stack.length ≤ maxLen by omega), qFrame, pEvent]
  cases pIn (m.Stack.getD k zTFrame).Unit 0 ((m.State.Units.length : Int) - 1)
  ·rfl
  cases pIn (m.Stack.getD k zTFrame).At 0 ((b.Map.Terrain.length : Int) - 1)
  ·rfl
  simp only [Bool.not_true, cond_false, Bool.true_and]
  by_cases h0 : k = 0
  ·subst h0
   have e0 : (((0 : Nat) : Int) == 0) = true := rfl
   have e1 : ((bys m).take (0 + 1)).drop 1 = ((bys m).take 0).drop 1 := by rw [bys_take hk]; simp
   simp only [e0, cond_true, decide_true, bne, e1]
   cases (m.Stack.getD 0 zTFrame).By == -1 <;> rfl
  ·have e0 : ((k : Int) == 0) = false := beq_eq_false_iff_ne.2 (by omega)
   have e1 : ((bys m).take (k + 1)).drop 1 = ((bys m).take k).drop 1 ++ [(m.Stack.getD k zTFrame).By] := by
    rw [bys_take hk, List.drop_append_of_le_length (by simp [hlen]; omega)]
   have el : (((bys m).take k).drop 1 ++ ([(m.Stack.getD k zTFrame).By] : List Int)).length ≤ LIM := by simp; unfold LIM; omega
   simp only [e0, cond_false, decide_eq_false h0, contains_int _ _ (show m.Used.length ≤ maxLen by omega), any_comm, Option.bind_some, if_pos el, e1]
   cases m.Used.any fun v => v == (m.Stack.getD k zTFrame).By <;> rfl
 ·have : (bys m).take m.Stack.length = bys m := by rw [← hlen, List.take_length]
  simp only [nlt_self, cond_false, this]
def pMachine (b : TBoard) (l : List TReaction) (m : TMachine) : Bool :=
 (pState b m.State && pReact b m.State l) && (((m.Used.all fun x => pIn x 0 ((l.length : Int) - 1)) && pDiff m.Used) && ((m.Log.all fun x => pIn x (-1) ((l.length : Int) - 1)) && ((allFrom m.Stack.length 0 (qFrame b m) && pDiff ((bys m).drop 1)) && decide ((m.Stack.length : Int) + (m.Log.length : Int) ≤ (m.Used.length : Int) + 1))))
def rFrame (b : TBoard) (m : TMachine) (k : Nat) : Bool :=
 pEvent b m.State (m.Stack.getD k zTFrame) && bif decide (k = 0) then (m.Stack.getD k zTFrame).By == -1 else ((m.Used.any fun v => v == (m.Stack.getD k zTFrame).By) && !(((bys m).take k).any fun v => v == (m.Stack.getD k zTFrame).By))
theorem frames_eq (b : TBoard) (m : TMachine) (hu : ∀ x ∈ m.Used, 0 ≤ x) : allFrom m.Stack.length 0 (rFrame b m) = (allFrom m.Stack.length 0 (qFrame b m) && pDiff ((bys m).drop 1)) := by
 have hlen : (bys m).length = m.Stack.length := by simp [bys]
 have hdl : ((bys m).drop 1).length = m.Stack.length - 1 := by simp [hlen]
 have hget : ∀ k, k + 1 < m.Stack.length → ((bys m).drop 1).getD k zI = (m.Stack.getD (k + 1) zTFrame).By := fun k hk => by
  rw [← bys_get hk]
  simp [List.getD, Nat.add_comm]
 rw [Bool.eq_iff_iff, Bool.and_eq_true]
 unfold pDiff
 rw [allFrom_iff, allFrom_iff, allFrom_iff, hdl]
 unfold rFrame qFrame
 constructor
 ·intro h
  refine ⟨fun j h0 hj => ?_, fun j h0 hj => ?_⟩
  ·have := h j h0 hj
   by_cases e : j = 0
   ·subst e; exact this
   ·simp only [decide_eq_false e, cond_false, Bool.and_eq_true] at this ⊢
    exact ⟨this.1, this.2.1⟩
  ·have := h (j + 1) (by omega) (by omega)
   have e : decide (j + 1 = 0) = false := by simp
   simp only [e, cond_false, Bool.and_eq_true, Bool.not_eq_true', List.any_eq_false, beq_iff_eq] at this
   rw [hget j (by omega)]
   simp only [Bool.not_eq_true', List.any_eq_false, beq_iff_eq]
   intro x hx
   refine this.2.2 x ?_
   have : ((bys m).drop 1).take j = ((bys m).take (j + 1)).drop 1 := by rw [List.take_drop, Nat.add_comm]
   rw [this] at hx
   exact List.mem_of_mem_drop hx
 ·rintro ⟨h1, h2⟩ j h0 hj
  have a1 := h1 j h0 hj
  by_cases e : j = 0
  ·subst e; exact a1
  ·obtain ⟨i, rfl⟩ : ∃ i, j = i + 1 := ⟨j - 1, by omega⟩
   have a2 := h2 i (by omega) (by omega)
   rw [hget i (by omega)] at a2
   simp only [decide_eq_false e, cond_false, Bool.and_eq_true, Bool.not_eq_true', List.any_eq_false, beq_iff_eq] at a1 a2 ⊢
   refine ⟨a1.1, a1.2, fun x hx hxe => ?_⟩
   have hpos : 0 ≤ (m.Stack.getD (i + 1) zTFrame).By := by
    rw [List.any_eq_true] at a1
    obtain ⟨y, hy, hye⟩ := a1.2
    rw [beq_iff_eq] at hye
    rw [← hye]; exact hu y hy
   have h00 := h1 0 (by omega) (by omega)
   simp only [decide_true, cond_true, Bool.and_eq_true, beq_iff_eq] at h00
   obtain ⟨n, hn, hnx⟩ := List.getElem_of_mem hx
   have hn1 : n < i + 1 := by simp at hn; omega
   have hb2 : ((bys m).take (i + 1))[n] = (bys m).getD n zI := by
    rw [List.getElem_take]; simp [List.getD, hlen, show n < m.Stack.length by omega]
   rw [hb2] at hnx
   by_cases hn0 : n = 0
   ·subst hn0
    rw [bys_get (by omega)] at hnx
    omega
   ·obtain ⟨n', rfl⟩ : ∃ n', n = n' + 1 := ⟨n - 1, by omega⟩
    rw [bys_get (by omega)] at hnx
    refine a2 x ?_ hxe
    rw [← hnx, ← hget n' (by omega)]
    have hn2 : n' < (((bys m).drop 1).take i).length := by simp [hlen]; omega
    have : ((bys m).drop 1).getD n' zI = (((bys m).drop 1).take i)[n'] := by
     rw [List.getElem_take]; simp [List.getD]
     rw [List.getElem?_eq_getElem (by simp at hn2; omega)]
     rfl
    rw [this]
    exact List.getElem_mem hn2
theorem machine_eq {b : TBoard} (hb : pBoard b = true) (q : smTBoard b) (l : List TReaction) (ql : smLTReaction l) (m : TMachine) (qm : smTMachine m) : X.s_iMachine b l m = some (pMachine b l m) ∧ X.i_goodMachine b l m = some (pMachine b l m) := by
 have hm := mL
 have hS := qm.1.1
 have hUs := qm.2.1.1
 have hst := qm.2.2.1
 have hLg := qm.2.2.2.1.1
 have hl := ql.1
 have hS' := hS
 have hUs' := hUs
 have hLg' := hLg
 have hl' := hl
 unfold SM at hS' hUs' hLg' hl'
 have el : W ((l.length : Int) - 1) = (l.length : Int) - 1 := W_of (by omega)
 have e1 : W ((m.Stack.length : Int) + (m.Log.length : Int)) = (m.Stack.length : Int) + (m.Log.length : Int) := W_of (by omega)
 have e2 : W ((m.Used.length : Int) + 1) = (m.Used.length : Int) + 1 := W_of (by omega)
 unfold pMachine
 cases hs : pState b m.State
 ·constructor
  ·unfold X.s_iMachine X.s_iGood
   rw [s_fits_eq q m.State hst, hb, hs]; rfl
  ·unfold X.i_goodMachine
   rw [(state_eq hb q m.State hst).2, hs]; rfl
 have hU := units_of hs
 obtain ⟨s1, s2, s3⟩ := size_of hb
 cases hr : pReact b m.State l
 ·constructor
  ·unfold X.s_iMachine
   rw [(react_eq hb hs q hst l ql).1, hr]; rfl
  ·unfold X.i_goodMachine
   rw [(state_eq hb q m.State hst).2, hs, (react_eq hb hs q hst l ql).2, hr]; rfl
 constructor
 ·unfold X.s_iMachine
  rw [(react_eq hb hs q hst l ql).1, hr, el, e1, e2, s_diff_eq _ _ hUs, s_all _ _ _ hLg]
  simp only [Option.bind_some, Bool.not_true, cond_false, Bool.true_and]
  cases hu : m.Used.all fun x => pIn x 0 ((l.length : Int) - 1)
  ·rfl
  have hup : ∀ x ∈ m.Used, 0 ≤ x := fun x hx => (pIn_iff.1 (List.all_eq_true.1 hu x hx)).1
  cases pDiff m.Used
  ·rfl
  simp only [Bool.and_self, Bool.not_true, cond_false, Bool.true_and]
  by_cases hc : (m.Stack.length : Int) + (m.Log.length : Int) ≤ (m.Used.length : Int) + 1
  ·have hc' : ¬ (m.Stack.length : Int) + (m.Log.length : Int) > (m.Used.length : Int) + 1 := by omega
   simp only [decide_eq_true hc, decide_eq_false hc', cond_false, Bool.and_true]
   cases m.Log.all fun x => pIn x (-1) ((l.length : Int) - 1)
   ·rfl
   simp only [Bool.not_true, cond_false, Bool.true_and]
   rw [← frames_eq b m hup]
   rw [run_allSt m.Stack.length (rFrame b m) (fun k => ((k : Int), (bys m).take k)) (.inr false) (.inl ()) (by simp) ?_ ?_]
   ·cases allFrom m.Stack.length 0 (rFrame b m) <;> rfl
   ·intro k hk
    have eA : ((bys m).take (k + 1)).length ≤ LIM := by simp; unfold LIM; omega
    have hbl : ((bys m).take k).length ≤ maxLen := by simp; omega
    simp only [lt_cast hk, cond_true, at_getD hk, Option.bind_some, X.s_iEvent, s_in, s1, W_of (n := (m.State.Units.length : Int) - 1) (by omega), W_of (n := (b.Map.Terrain.length : Int) - 1) (by omega), has_eq m.Used _ (show m.Used.length ≤ maxLen by omega), has_eq _ _ hbl, if_pos eA, ← bys_take hk, W_up hk (show m.Stack.length ≤ maxLen by omega), rFrame, pEvent]
    cases pIn (m.Stack.getD k zTFrame).Unit 0 ((m.State.Units.length : Int) - 1)
    ·rfl
    cases pIn (m.Stack.getD k zTFrame).At 0 ((b.Map.Terrain.length : Int) - 1)
    ·rfl
    simp only [Bool.not_true, cond_false, cond_true, Bool.true_and, Option.bind_some]
    by_cases h0 : k = 0
    ·subst h0
     have e0 : (((0 : Nat) : Int) == 0) = true := rfl
     have e3 : decide (((0 : Nat) : Int) > 0) = false := rfl
     simp only [e0, e3, cond_true, cond_false, decide_true, bne]
     cases (m.Stack.getD 0 zTFrame).By == -1 <;> rfl
    ·have e0 : ((k : Int) == 0) = false := beq_eq_false_iff_ne.2 (by omega)
     have e3 : (k : Int) > 0 := by omega
     simp only [e0, decide_eq_true e3, cond_true, cond_false, decide_eq_false h0]
     cases m.Used.any fun v => v == (m.Stack.getD k zTFrame).By <;> cases ((bys m).take k).any fun v => v == (m.Stack.getD k zTFrame).By <;> rfl
   ·simp only [nlt_self, cond_false]
  ·have hc' : (m.Stack.length : Int) + (m.Log.length : Int) > (m.Used.length : Int) + 1 := by omega
   simp only [decide_eq_false hc, decide_eq_true hc', cond_true, Bool.and_false]
 ·unfold X.i_goodMachine
  rw [(state_eq hb q m.State hst).2, hs, (react_eq hb hs q hst l ql).2, hr, i_diff_eq _ hUs]
  have c1 : X.g_ContainsFunc_int m.Used (fun q0 => X.i_goodMachine_1 q0 l) = some (!(m.Used.all fun x => pIn x 0 ((l.length : Int) - 1))) := by
   rw [List.not_all_eq_any_not]
   exact hasF_eq (z := zI) (f := fun q0 => X.i_goodMachine_1 q0 l) (p := fun x => !(pIn x 0 ((l.length : Int) - 1))) (by omega) (fun x _ => by
    unfold X.i_goodMachine_1
    rw [i_idx _ _ (show 0 ≤ (l.length : Int) ∧ (l.length : Int) ≤ (SM : Int) by unfold SM; omega)]; rfl)
  have c2 : X.g_ContainsFunc_int m.Log (fun q0 => X.i_goodMachine_2 q0 l) = some (!(m.Log.all fun x => pIn x (-1) ((l.length : Int) - 1))) := by
   rw [List.not_all_eq_any_not]
   exact hasF_eq (z := zI) (f := fun q0 => X.i_goodMachine_2 q0 l) (p := fun x => !(pIn x (-1) ((l.length : Int) - 1))) (by omega) (fun x _ => by
    unfold X.i_goodMachine_2
    rw [el, i_in]; rfl)
  rw [c1, c2, stack_eq hb hs hS hUs, e1, e2]
  simp only [Option.bind_some, Bool.not_true, cond_false, Bool.true_and]
  cases m.Used.all fun x => pIn x 0 ((l.length : Int) - 1) <;> cases pDiff m.Used <;> cases m.Log.all fun x => pIn x (-1) ((l.length : Int) - 1) <;> cases allFrom m.Stack.length 0 (qFrame b m) && pDiff ((bys m).drop 1) <;> rfl
def pHex (m : TMap) (i : Int) : THex := ⟨i % m.Width, i / m.Width⟩
theorem hexAt_eq {m : TMap} (h : okSides m) {i : Int} (hi : 0 ≤ i ∧ i < m.Width * m.Height) : X.s_mHex m i = some (pHex m i) ∧ X.i_hexOf m i = some (pHex m i) ∧ (0 ≤ (pHex m i).Q ∧ (pHex m i).Q < 10) ∧ (0 ≤ (pHex m i).R ∧ (pHex m i).R < 10) := by
 obtain ⟨h5, h6, h7⟩ := size_eq m h
 obtain ⟨h1, h2, h3, h4⟩ := h
 have hne : m.Width ≠ 0 := by omega
 have hm1 : 0 ≤ i % m.Width := Int.emod_nonneg _ hne
 have hm2 : i % m.Width < m.Width := Int.emod_lt_of_pos _ (by omega)
 have hd1 : 0 ≤ i / m.Width := Int.ediv_nonneg hi.1 (by omega)
 have hd2 : i / m.Width < m.Height := Int.ediv_lt_of_lt_mul (by omega) (by rw [Int.mul_comm]; exact hi.2)
 unfold X.s_mHex X.i_hexOf pHex
 rw [if_pos hne, if_pos hne, tmod_nn hi.1 h1, tdiv_nn hi.1, W_of (n := i / m.Width) (by omega)]
 exact ⟨rfl, rfl, ⟨hm1, by show i % m.Width < 10; omega⟩, ⟨hd1, by show i / m.Width < 10; omega⟩⟩
def pAbs (x : Int) : Int := if x < 0 then -x else x
theorem abs_eq (x : Int) (h : -4611686018427387904 < x ∧ x < 4611686018427387904) : X.s_l1Abs x = some (pAbs x) ∧ X.i_absOf x = some (pAbs x) := by
 unfold X.s_l1Abs X.i_absOf X.s_l1Most pAbs
 rw [W_of (n := 0 - x) (by omega)]
 by_cases hx : x < 0
 ·have : ¬ x > 0 - x := by omega
  rw [if_pos hx, decide_eq_true hx, decide_eq_false this]
  have e : 0 - x = -x := by omega
  rw [e]; exact ⟨rfl, rfl⟩
 ·rw [if_neg hx, decide_eq_false hx]
  by_cases h2 : x > 0 - x
  ·rw [decide_eq_true h2]; exact ⟨rfl, rfl⟩
  ·rw [decide_eq_false h2]
   have e : 0 - x = x := by omega
   rw [e]; exact ⟨rfl, rfl⟩
def pDist (a b : THex) : Int := (pAbs (b.Q - a.Q) + pAbs (b.R - a.R) + pAbs (b.Q - a.Q + (b.R - a.R))) / 2
theorem dist_eq {a b : THex} (ha : (-100 ≤ a.Q ∧ a.Q < 100) ∧ (-100 ≤ a.R ∧ a.R < 100)) (hb : (-100 ≤ b.Q ∧ b.Q < 100) ∧ (-100 ≤ b.R ∧ b.R < 100)) : X.s_hDistance a b = some (pDist a b) ∧ X.i_distance a b = some (pDist a b) ∧ 0 ≤ pDist a b ∧ pDist a b ≤ 1000 := by
 have b1 : 0 ≤ pAbs (b.Q - a.Q) ∧ pAbs (b.Q - a.Q) ≤ 200 := by unfold pAbs; split <;> omega
 have b2 : 0 ≤ pAbs (b.R - a.R) ∧ pAbs (b.R - a.R) ≤ 200 := by unfold pAbs; split <;> omega
 have b3 : 0 ≤ pAbs (b.Q - a.Q + (b.R - a.R)) ∧ pAbs (b.Q - a.Q + (b.R - a.R)) ≤ 400 := by unfold pAbs; split <;> omega
 unfold X.s_hDistance X.i_distance pDist
 rw [W_of (n := b.Q - a.Q) (by omega), W_of (n := b.R - a.R) (by omega), W_of (n := b.Q - a.Q + (b.R - a.R)) (by omega)]
 rw [(abs_eq _ (show -4611686018427387904 < b.Q - a.Q ∧ b.Q - a.Q < 4611686018427387904 by omega)).1, (abs_eq _ (show -4611686018427387904 < b.Q - a.Q ∧ b.Q - a.Q < 4611686018427387904 by omega)).2,
  (abs_eq _ (show -4611686018427387904 < b.R - a.R ∧ b.R - a.R < 4611686018427387904 by omega)).1, (abs_eq _ (show -4611686018427387904 < b.R - a.R ∧ b.R - a.R < 4611686018427387904 by omega)).2,
  (abs_eq _ (show -4611686018427387904 < b.Q - a.Q + (b.R - a.R) ∧ b.Q - a.Q + (b.R - a.R) < 4611686018427387904 by omega)).1, (abs_eq _ (show -4611686018427387904 < b.Q - a.Q + (b.R - a.R) ∧ b.Q - a.Q + (b.R - a.R) < 4611686018427387904 by omega)).2]
 simp only [Option.bind_some]
 rw [W_of (n := pAbs (b.Q - a.Q) + pAbs (b.R - a.R)) (by omega), W_of (n := pAbs (b.Q - a.Q) + pAbs (b.R - a.R) + pAbs (b.Q - a.Q + (b.R - a.R))) (by omega), tdiv_nn (by omega), W_of (by omega)]
 exact ⟨rfl, rfl, by omega, by omega⟩
theorem Wp {z : Int} (h : 0 ≤ z) (k : z ≤ 4611686018427387904) : W (z + 1) = z + 1 := W_of (by omega)
theorem mark_loop {β : Type} {f : Int → Option β} (n b : Nat) {body : Int × Int → Option ((Int × Int) ⊕ Int)} (hn : n ≤ SM) (hb : b ≤ 2097152)
  (hstep : ∀ (i : Nat) (q : Int), i < n → 0 ≤ q → q ≤ 2305843009213693000 → ∃ q' : Int, body (q, (i : Int)) = some (.inl (q', ((i + 1 : Nat) : Int))) ∧ q ≤ q' ∧ q' ≤ q + b)
  (hend : ∀ q, body (q, (n : Int)) = some (.inr q)) (k : Int) (h0 : 0 ≤ k) (hk : k ≤ 1152921504606846976) : ∃ k' : Int, (loop body (k, 0)).bind f = f k' ∧ k ≤ k' ∧ k' ≤ k + 2199023255552 := by
 unfold SM at hn
 have hbb : n * b ≤ 1048576 * 2097152 := Nat.mul_le_mul hn hb
 have key := loop_ind (body := body) (fun x : Int × Int => ∃ i : Nat, x.2 = (i : Int) ∧ i ≤ n ∧ k ≤ x.1 ∧ x.1 ≤ k + ((i * b : Nat) : Int)) (fun x => n - x.2.toNat) (fun r => k ≤ r ∧ r ≤ k + ((n * b : Nat) : Int)) (s := (k, 0)) ?_ ⟨0, rfl, by omega, Int.le_refl _, by simp⟩
 ·obtain ⟨r, h1, h2, h3⟩ := key
  exact ⟨r, by rw [h1]; rfl, h2, by omega⟩
 ·rintro ⟨q, x⟩ ⟨i, rfl, hi, h1, h2⟩
  have hib : i * b ≤ n * b := Nat.mul_le_mul_right b hi
  simp only at h1 h2
  by_cases h : i < n
  ·obtain ⟨q', e, g1, g2⟩ := hstep i q h (by omega) (by omega)
   have e2 : (i + 1) * b = i * b + b := Nat.succ_mul i b
   exact .inl ⟨_, e, ⟨i + 1, rfl, by omega, by simp only; omega, by simp only; omega⟩, by simp only; omega⟩
  ·have : i = n := by omega
   subst this
   exact .inr ⟨_, hend q, h1, h2⟩
def Mk (f : Int → Option Int) : Prop := ∀ k : Int, 0 ≤ k → k ≤ 1152921504606846976 → ∃ k' : Int, f k = some k' ∧ k ≤ k' ∧ k' ≤ k + 2199023255552
theorem mkInt_L {xs : List Int} (h : xs.length ≤ SM) (k : Int) (h0 : 0 ≤ k) (hk : k ≤ 2305843009213693952) : X.l_markIntS_L xs k = some (k + xs.length) := by
 unfold SM at h
 unfold X.l_markIntS_L
 have key := loop_ind (body := (fun (x10 : (Int × Int)) => ((bif (decide (x10.2 < (xs.length : Int))) then ((at' zI xs x10.2).bind fun v13 => some (Sum.inl ((W (x10.1 + 1)), (W (x10.2 + 1))))) else some (Sum.inr x10.1)) : Option ((Int × Int) ⊕ Int))))
  (fun x : Int × Int => ∃ i : Nat, x.2 = (i : Int) ∧ i ≤ xs.length ∧ x.1 = k + i) (fun x => xs.length - x.2.toNat) (fun r => r = k + xs.length) (s := (k, 0)) ?_ ⟨0, rfl, by omega, by simp⟩
 ·obtain ⟨r, h1, h2⟩ := key
  rw [h1, h2]; rfl
 ·rintro ⟨q, x⟩ ⟨i, rfl, hi, e⟩
  simp only at e
  subst e
  by_cases h : i < xs.length
  ·refine .inl ⟨(k + ((i + 1 : Nat) : Int), ((i + 1 : Nat) : Int)), ?_, ⟨i + 1, rfl, by omega, rfl⟩, by simp only; omega⟩
   simp only [lt_cast h, cond_true, at_getD h, Option.bind_some]
   rw [Wp (by omega) (by omega), Wp (by omega) (by omega)]
   congr 3 <;> omega
  ·have : i = xs.length := by omega
   subst this
   exact .inr ⟨_, by simp only [nlt_self, cond_false], rfl⟩
theorem mkIntS_L {xs : List Int} (h : xs.length ≤ SM) : Mk (X.l_markIntS_L xs) := fun k h0 hk => ⟨_, mkInt_L h k h0 (by omega), by omega, by unfold SM at h; omega⟩
theorem u8_digit {x : Int} (h : 0 ≤ x ∧ x < 10) : ([IntKind.u8.wrap (W (48 + x))] : List Int).all inU8 = true := by
 rw [W_of (by omega)]
 have : IntKind.u8.wrap (48 + x) = 48 + x := by simp only [IntKind.wrap]; simp [IntKind.signed, IntKind.bits]; omega
 rw [this]
 simp only [List.all_cons, List.all_nil, Bool.and_true, inU8]
 exact decide_eq_true (by omega)
theorem markText_ok (k : Int) (h0 : 0 ≤ k) (hk : k ≤ 4611686018427387904) : ∃ s, X.l_markText k = some s := by
 have hm : maxLen = 9223372036854775807 := by decide
 unfold X.l_markText
 by_cases hz : k ≤ 0
 ·simp [hz]
 ·simp only [decide_eq_false hz, cond_false]
  have key := loop_ind (body := (fun (x12 : (Int × (List UInt8))) => ((bif (decide (x12.1 > 0)) then (if ([(IntKind.u8.wrap (W (48 + (Int.tmod x12.1 10))))] : List Int).all inU8 = true then (if (bytesOf ([(IntKind.u8.wrap (W (48 + (Int.tmod x12.1 10))))] : List Int)).length + x12.2.length ≤ maxLen then some (Sum.inl ((W (Int.tdiv x12.1 10)), ((bytesOf ([(IntKind.u8.wrap (W (48 + (Int.tmod x12.1 10))))] : List Int)) ++ x12.2))) else none) else none) else some (Sum.inr x12.2)) : Option ((Int × (List UInt8)) ⊕ (List UInt8)))))
   (fun x => 0 ≤ x.1 ∧ x.1 + (x.2.length : Int) ≤ k) (fun x => x.1.toNat) (fun r => (r.length : Int) ≤ k) (s := (k, [])) ?_ ⟨h0, by simp⟩
  ·obtain ⟨r, h1, h2⟩ := key
   rw [h1]
   refine ⟨_, if_pos ?_⟩
   simp only [List.length_cons, List.length_nil]; omega
  ·rintro ⟨q, l⟩ ⟨a1, a2⟩
   simp only at a1 a2
   by_cases hq : q > 0
   ·have hr := Int.tmod_eq_emod_of_nonneg (b := 10) a1
    have hd : Int.tdiv q 10 = q / 10 := Int.tdiv_eq_ediv_of_nonneg a1
    refine .inl ⟨(W (Int.tdiv q 10), bytesOf ([(IntKind.u8.wrap (W (48 + (Int.tmod q 10))))] : List Int) ++ l), ?_, ⟨?_, ?_⟩, ?_⟩
    ·simp only [decide_eq_true hq, cond_true]
     rw [if_pos (u8_digit (by omega)), if_pos (by rw [bytesOf_len]; simp only [List.length_cons, List.length_nil]; omega)]
    ·simp only; rw [W_of (by omega)]; omega
    ·simp only [List.length_append, bytesOf_len, List.length_cons, List.length_nil]; rw [W_of (by omega)]; omega
    ·simp only; rw [W_of (by omega)]; omega
   ·exact .inr ⟨l, by simp only [decide_eq_false hq, cond_false], (by omega : (l.length : Int) ≤ k)⟩
theorem mkTerrainS_L {xs : List TTerrain} (h : smLTTerrain xs) : Mk (X.l_markTerrainS_L xs) := fun k h0 hk => by
 have hs := h.1
 unfold SM at hs
 unfold X.l_markTerrainS_L
 refine mark_loop (f := fun y => some y) xs.length 1048580 h.1 (by omega) (fun i q hi hq0 hq => ?_) (fun q => by simp only [nlt_self, cond_false]) k h0 hk
 obtain ⟨s, hs'⟩ := markText_ok q hq0 (by omega)
 have hc : (xs.getD i zTTerrain).Cost.length ≤ SM := by
  have e : xs.getD i zTTerrain = xs[i] := by simp [List.getD, hi]
  rw [e]; exact (h.2 xs[i] (List.getElem_mem hi)).2.1.1
 have hc' := hc
 unfold SM at hc'
 simp only [lt_cast hi, cond_true, at_getD hi, hs', Option.bind_some]
 rw [Wp hq0 (by omega), mkInt_L hc (q + 1) (by omega) (by omega)]
 simp only [Option.bind_some]
 simp (disch := omega) only [Wp]
 exact ⟨_, rfl, by omega, by omega⟩
theorem mkKindS_L {xs : List TKind} (h : smLTKind xs) : Mk (X.l_markKindS_L xs) := fun k h0 hk => by
 have hs := h.1
 unfold SM at hs
 unfold X.l_markKindS_L
 refine mark_loop (f := fun y => some y) xs.length 6 h.1 (by omega) (fun i q hi hq0 hq => ?_) (fun q => by simp only [nlt_self, cond_false]) k h0 hk
 obtain ⟨s, hs'⟩ := markText_ok q hq0 (by omega)
 simp only [lt_cast hi, cond_true, at_getD hi, hs', Option.bind_some]
 simp (disch := omega) only [Wp]
 exact ⟨_, rfl, by omega, by omega⟩
theorem mkRules_L {x : TRules} (h : smTRules x) (k : Int) (h0 : 0 ≤ k) (hk : k ≤ 1099511627776000) : ∃ k' : Int, X.l_markRules_L x k = some k' ∧ k ≤ k' ∧ k' ≤ k + 4398046511104 := by
 obtain ⟨a, e1, b1, c1⟩ := mkTerrainS_L (xs := x.Terrains) (by have := h; simp only [smTRules] at this; exact ⟨this.1.1, this.1.2⟩) k h0 (by omega)
 obtain ⟨d, e2, b2, c2⟩ := mkKindS_L (xs := x.Kinds) (by have := h; simp only [smTRules] at this; exact ⟨this.2.1.1, this.2.1.2⟩) a (by omega) (by omega)
 unfold X.l_markRules_L
 rw [e1, Option.bind_some, e2]
 exact ⟨_, rfl, by omega, by omega⟩
theorem mkMap_L {x : TMap} (h : smTMap x) (k : Int) (h0 : 0 ≤ k) (hk : k ≤ 1099511627776000) : ∃ k' : Int, X.l_markMap_L x k = some k' ∧ k ≤ k' ∧ k' ≤ k + 4398046511104 := by
 have h' := h
 simp only [smTMap] at h'
 have q1 := h'.2.2.1.1
 have q2 := h'.2.2.2.1.1
 have q3 := h'.2.2.2.2.1.1
 unfold X.l_markMap_L
 unfold SM at q1 q2 q3
 rw [mkInt_L h'.2.2.1.1 k h0 (by omega), Option.bind_some, mkInt_L h'.2.2.2.1.1 _ (by omega) (by omega), Option.bind_some, mkInt_L h'.2.2.2.2.1.1 _ (by omega) (by omega), Option.bind_some]
 exact ⟨_, rfl, by omega, by omega⟩
theorem mkBoard_L {x : TBoard} (h : smTBoard x) (k : Int) (h0 : 0 ≤ k) (hk : k ≤ 549755813888000) : ∃ k' : Int, X.l_markBoard_L x k = some k' ∧ k ≤ k' ∧ k' ≤ k + 8796093022208 := by
 obtain ⟨a, e1, b1, c1⟩ := mkRules_L (x := x.Rules) h.1 k h0 (by omega)
 obtain ⟨d, e2, b2, c2⟩ := mkMap_L (x := x.Map) h.2.1 a (by omega) (by omega)
 unfold X.l_markBoard_L
 rw [e1, Option.bind_some, e2]
 exact ⟨_, rfl, by omega, by omega⟩
theorem mkUnitRow_L {xs : List TUnit} (h : xs.length ≤ SM) : Mk (X.l_markUnitS_L xs) := fun k h0 hk => by
 have hs := h
 unfold SM at hs
 unfold X.l_markUnitS_L
 refine mark_loop (f := fun y => some y) xs.length 4 h (by omega) (fun i q hi hq0 hq => ?_) (fun q => by simp only [nlt_self, cond_false]) k h0 hk
 simp only [lt_cast hi, cond_true, at_getD hi, Option.bind_some]
 simp (disch := omega) only [Wp]
 exact ⟨_, rfl, by omega, by omega⟩
theorem mkFrameRow_L {xs : List TFrame} (h : xs.length ≤ SM) : Mk (X.l_markFrameS_L xs) := fun k h0 hk => by
 have hs := h
 unfold SM at hs
 unfold X.l_markFrameS_L
 refine mark_loop (f := fun y => some y) xs.length 3 h (by omega) (fun i q hi hq0 hq => ?_) (fun q => by simp only [nlt_self, cond_false]) k h0 hk
 simp only [lt_cast hi, cond_true, at_getD hi, Option.bind_some]
 simp (disch := omega) only [Wp]
 exact ⟨_, rfl, by omega, by omega⟩
theorem mkReactionRow_L {xs : List TReaction} (h : xs.length ≤ SM) : Mk (X.l_markReactionS_L xs) := fun k h0 hk => by
 have hs := h
 unfold SM at hs
 unfold X.l_markReactionS_L
 refine mark_loop (f := fun y => some y) xs.length 3 h (by omega) (fun i q hi hq0 hq => ?_) (fun q => by simp only [nlt_self, cond_false]) k h0 hk
 simp only [lt_cast hi, cond_true, at_getD hi, Option.bind_some]
 simp (disch := omega) only [Wp]
 exact ⟨_, rfl, by omega, by omega⟩
theorem mkReactionS_L {x : List TReaction} (h : smLTReaction x) (k : Int) (h0 : 0 ≤ k) (hk : k ≤ 549755813888000) : ∃ k' : Int, X.l_markReactionS_L x k = some k' ∧ k ≤ k' ∧ k' ≤ k + 8796093022208 := by
 obtain ⟨a, e1, b1, c1⟩ := mkReactionRow_L (xs := x) h.1 k h0 (by omega)
 exact ⟨_, e1, by omega, by omega⟩
theorem mkState_L0 {x : TState} (h : smTState x) (k : Int) (h0 : 0 ≤ k) (hk : k ≤ 1152921504606846976) : ∃ k' : Int, X.l_markState_L x k = some k' ∧ k ≤ k' ∧ k' ≤ k + 8796093022208 := by
 obtain ⟨a, e1, b1, c1⟩ := mkUnitRow_L (xs := x.Units) h.2.2.1.1 k h0 (by omega)
 unfold X.l_markState_L
 rw [e1]
 exact ⟨_, rfl, by omega, by omega⟩
theorem mkMachine_L {x : TMachine} (h : smTMachine x) (k : Int) (h0 : 0 ≤ k) (hk : k ≤ 549755813888000) : ∃ k' : Int, X.l_markMachine_L x k = some k' ∧ k ≤ k' ∧ k' ≤ k + 8796093022208 + 8796093022208 := by
 obtain ⟨a, e1, b1, c1⟩ := mkFrameRow_L (xs := x.Stack) h.1.1 k h0 (by omega)
 obtain ⟨a2, e2, b2, c2⟩ := mkIntS_L (xs := x.Used) h.2.1.1 a (by omega) (by omega)
 obtain ⟨a3, e3, b3, c3⟩ := mkState_L0 (x := x.State) h.2.2.1 a2 (by omega) (by omega)
 obtain ⟨a4, e4, b4, c4⟩ := mkIntS_L (xs := x.Log) h.2.2.2.1.1 a3 (by omega) (by omega)
 unfold X.l_markMachine_L
 rw [e1, Option.bind_some, e2, Option.bind_some, e3, Option.bind_some, e4]
 exact ⟨_, rfl, by omega, by omega⟩
def mks (k : Int) (n : Nat) : List Int := (List.range n).map fun i : Nat => k + (i : Int)
theorem mks_len (k : Int) (n : Nat) : (mks k n).length = n := by simp [mks]
theorem mks_get (k : Int) {n i : Nat} (h : i < n) : (mks k n).getD i zI = k + i := by simp [mks, List.getD, h]
theorem mkInt_M {xs : List Int} (h : xs.length ≤ SM) (k : Int) (h0 : 0 ≤ k) (hk : k ≤ 2305843009213693952) : X.l_markIntS_Mod xs k = some (k + xs.length, mks k xs.length) := by
 unfold SM at h
 unfold X.l_markIntS_Mod
 have key := loop_ind (body := (fun (x8 : (Int × Int × (List Int))) => ((bif (decide (x8.2.1 < (x8.2.2.length : Int))) then (if 0 ≤ x8.2.1 ∧ x8.2.1 < (x8.2.2.length : Int) then some (Sum.inl ((W (x8.1 + 1)), (W (x8.2.1 + 1)), (x8.2.2.set x8.2.1.toNat x8.1))) else none) else some (Sum.inr (x8.1, x8.2.2))) : Option ((Int × Int × (List Int)) ⊕ (Int × (List Int))))))
  (fun x => ∃ i : Nat, x.2.1 = (i : Int) ∧ i ≤ xs.length ∧ x.1 = k + i ∧ x.2.2 = mks k i ++ xs.drop i) (fun x => xs.length - x.2.1.toNat) (fun r => r = (k + (xs.length : Int), mks k xs.length)) (s := (k, 0, xs)) ?_ ⟨0, rfl, by omega, by simp, by simp [mks]⟩
 ·obtain ⟨r, h1, h2⟩ := key
  rw [h1, h2]; rfl
 ·rintro ⟨q, x, l⟩ ⟨i, rfl, hi, e1, e2⟩
  simp only at e1 e2
  subst e1 e2
  have hlen : (mks k i ++ xs.drop i).length = xs.length := by rw [List.length_append, mks_len, List.length_drop]; omega
  by_cases h : i < xs.length
  ·refine .inl ⟨(k + ((i + 1 : Nat) : Int), ((i + 1 : Nat) : Int), mks k (i + 1) ++ xs.drop (i + 1)), ?_, ⟨i + 1, rfl, by omega, rfl, rfl⟩, by simp only; omega⟩
   simp only [hlen, lt_cast h, cond_true]
   rw [if_pos ⟨by omega, by omega⟩, Wp (by omega) (by omega), Wp (by omega) (by omega)]
   have e3 : (mks k i ++ xs.drop i).set (i : Int).toNat (k + (i : Int)) = mks k (i + 1) ++ xs.drop (i + 1) := by
    rw [Int.toNat_natCast, List.set_append_right _ _ (by rw [mks_len]; omega), mks_len, Nat.sub_self, List.drop_eq_getElem_cons h, List.set_cons_zero]
    simp [mks, List.range_succ]
   rw [e3]
   congr 3
   ·omega
  ·have : i = xs.length := by omega
   subst this
   refine .inr ⟨_, ?_, rfl⟩
   simp only [hlen, nlt_self, cond_false]
   simp
theorem heldInt {k : Int} {n : Nat} (h : n ≤ SM) (h0 : 0 ≤ k) (hk : k ≤ 2305843009213693952) : X.l_heldIntS (mks k n) k = some (k + n) := by
 unfold SM at h
 unfold X.l_heldIntS
 have key := loop_ind (body := (fun (x12 : (Int × Int)) => ((bif (decide (x12.2 < ((mks k n).length : Int))) then ((at' zI (mks k n) x12.2).bind fun v15 => (bif (v15 != x12.1) then some (Sum.inr (Sum.inr (-1))) else some (Sum.inl ((W (x12.1 + 1)), (W (x12.2 + 1)))))) else some (Sum.inr (Sum.inl x12.1))) : Option ((Int × Int) ⊕ (Int ⊕ Int)))))
  (fun x => ∃ i : Nat, x.2 = (i : Int) ∧ i ≤ n ∧ x.1 = k + i) (fun x => n - x.2.toNat) (fun r => r = .inl (k + (n : Int))) (s := (k, 0)) ?_ ⟨0, rfl, by omega, by simp⟩
 ·obtain ⟨r, h1, h2⟩ := key
  rw [h1, h2]; rfl
 ·rintro ⟨q, x⟩ ⟨i, rfl, hi, e⟩
  simp only at e
  subst e
  by_cases h : i < n
  ·refine .inl ⟨(k + ((i + 1 : Nat) : Int), ((i + 1 : Nat) : Int)), ?_, ⟨i + 1, rfl, by omega, rfl⟩, by simp only; omega⟩
   simp only [mks_len, lt_cast h, cond_true]
   rw [at_getD (by rw [mks_len]; exact h), mks_get k h]
   simp only [Option.bind_some, bne_self_eq_false, cond_false]
   rw [Wp (by omega) (by omega), Wp (by omega) (by omega)]
   congr 3
   ·omega
  ·have : i = n := by omega
   subst this
   exact .inr ⟨_, by simp only [mks_len, nlt_self, cond_false], rfl⟩
theorem mhIntS {xs : List Int} (h : xs.length ≤ SM) (k : Int) (h0 : 0 ≤ k) (hk : k ≤ 1152921504606846976) : ∃ (r : Int) (ys : List Int), X.l_markIntS_Mod xs k = some (r, ys) ∧ ys.length = xs.length ∧ X.l_heldIntS ys k = some r ∧ k ≤ r ∧ r ≤ k + 1048576 :=
 ⟨_, _, mkInt_M h k h0 (by omega), mks_len _ _, heldInt h h0 (by omega), by omega, by unfold SM at h; omega⟩
def mkF {α : Type} (g : Int → α) (c : Nat) (k : Int) (n : Nat) : List α := (List.range n).map fun i : Nat => g (k + ((c * i : Nat) : Int))
theorem mkF_len {α : Type} (g : Int → α) (c : Nat) (k : Int) (n : Nat) : (mkF g c k n).length = n := by simp [mkF]
theorem mkF_get {α : Type} (g : Int → α) (c : Nat) (k : Int) {n i : Nat} (h : i < n) (z : α) : (mkF g c k n).getD i z = g (k + ((c * i : Nat) : Int)) := by simp [mkF, List.getD, h]
theorem getD_set {α : Type} {l : List α} {i : Nat} {a z : α} (h : i < l.length) : (l.set i a).getD i z = a := by simp [List.getD, h]
theorem mark_rows {α : Type} (g : Int → α) {c : Nat} {xs : List α} {body : Int × Int × List α → Option ((Int × Int × List α) ⊕ (Int × List α))} (h : xs.length ≤ SM) (hc : c ≤ 8)
  (hstep : ∀ (q : Int) (i : Nat) (l : List α), i < l.length → l.length ≤ SM → 0 ≤ q → q ≤ 2305843009213693952 → body (q, (i : Int), l) = some (.inl (q + (c : Int), ((i + 1 : Nat) : Int), l.set i (g q))))
  (hend : ∀ (q : Int) (l : List α), body (q, (l.length : Int), l) = some (.inr (q, l))) (k : Int) (h0 : 0 ≤ k) (hk : k ≤ 1152921504606846976) :
  loop body (k, 0, xs) = some (k + ((c * xs.length : Nat) : Int), mkF g c k xs.length) := by
 have hS := h
 unfold SM at h
 have hm : c * xs.length ≤ 8 * 1048576 := Nat.mul_le_mul hc h
 have key := loop_ind (body := body) (fun x => ∃ i : Nat, x.2.1 = (i : Int) ∧ i ≤ xs.length ∧ x.1 = k + ((c * i : Nat) : Int) ∧ x.2.2 = mkF g c k i ++ xs.drop i) (fun x => xs.length - x.2.1.toNat)
  (fun r => r = (k + ((c * xs.length : Nat) : Int), mkF g c k xs.length)) (s := (k, 0, xs)) ?_ ⟨0, rfl, by omega, by simp, by simp [mkF]⟩
 ·obtain ⟨r, h1, h2⟩ := key
  rw [h1, h2]
 ·rintro ⟨q, x, l⟩ ⟨i, rfl, hi, e1, e2⟩
  simp only at e1 e2
  subst e1 e2
  have hlen : (mkF g c k i ++ xs.drop i).length = xs.length := by rw [List.length_append, mkF_len, List.length_drop]; omega
  by_cases h1 : i < xs.length
  ·have hci : c * i ≤ c * xs.length := Nat.mul_le_mul_left c hi
   have hcs : c * (i + 1) = c * i + c := Nat.mul_succ c i
   refine .inl ⟨(k + ((c * (i + 1) : Nat) : Int), ((i + 1 : Nat) : Int), mkF g c k (i + 1) ++ xs.drop (i + 1)), ?_, ⟨i + 1, rfl, by omega, rfl, rfl⟩, by simp only [Int.toNat_natCast]; omega⟩
   rw [hstep _ i _ (by rw [hlen]; exact h1) (by rw [hlen]; exact hS) (by omega) (by omega)]
   have e3 : (mkF g c k i ++ xs.drop i).set i (g (k + ((c * i : Nat) : Int))) = mkF g c k (i + 1) ++ xs.drop (i + 1) := by
    rw [List.set_append_right _ _ (by rw [mkF_len]; omega), mkF_len, Nat.sub_self, List.drop_eq_getElem_cons h1, List.set_cons_zero]
    simp [mkF, List.range_succ]
   rw [e3]
   congr 3
   omega
  ·have : i = xs.length := by omega
   subst this
   refine .inr ⟨_, ?_, rfl⟩
   have := hend (k + ((c * xs.length : Nat) : Int)) (mkF g c k xs.length ++ xs.drop xs.length)
   rw [hlen] at this
   rw [this]
   simp
theorem held_rows {c n : Nat} {k : Int} {body : Int × Int → Option ((Int × Int) ⊕ (Int ⊕ Int))} (h : n ≤ SM) (hc : c ≤ 8) (h0 : 0 ≤ k) (hk : k ≤ 1152921504606846976)
  (hstep : ∀ (i : Nat) (q : Int), i < n → q = k + ((c * i : Nat) : Int) → 0 ≤ q → q ≤ 2305843009213693952 → body (q, (i : Int)) = some (.inl (q + (c : Int), ((i + 1 : Nat) : Int))))
  (hend : ∀ q, body (q, (n : Int)) = some (.inr (.inl q))) : loop body (k, 0) = some (.inl (k + ((c * n : Nat) : Int))) := by
 unfold SM at h
 have hm : c * n ≤ 8 * 1048576 := Nat.mul_le_mul hc h
 have key := loop_ind (body := body) (fun x => ∃ i : Nat, x.2 = (i : Int) ∧ i ≤ n ∧ x.1 = k + ((c * i : Nat) : Int)) (fun x => n - x.2.toNat) (fun r => r = .inl (k + ((c * n : Nat) : Int))) (s := (k, 0)) ?_ ⟨0, rfl, by omega, by simp⟩
 ·obtain ⟨r, h1, h2⟩ := key
  rw [h1, h2]
 ·rintro ⟨q, x⟩ ⟨i, rfl, hi, e⟩
  simp only at e
  by_cases h1 : i < n
  ·have hci : c * i ≤ c * n := Nat.mul_le_mul_left c hi
   have hcs : c * (i + 1) = c * i + c := Nat.mul_succ c i
   refine .inl ⟨_, hstep i q h1 e (by omega) (by omega), ⟨i + 1, rfl, by omega, by simp only; omega⟩, by simp only [Int.toNat_natCast]; omega⟩
  ·have : i = n := by omega
   subst this
   exact .inr ⟨_, hend q, by rw [e]⟩
theorem mhUnitS {xs : List TUnit} (h : xs.length ≤ SM) (k : Int) (h0 : 0 ≤ k) (hk : k ≤ 1152921504606846976) : ∃ (r : Int) (ys : List TUnit), X.l_markUnitS_Mod xs k = some (r, ys) ∧ ys.length = xs.length ∧ X.l_heldUnitS ys k = some r ∧ k ≤ r ∧ r ≤ k + 8388608 := by
 have hn := h
 unfold SM at hn
 refine ⟨k + ((4 * xs.length : Nat) : Int), mkF (fun q => TUnit.mk q (q + 1) (q + 2) (q + 3)) 4 k xs.length, ?_, mkF_len _ _ _ _, ?_, by omega, by omega⟩
 ·unfold X.l_markUnitS_Mod
  rw [mark_rows (fun q => TUnit.mk q (q + 1) (q + 2) (q + 3)) (c := 4) h (by omega) ?_ ?_ k h0 hk]
  ·rfl
  ·intro q i l hi hl q0 q1
   unfold SM at hl
   have w1 : W (q + 1) = q + 1 := W_of (by omega)
   have w2 : W (q + 1 + 1) = q + 2 := by rw [W_of (by omega)]; omega
   have w3 : W (q + 2 + 1) = q + 3 := by rw [W_of (by omega)]; omega
   have w4 : W (q + 3 + 1) = q + 4 := by rw [W_of (by omega)]; omega
   have w5 : W ((i : Int) + 1) = ((i + 1 : Nat) : Int) := by rw [W_of (by omega)]; omega
   simp only [lt_cast hi, cond_true, Int.toNat_natCast, Option.bind_some, List.set_set, getD_set hi, w1, w2, w3, w4, w5]
   exact if_pos ⟨by omega, by omega⟩
  ·intro q l; simp only [nlt_self, cond_false]
 ·unfold X.l_heldUnitS
  rw [held_rows (c := 4) (n := xs.length) h (by omega) h0 hk ?_ ?_]
  ·rfl
  ·intro i q hi e q0 q1
   have w1 : W (q + 1) = q + 1 := W_of (by omega)
   have w2 : W (q + 1 + 1) = q + 2 := by rw [W_of (by omega)]; omega
   have w3 : W (q + 2 + 1) = q + 3 := by rw [W_of (by omega)]; omega
   have w4 : W (q + 3 + 1) = q + 4 := by rw [W_of (by omega)]; omega
   have w5 : W ((i : Int) + 1) = ((i + 1 : Nat) : Int) := by rw [W_of (by omega)]; omega
   simp only [mkF_len, lt_cast hi, cond_true]
   rw [at_getD (by rw [mkF_len]; exact hi), mkF_get _ _ _ hi, ← e]
   simp only [Option.bind_some, w1, w2, w3, w4, w5, bne_self_eq_false, cond_false]
   rfl
  ·intro q; simp only [mkF_len, nlt_self, cond_false]
theorem mhFrameS {xs : List TFrame} (h : xs.length ≤ SM) (k : Int) (h0 : 0 ≤ k) (hk : k ≤ 1152921504606846976) : ∃ (r : Int) (ys : List TFrame), X.l_markFrameS_Mod xs k = some (r, ys) ∧ ys.length = xs.length ∧ X.l_heldFrameS ys k = some r ∧ k ≤ r ∧ r ≤ k + 8388608 := by
 have hn := h
 unfold SM at hn
 refine ⟨k + ((3 * xs.length : Nat) : Int), mkF (fun q => TFrame.mk q (q + 1) (q + 2)) 3 k xs.length, ?_, mkF_len _ _ _ _, ?_, by omega, by omega⟩
 ·unfold X.l_markFrameS_Mod
  rw [mark_rows (fun q => TFrame.mk q (q + 1) (q + 2)) (c := 3) h (by omega) ?_ ?_ k h0 hk]
  ·rfl
  ·intro q i l hi hl q0 q1
   unfold SM at hl
   have w1 : W (q + 1) = q + 1 := W_of (by omega)
   have w2 : W (q + 1 + 1) = q + 2 := by rw [W_of (by omega)]; omega
   have w3 : W (q + 2 + 1) = q + 3 := by rw [W_of (by omega)]; omega
   have w5 : W ((i : Int) + 1) = ((i + 1 : Nat) : Int) := by rw [W_of (by omega)]; omega
   simp only [lt_cast hi, cond_true, Int.toNat_natCast, Option.bind_some, List.set_set, getD_set hi, w1, w2, w3, w5]
   exact if_pos ⟨by omega, by omega⟩
  ·intro q l; simp only [nlt_self, cond_false]
 ·unfold X.l_heldFrameS
  rw [held_rows (c := 3) (n := xs.length) h (by omega) h0 hk ?_ ?_]
  ·rfl
  ·intro i q hi e q0 q1
   have w1 : W (q + 1) = q + 1 := W_of (by omega)
   have w2 : W (q + 1 + 1) = q + 2 := by rw [W_of (by omega)]; omega
   have w3 : W (q + 2 + 1) = q + 3 := by rw [W_of (by omega)]; omega
   have w5 : W ((i : Int) + 1) = ((i + 1 : Nat) : Int) := by rw [W_of (by omega)]; omega
   simp only [mkF_len, lt_cast hi, cond_true]
   rw [at_getD (by rw [mkF_len]; exact hi), mkF_get _ _ _ hi, ← e]
   simp only [Option.bind_some, w1, w2, w3, w5, bne_self_eq_false, cond_false]
   rfl
  ·intro q; simp only [mkF_len, nlt_self, cond_false]
theorem mhMachine {x : TMachine} (h : smTMachine x) (k : Int) (h0 : 0 ≤ k) (hk : k ≤ 576460752303423488) : ∃ (r : Int) (y : TMachine), X.l_markMachine_Mod x k = some (r, y) ∧ (y.Stack.length = x.Stack.length ∧ y.Used.length = x.Used.length ∧ y.State.Units.length = x.State.Units.length ∧ y.Log.length = x.Log.length) ∧ X.l_heldMachine ⟨y.Stack, y.Used, ⟨x.State.Turn, x.State.Weather, y.State.Units⟩, y.Log⟩ k = some r ∧ k ≤ r ∧ r ≤ k + 33554432 := by
 obtain ⟨r1, y1, a1, b1, c1, d1, e1⟩ := mhFrameS h.1.1 k h0 (by omega)
 obtain ⟨r2, y2, a2, b2, c2, d2, e2⟩ := mhIntS h.2.1.1 r1 (by omega) (by omega)
 obtain ⟨r3, y3, a3, b3, c3, d3, e3⟩ := mhUnitS h.2.2.1.2.2.1.1 r2 (by omega) (by omega)
 obtain ⟨r4, y4, a4, b4, c4, d4, e4⟩ := mhIntS h.2.2.2.1.1 r3 (by omega) (by omega)
 refine ⟨r4, ⟨y1, y2, ⟨x.State.Turn, x.State.Weather, y3⟩, y4⟩, ?_, ⟨b1, b2, b3, b4⟩, ?_, by omega, by omega⟩
 ·unfold X.l_markMachine_Mod X.l_markState_Mod
  simp only [a1, b1, a2, b2, a3, b3, a4, b4, Option.bind_some, if_true]
 ·unfold X.l_heldMachine X.l_heldState
  simp only [c1, c2, c3, c4, Option.bind_some, decide_eq_false (show ¬ r1 < 0 by omega), decide_eq_false (show ¬ r2 < 0 by omega), decide_eq_false (show ¬ r3 < 0 by omega), decide_eq_false (show ¬ r4 < 0 by omega), cond_false]
theorem nodup_len : ∀ (n : Nat) (l : List Int), l.Nodup → (∀ x ∈ l, 0 ≤ x ∧ x < (n : Int)) → l.length ≤ n
 | 0, l, _, h => by
  cases l with
  | nil => exact Nat.le_refl _
  | cons x r => have := h x (by simp); omega
 | n + 1, l, hn, h => by
  by_cases hm : (n : Int) ∈ l
  ·have h1 := nodup_len n (l.erase (n : Int)) (hn.erase _) fun x hx => by
    have := (List.Nodup.mem_erase_iff hn).1 hx
    have := h x this.2
    omega
   rw [List.length_erase_of_mem hm] at h1
   have : 0 < l.length := List.length_pos_of_mem hm
   omega
  ·have h1 := nodup_len n l hn fun x hx => by
    have := h x hx
    have : x ≠ (n : Int) := fun e => hm (e ▸ hx)
    omega
   omega
theorem pDiff_nodup {l : List Int} (h : pDiff l = true) : l.Nodup := by
 unfold pDiff at h
 refine List.pairwise_iff_getElem.2 fun i j hi hj hij => ?_
 have := (allFrom_iff _ _).1 h j (by omega) (by omega)
 simp only [Bool.not_eq_true', List.any_eq_false, beq_iff_eq] at this
 intro e
 refine this l[i] ?_ ?_
 ·rw [List.mem_take_iff_getElem]; exact ⟨i, by omega, rfl⟩
 ·rw [e]; simp [List.getD, hj]
structure MI (b : TBoard) (l : List TReaction) (m : TMachine) : Prop where
 un : m.State.Units.length ≤ 12
 us : ∀ k, k < m.State.Units.length → pUnit b (m.State.Units.getD k zTUnit) = true
 rc : ∀ k, k < l.length → (0 ≤ (l.getD k zTReaction).Unit ∧ (l.getD k zTReaction).Unit < (m.State.Units.length : Int)) ∧ (0 ≤ (l.getD k zTReaction).Watch ∧ (l.getD k zTReaction).Watch < (b.Map.Terrain.length : Int)) ∧ ((l.getD k zTReaction).Kind = 0 ∨ (l.getD k zTReaction).Kind = 1)
 ll : l.length ≤ 12
 st : ∀ f ∈ m.Stack, (0 ≤ f.Unit ∧ f.Unit < (m.State.Units.length : Int)) ∧ (0 ≤ f.At ∧ f.At < (b.Map.Terrain.length : Int)) ∧ (-1 ≤ f.By ∧ f.By < (l.length : Int))
 ud : m.Used.Nodup ∧ ∀ x ∈ m.Used, 0 ≤ x ∧ x < (l.length : Int)
 ln : m.Stack.length + m.Log.length ≤ m.Used.length + 1
theorem MI.used {b : TBoard} {l : List TReaction} {m : TMachine} (h : MI b l m) : m.Used.length ≤ l.length := nodup_len _ _ h.ud.1 h.ud.2
theorem MI.sm {b : TBoard} {l : List TReaction} {m : TMachine} (h : MI b l m) : smTMachine m := by
 have h1 := h.used
 have h2 := h.ll
 have h3 := h.ln
 have h4 := h.un
 exact ⟨⟨by unfold SM; omega, fun _ _ => ⟨trivial, trivial, trivial, trivial⟩⟩, ⟨by unfold SM; omega, fun _ _ => trivial⟩, ⟨trivial, trivial, ⟨by unfold SM; omega, fun _ _ => ⟨trivial, trivial, trivial, trivial, trivial⟩⟩, trivial⟩, ⟨by unfold SM; omega, fun _ _ => trivial⟩, trivial⟩
theorem MI.of {b : TBoard} {l : List TReaction} {m : TMachine} (h : pMachine b l m = true) : MI b l m := by
 unfold pMachine at h
 simp only [Bool.and_eq_true, List.all_eq_true, pIn_iff, decide_eq_true_eq] at h
 obtain ⟨⟨hs, hr⟩, ⟨hu, hd⟩, hlg, ⟨hst, hby⟩, hln⟩ := h
 unfold pReact at hr
 simp only [Bool.and_eq_true, Bool.not_eq_true', decide_eq_false_iff_not] at hr
 refine ⟨units_of hs, fun k hk => unit_of hs hk, fun k hk => ?_, by omega, fun f hf => ?_, ⟨pDiff_nodup hd, fun x hx => by have := hu x hx; omega⟩, by omega⟩
 ·have := (allFrom_iff _ _).1 hr.2 k (by omega) (by omega)
  simp only [Bool.and_eq_true, pIn_iff] at this
  omega
 ·obtain ⟨k, hk, rfl⟩ := List.getElem_of_mem hf
  have hq := (allFrom_iff _ _).1 hst k (by omega) (by omega)
  have e : m.Stack.getD k zTFrame = m.Stack[k] := by simp [List.getD, hk]
  unfold qFrame pEvent at hq
  rw [e] at hq
  simp only [Bool.and_eq_true, pIn_iff] at hq
  have hb : -1 ≤ (m.Stack[k]).By ∧ (m.Stack[k]).By < (l.length : Int) := by
   by_cases h0 : k = 0
   ·have := hq.2
    simp only [decide_eq_true h0, cond_true, beq_iff_eq] at this
    omega
   ·have := hq.2
    simp only [decide_eq_false h0, cond_false, List.any_eq_true, beq_iff_eq] at this
    obtain ⟨x, hx, hxe⟩ := this
    have := hu x hx
    omega
  omega
theorem mnext_eq {b : TBoard} (hb : pBoard b = true) {l : List TReaction} {m : TMachine} (h : MI b l m) (hne : 0 < m.Stack.length) :
  ∃ v : Int, X.s_iNext b l m = some v ∧ X.i_nextReaction b l m = some v ∧ (v = -1 ∨ ∃ k : Nat, v = (k : Int) ∧ k < l.length ∧ (k : Int) ∉ m.Used) := by
 have hm := mL
 have hU := h.un
 have hul := h.used
 have hll := h.ll
 have hln := h.ln
 obtain ⟨hsd, hlz⟩ := sides_of hb
 obtain ⟨_, s2, s3⟩ := size_of hb
 unfold X.s_iNext X.i_nextReaction
 have e0 : ((m.Stack.length : Int) == 0) = false := beq_eq_false_iff_ne.2 (by omega)
 have e1 : W ((m.Stack.length : Int) - 1) = ((m.Stack.length - 1 : Nat) : Int) := by rw [W_of (by omega)]; omega
 rw [e0, e1, at_getD (show m.Stack.length - 1 < m.Stack.length by omega)]
 simp only [cond_false, Option.bind_some]
 have hq := h.st _ (getD_mem (z := zTFrame) (show m.Stack.length - 1 < m.Stack.length by omega))
 generalize m.Stack.getD (m.Stack.length - 1) zTFrame = top at hq
 obtain ⟨tu, htu⟩ := Int.eq_ofNat_of_zero_le hq.1.1
 have htul : tu < m.State.Units.length := by omega
 obtain ⟨y1, y2, y3, y4⟩ := hexAt_eq hsd (i := top.At) (by omega)
 have both := loop_both (b := (fun (x68 : Int) => ((bif (decide (x68 < (l.length : Int))) then ((at' zTReaction l x68).bind fun v71 => ((at' zTUnit m.State.Units v71.Unit).bind fun v73 => ((X.g_Contains_int m.Used x68).bind fun v83 => (bif v83 then some (Sum.inl (W (x68 + 1))) else ((at' zTUnit m.State.Units top.Unit).bind fun v86 => (bif (v86.Side == v73.Side) then some (Sum.inl (W (x68 + 1))) else (bif (top.At != v71.Watch) then some (Sum.inl (W (x68 + 1))) else (bif (decide (v73.At < 0)) then some (Sum.inl (W (x68 + 1))) else ((X.i_hexOf b.Map v73.At).bind fun v91 => ((X.i_hexOf b.Map top.At).bind fun v93 => ((X.i_distance v91 v93).bind fun v95 => ((at' zTKind b.Rules.Kinds v73.Kind).bind fun v97 => (bif (decide (v95 ≤ v97.View)) then some (Sum.inr (Sum.inr x68)) else some (Sum.inl (W (x68 + 1)))))))))))))))) else some (Sum.inr (Sum.inl ()))) : Option (Int ⊕ (Unit ⊕ Int)))))
  (b' := (fun (x68 : Int) => ((bif (decide (x68 < (l.length : Int))) then ((at' zTReaction l x68).bind fun v71 => ((at' zTUnit m.State.Units v71.Unit).bind fun v73 => ((X.s_l1Has m.Used x68).bind fun v83 => (bif v83 then some (Sum.inl (W (x68 + 1))) else (bif (v71.Watch != top.At) then some (Sum.inl (W (x68 + 1))) else (bif (decide (v73.At < 0)) then some (Sum.inl (W (x68 + 1))) else ((at' zTUnit m.State.Units top.Unit).bind fun v88 => (bif (v73.Side == v88.Side) then some (Sum.inl (W (x68 + 1))) else ((X.s_mHex b.Map v73.At).bind fun v91 => ((X.s_mHex b.Map top.At).bind fun v93 => ((X.s_hDistance v91 v93).bind fun v95 => ((at' zTKind b.Rules.Kinds v73.Kind).bind fun v97 => (bif (decide (v95 ≤ v97.View)) then some (Sum.inr (Sum.inr x68)) else some (Sum.inl (W (x68 + 1)))))))))))))))) else some (Sum.inr (Sum.inl ()))) : Option (Int ⊕ (Unit ⊕ Int)))))
  (fun t => ∃ k : Nat, t = (k : Int) ∧ k ≤ l.length) (fun t => l.length - t.toNat) (fun r => match r with | .inl _ => True | .inr x => ∃ k : Nat, x = (k : Int) ∧ k < l.length ∧ (k : Int) ∉ m.Used) (s := (0 : Int)) ?_ ⟨0, rfl, by omega⟩
 ·obtain ⟨y, z1, z2, z3⟩ := both
  rw [z1, z2]
  cases y with
  | inl u => exact ⟨-1, rfl, rfl, .inl rfl⟩
  | inr x => exact ⟨x, rfl, rfl, .inr z3⟩
 ·rintro t ⟨k, ht, hk⟩
  subst ht
  by_cases hk1 : k < l.length
  ·have hrk := h.rc k hk1
   obtain ⟨u, hu⟩ := Int.eq_ofNat_of_zero_le hrk.1.1
   have hul2 : u < m.State.Units.length := by omega
   have hun := pUnit_iff (h.us u hul2)
   obtain ⟨j, hj⟩ := Int.eq_ofNat_of_zero_le hun.2.1
   have hjl : j < b.Rules.Kinds.length := by omega
   simp only [lt_cast hk1, cond_true, at_getD hk1, Option.bind_some, hu, at_getD hul2, has_eq m.Used _ (show m.Used.length ≤ maxLen by omega), contains_int m.Used _ (show m.Used.length ≤ maxLen by omega), any_comm, htu, at_getD htul, W_up hk1 (show l.length ≤ maxLen by omega)]
   have fin : ∀ z : Option (Int ⊕ (Unit ⊕ Int)), z = some (.inl ((k + 1 : Nat) : Int)) → (∃ s', z = some (Sum.inl s') ∧ (∃ n : Nat, s' = (n : Int) ∧ n ≤ l.length) ∧ l.length - s'.toNat < l.length - (k : Int).toNat) ∨ ∃ r, z = some (Sum.inr r) ∧ (match r with | .inl _ => True | .inr x => ∃ k : Nat, x = (k : Int) ∧ k < l.length ∧ (k : Int) ∉ m.Used) := fun z hz => .inl ⟨_, hz, ⟨k + 1, rfl, by omega⟩, by simp only [Int.toNat_natCast]; omega⟩
   have c1 : ((m.State.Units.getD u zTUnit).Side == (m.State.Units.getD tu zTUnit).Side) = ((m.State.Units.getD tu zTUnit).Side == (m.State.Units.getD u zTUnit).Side) := by rw [Bool.eq_iff_iff]; simp only [beq_iff_eq]; exact eq_comm
   have c2 : ((l.getD k zTReaction).Watch != top.At) = (top.At != (l.getD k zTReaction).Watch) := by rw [Bool.eq_iff_iff]; simp only [bne_iff_ne, ne_eq]; exact not_congr eq_comm
   rw [c1, c2]
   cases hus : m.Used.any fun v => v == (k : Int)
   case true => exact ⟨rfl, fin _ rfl⟩
   have hnu : (k : Int) ∉ m.Used := fun hx => by
    rw [List.any_eq_false] at hus
    exact hus _ hx (by simp)
   simp only [cond_false]
   by_cases hA : (m.State.Units.getD u zTUnit).At < 0
   ·simp only [decide_eq_true hA, cond_true]
    cases ((m.State.Units.getD tu zTUnit).Side == (m.State.Units.getD u zTUnit).Side) <;> cases (top.At != (l.getD k zTReaction).Watch) <;> exact ⟨rfl, fin _ rfl⟩
   ·obtain ⟨x1, x2, x3, x4⟩ := hexAt_eq hsd (i := (m.State.Units.getD u zTUnit).At) (by omega)
    obtain ⟨w1, w2, _, _⟩ := dist_eq (a := pHex b.Map (m.State.Units.getD u zTUnit).At) (b := pHex b.Map top.At) (by omega) (by omega)
    simp only [decide_eq_false hA, cond_false, x1, x2, y1, y2, w1, w2, Option.bind_some, hj, at_getD hjl]
    cases ((m.State.Units.getD tu zTUnit).Side == (m.State.Units.getD u zTUnit).Side) <;> cases (top.At != (l.getD k zTReaction).Watch) <;> simp only [cond_true, cond_false] <;> first
     | exact ⟨trivial, fin _ rfl⟩
     | (cases decide (pDist (pHex b.Map (m.State.Units.getD u zTUnit).At) (pHex b.Map top.At) ≤ (b.Rules.Kinds.getD j zTKind).View); exact ⟨trivial, fin _ rfl⟩; exact ⟨trivial, .inr ⟨_, rfl, k, rfl, hk1, hnu⟩⟩)
  ·have : k = l.length := by omega
   subst this
   simp only [nlt_self, cond_false]
   exact ⟨trivial, .inr ⟨_, rfl, trivial⟩⟩
theorem unitsAt_eq (s : TState) (a : Int) (h : s.Units.length ≤ SM) : X.i_unitsAt s a = some (idxs (fun k => (s.Units.getD k zTUnit).At == a) s.Units.length) := by
 have hm := mL
 have h' := h
 unfold SM at h'
 unfold X.i_unitsAt
 rw [run_idxs s.Units.length (fun k => (s.Units.getD k zTUnit).At == a) (fun k l => ((k : Int), l)) (fun l => l) (by rfl) ?_ ?_]
 ·intro j l hj hl
  have e : (l ++ ([(j : Int)] : List Int)).length ≤ LIM := by simp; have := limN (n := l.length) (by unfold SM; omega); omega
  simp only [lt_cast hj, cond_true, at_getD hj, Option.bind_some, W_up hj (show s.Units.length ≤ maxLen by omega), if_pos e]
  cases ((s.Units.getD j zTUnit).At == a) <;> rfl
 ·intro l; simp only [nlt_self, cond_false]
theorem most_eq (s : TState) (xs : List Int) (hx : xs.length ≤ SM) (hne : 0 < xs.length) (hm : ∀ x ∈ xs, ∃ k : Nat, x = (k : Int) ∧ k < s.Units.length) : ∃ k : Nat, (X.s_aMost s xs = some (k : Int) ∧ X.i_strongest s xs = some (k : Int)) ∧ k < s.Units.length := by
 have hL := mL
 unfold SM at hx
 have e : X.i_strongest s xs = X.s_aMost s xs := rfl
 rw [e]
 simp only [and_self]
 unfold X.s_aMost
 rw [show (0 : Int) = ((0 : Nat) : Int) from rfl, at_nat hne]
 simp only [Option.bind_some]
 refine run_ind (fun o => ∃ k : Nat, o = some (k : Int) ∧ k < s.Units.length) (fun (t : Int × Int) => ∃ k : Nat, t.2 = (k : Int) ∧ k ≤ xs.length ∧ t.1 ∈ xs) (fun t => xs.length - t.2.toNat) (fun r => ∃ k : Nat, r = (k : Int) ∧ k < s.Units.length) ⟨0, rfl, by omega, List.getElem_mem hne⟩ ?_ (fun r hr => by obtain ⟨k, rfl, hk⟩ := hr; exact ⟨k, rfl, hk⟩)
 rintro ⟨x, i⟩ ⟨k, hk, hkl, hmem⟩
 simp only at hk hmem
 subst hk
 obtain ⟨u, rfl, hu⟩ := hm x hmem
 by_cases h : k < xs.length
 ·left
  obtain ⟨v, hv, hvl⟩ := hm _ (List.getElem_mem h)
  simp only [lt_cast h, cond_true, at_nat h, Option.bind_some, hv, at_getD hvl, at_getD hu, W_up h (show xs.length ≤ maxLen by omega)]
  cases decide ((s.Units.getD v zTUnit).Steps > (s.Units.getD u zTUnit).Steps)
  ·exact ⟨_, rfl, ⟨k + 1, rfl, by omega, hmem⟩, by simp only [Int.toNat_natCast]; omega⟩
  ·exact ⟨_, rfl, ⟨k + 1, rfl, by omega, by rw [← hv]; exact List.getElem_mem h⟩, by simp only [Int.toNat_natCast]; omega⟩
 ·right
  have : k = xs.length := by omega
  subst this
  simp only [nlt_self, cond_false]
  exact ⟨_, rfl, u, rfl, hu⟩
theorem fire_eq {b : TBoard} (s : TState) (f : TFrame) (hU : s.Units.length ≤ 12) (hus : ∀ k, k < s.Units.length → pUnit b (s.Units.getD k zTUnit) = true) (hf : 0 ≤ f.Unit ∧ f.Unit < (s.Units.length : Int)) :
  ∃ v : Int, X.s_iTarget s f = some v ∧ X.i_fireTarget s f = some v ∧ (v = -1 ∨ ∃ k : Nat, v = (k : Int) ∧ k < s.Units.length) := by
 have hm := mL
 have hUs : s.Units.length ≤ SM := by unfold SM; omega
 obtain ⟨u, hu'⟩ := Int.eq_ofNat_of_zero_le hf.1
 have hul : u < s.Units.length := by omega
 have hside := (pUnit_iff (hus u hul)).1
 have ew : W (1 - (s.Units.getD u zTUnit).Side) = 1 - (s.Units.getD u zTUnit).Side := W_of (by omega)
 unfold X.s_iTarget X.i_fireTarget
 rw [hu', at_getD hul, unitsAt_eq s _ hUs]
 simp only [Option.bind_some, ew, sAt_eq s _ _ hUs]
 have hlen := idxs_len (fun k => (s.Units.getD k zTUnit).At == f.At) s.Units.length
 have hfl : (idxs (fun k => (s.Units.getD k zTUnit).At == f.At) s.Units.length).filter (fun x => !((s.Units.getD x.toNat zTUnit).Side == (s.Units.getD u zTUnit).Side)) = idxs (pHere s.Units f.At (1 - (s.Units.getD u zTUnit).Side)) s.Units.length := by
  rw [idxs_filter (fun k => (s.Units.getD k zTUnit).At == f.At) (fun k => !((s.Units.getD k zTUnit).Side == (s.Units.getD u zTUnit).Side))]
  apply idxs_congr
  intro k hk
  have hk2 := (pUnit_iff (hus k hk)).1
  unfold pHere
  congr 1
  rw [Bool.eq_iff_iff]
  simp only [Bool.not_eq_true', beq_eq_false_iff_ne, beq_iff_eq]
  omega
 rw [run_filter (idxs (fun k => (s.Units.getD k zTUnit).At == f.At) s.Units.length) (fun x => !((s.Units.getD x.toNat zTUnit).Side == (s.Units.getD u zTUnit).Side)) (fun k l => ((k : Int), l)) (fun l => l) (by rfl) ?_ ?_, hfl]
 ·by_cases h0 : (idxs (pHere s.Units f.At (1 - (s.Units.getD u zTUnit).Side)) s.Units.length).length = 0
  ·have e0 : (((idxs (pHere s.Units f.At (1 - (s.Units.getD u zTUnit).Side)) s.Units.length).length : Int) == 0) = true := by rw [h0]; rfl
   simp only [e0, cond_true]
   exact ⟨_, rfl, rfl, .inl rfl⟩
  ·have e0 : (((idxs (pHere s.Units f.At (1 - (s.Units.getD u zTUnit).Side)) s.Units.length).length : Int) == 0) = false := beq_eq_false_iff_ne.2 (by omega)
   have hl2 := idxs_len (pHere s.Units f.At (1 - (s.Units.getD u zTUnit).Side)) s.Units.length
   obtain ⟨k, ⟨h1, h2⟩, h3⟩ := most_eq s (idxs (pHere s.Units f.At (1 - (s.Units.getD u zTUnit).Side)) s.Units.length) (by unfold SM; omega) (by omega) (fun x hx => by
    obtain ⟨k, h1, _, h3⟩ := idxs_mem.1 hx
    exact ⟨k, h3, h1⟩)
   simp only [e0, cond_false, h1, h2, Option.bind_some]
   exact ⟨_, rfl, rfl, .inr ⟨k, rfl, h3⟩⟩
 ·intro j l hj hl
  obtain ⟨v, hv1, hv2, hv3⟩ := idxs_mem.1 (List.getElem_mem hj)
  have e : (l ++ ([(v : Int)] : List Int)).length ≤ LIM := by simp; have := limN (n := l.length) (by unfold SM; omega); omega
  simp only [lt_cast hj, cond_true, at_nat hj, Option.bind_some, hv3, at_getD hv1, hu', at_getD hul, W_up hj (show (idxs (fun k => (s.Units.getD k zTUnit).At == f.At) s.Units.length).length ≤ maxLen by omega), if_pos e, bne, Int.toNat_natCast]
  cases ((s.Units.getD v zTUnit).Side == (s.Units.getD u zTUnit).Side) <;> rfl
 ·intro l; simp only [nlt_self, cond_false]
def pLose (u : TUnit) : TUnit := if u.Steps ≤ 1 then ⟨u.Side, u.Kind, -1, 0⟩ else ⟨u.Side, u.Kind, u.At, u.Steps - 1⟩
theorem pLose_good {b : TBoard} {u : TUnit} (h : pUnit b u = true) : pUnit b (pLose u) = true := by
 have h1 := pUnit_iff h
 unfold pLose
 unfold pUnit at h ⊢
 simp only [Bool.and_eq_true, Bool.or_eq_true, pIn_iff, beq_iff_eq, decide_eq_true_eq] at h ⊢
 split
 ·exact ⟨by simp only; omega, by simp only; omega, by simp only; omega, .inl rfl⟩
 ·refine ⟨by simp only; omega, by simp only; omega, by simp only; omega, ?_⟩
  simp only
  rcases h.2.2.2 with h2 | h2
  ·exact .inl h2
  ·exact .inr ⟨by omega, h2.2⟩
theorem lose_eq {b : TBoard} (s : TState) {k : Nat} (hk : k < s.Units.length) (hu : pUnit b (s.Units.getD k zTUnit) = true) (hb : pBoard b = true) :
  X.s_sLose_Modd s (k : Int) 1 = some ⟨s.Turn, s.Weather, s.Units.set k (pLose (s.Units.getD k zTUnit))⟩ ∧ X.i_loseSteps_Modd s (k : Int) 1 = some ⟨s.Turn, s.Weather, s.Units.set k (pLose (s.Units.getD k zTUnit))⟩ := by
 have h1 := pUnit_iff hu
 obtain ⟨j, hj⟩ := Int.eq_ofNat_of_zero_le h1.2.1
 have h2 := kind_of hb (k := j) (by omega)
 rw [hj, Int.toNat_natCast] at h1
 unfold X.s_sLose_Modd X.i_loseSteps_Modd X.s_l1Most pLose
 have ew : W ((s.Units.getD k zTUnit).Steps - 1) = (s.Units.getD k zTUnit).Steps - 1 := W_of (by omega)
 simp only [Int.toNat_natCast, ew, if_pos (show 0 ≤ (k : Int) ∧ (k : Int) < (s.Units.length : Int) by omega), Option.bind_some, getD_set hk, List.set_set]
 generalize s.Units.getD k zTUnit = u at *
 by_cases h0 : u.Steps ≤ 1
 ·by_cases h3 : (0 : Int) > u.Steps - 1
  ·simp only [decide_eq_true h3, cond_true, if_pos h3, if_pos h0, Option.bind_some]
   first | rfl | exact ⟨rfl, rfl⟩ | trivial
  ·have h4 : u.Steps - 1 = 0 := by omega
   simp only [h4, if_pos h0]
   first | rfl | exact ⟨rfl, rfl⟩
 ·have h3 : ¬ (0 : Int) > u.Steps - 1 := by omega
  have h4 : (u.Steps - 1 == 0) = false := beq_eq_false_iff_ne.2 (by omega)
  simp only [decide_eq_false h3, cond_false, if_neg h3, if_neg h0, Option.bind_some, h4, and_self]
def meas (l : List TReaction) (m : TMachine) : Nat := 2 * (l.length - m.Used.length) + m.Stack.length
theorem step_eq {b : TBoard} (hb : pBoard b = true) {l : List TReaction} {m : TMachine} (h : MI b l m) (hne : 0 < m.Stack.length) :
  ∃ m', X.s_iStep_Mddc b l m = some m' ∧ X.x___impl_Machine__step_Mpdd m b l = some m' ∧ MI b l m' ∧ meas l m' < meas l m := by
 have hmx := mL
 have hU := h.un
 have hul := h.used
 have hll := h.ll
 have hln := h.ln
 have e1 : W ((m.Stack.length : Int) - 1) = ((m.Stack.length - 1 : Nat) : Int) := by rw [W_of (by omega)]; omega
 obtain ⟨v, n1, n2, n3⟩ := mnext_eq hb h hne
 have htop := getD_mem (z := zTFrame) (show m.Stack.length - 1 < m.Stack.length by omega)
 have hq := h.st _ htop
 have g1 : 0 ≤ ((m.Stack.length - 1 : Nat) : Int) ∧ ((m.Stack.length - 1 : Nat) : Int) < (m.Stack.length : Int) := by omega
 have g2 : 0 ≤ (0 : Int) ∧ (0 : Int) ≤ ((m.Stack.length - 1 : Nat) : Int) ∧ ((m.Stack.length - 1 : Nat) : Int) ≤ (m.Stack.length : Int) := by omega
 unfold X.s_iStep_Mddc X.x___impl_Machine__step_Mpdd X.x___impl_Machine__interrupt_Mpdd X.x___impl_Machine__finish_Mpd
 simp only [e1, n1, n2, Int.toNat_natCast, if_pos g1, if_pos g2, Option.bind_some]
 generalize m.Stack.getD (m.Stack.length - 1) zTFrame = top at hq
 obtain ⟨tu, htu⟩ := Int.eq_ofNat_of_zero_le hq.1.1
 have htul : tu < m.State.Units.length := by omega
 have g3 : 0 ≤ top.Unit ∧ top.Unit < (m.State.Units.length : Int) := hq.1
 have g4 : 0 ≤ (tu : Int) ∧ (tu : Int) < (m.State.Units.length : Int) := htu ▸ g3
 simp only [htu, Int.toNat_natCast, if_pos g4]
 have htk : ∀ f ∈ m.Stack.take (m.Stack.length - 1), f ∈ m.Stack := fun f hf => List.mem_of_mem_take hf
 have htl : (m.Stack.take (m.Stack.length - 1)).length = m.Stack.length - 1 := by simp
 rcases n3 with rfl | ⟨k, rfl, hk, hku⟩
 ·have z : decide ((-1 : Int) ≥ 0) = false := rfl
  have zl : ∀ x : Int, (m.Log ++ ([x] : List Int)).length ≤ LIM := fun x => by simp; unfold LIM; omega
  simp only [z, cond_false, if_pos (zl _)]
  cases decide ((m.State.Units.getD tu zTUnit).At < 0)
  ·simp only [cond_false]
   by_cases hby : top.By < 0
   ·simp only [decide_eq_true hby, cond_true, Option.bind_some]
    refine ⟨_, rfl, rfl, ⟨hU, h.us, h.rc, hll, fun f hf => h.st f (htk f hf), h.ud, by simp only [htl, List.length_append, List.length_singleton]; omega⟩, ?_⟩
    unfold meas; simp only [htl]; omega
   ·obtain ⟨j, hj⟩ := Int.eq_ofNat_of_zero_le (show 0 ≤ top.By by omega)
    have hjl : j < l.length := by omega
    have hbj : decide ((j : Int) < 0) = false := decide_eq_false (by omega)
    simp only [hj, hbj, cond_false, at_getD hjl, Option.bind_some]
    have hr := h.rc j hjl
    rcases hr.2.2 with hK | hK
    ·have k0 : ((l.getD j zTReaction).Kind == 0) = true := by rw [hK]; rfl
     have k1 : ((l.getD j zTReaction).Kind == 1) = false := by rw [hK]; rfl
     obtain ⟨w, f1, f2, f3⟩ := fire_eq (b := b) m.State top hU h.us hq.1
     simp only [k0, k1, cond_true, cond_false, f1, f2, Option.bind_some]
     rcases f3 with rfl | ⟨q, rfl, hql⟩
     ·simp only [z, cond_false, Option.bind_some]
      refine ⟨_, rfl, rfl, ⟨hU, h.us, h.rc, hll, fun f hf => h.st f (htk f hf), h.ud, by simp only [htl, List.length_append, List.length_singleton]; omega⟩, ?_⟩
      unfold meas; simp only [htl]; omega
     ·have zq : decide ((q : Int) ≥ 0) = true := decide_eq_true (by omega)
      obtain ⟨l1, l2⟩ := lose_eq m.State hql (h.us q hql) hb
      simp only [zq, cond_true, l1, l2, Option.bind_some, List.length_set, if_true]
      refine ⟨_, rfl, rfl, ⟨by simp only [List.length_set]; exact hU, fun x hx => ?_, by simp only [List.length_set]; exact h.rc, hll, by simp only [List.length_set]; exact fun f hf => h.st f (htk f hf), h.ud, by simp only [htl, List.length_append, List.length_singleton]; omega⟩, ?_⟩
      ·simp only [List.length_set] at hx
       simp only
       by_cases hxq : x = q
       ·subst hxq; rw [getD_set hx]; exact pLose_good (h.us x hx)
       ·have : (m.State.Units.set q (pLose (m.State.Units.getD q zTUnit))).getD x zTUnit = m.State.Units.getD x zTUnit := by simp only [List.getD]; rw [List.getElem?_set_ne (fun e => hxq e.symm)]
        rw [this]; exact h.us x hx
      ·unfold meas; simp only [htl]; omega
    ·have k0 : ((l.getD j zTReaction).Kind == 0) = false := by rw [hK]; rfl
     have k1 : ((l.getD j zTReaction).Kind == 1) = true := by rw [hK]; rfl
     simp only [k0, k1, cond_true, cond_false, htl]
     by_cases hn1 : m.Stack.length = 1
     ·have w1 : W (((m.Stack.length - 1 : Nat) : Int) - 1) = -1 := by rw [hn1]; rfl
      have w2 : decide ((m.Stack.length : Int) > 1) = false := decide_eq_false (by omega)
      have w3 : (if (0 : Int) > -1 then (0 : Int) else -1) = 0 := rfl
      simp only [w1, w2, w3, cond_false]
      have w4 : 0 ≤ (0 : Int) ∧ (0 : Int) ≤ 0 ∧ (0 : Int) ≤ ((m.Stack.length - 1 : Nat) : Int) := by omega
      simp only [if_pos w4, Option.bind_some]
      have w5 : (m.Stack.take (m.Stack.length - 1)).take (0 : Int).toNat = m.Stack.take (m.Stack.length - 1) := by rw [hn1]; simp
      rw [w5]
      refine ⟨_, rfl, rfl, ⟨hU, h.us, h.rc, hll, fun f hf => h.st f (htk f hf), h.ud, by simp only [htl, List.length_append, List.length_singleton]; omega⟩, ?_⟩
      unfold meas; simp only [htl]; omega
     ·have w1 : W (((m.Stack.length - 1 : Nat) : Int) - 1) = ((m.Stack.length - 2 : Nat) : Int) := by rw [W_of (by omega)]; omega
      have w1' : W ((m.Stack.length : Int) - 2) = ((m.Stack.length - 2 : Nat) : Int) := by rw [W_of (by omega)]; omega
      have w2 : decide ((m.Stack.length : Int) > 1) = true := decide_eq_true (by omega)
      have w3 : (if (0 : Int) > ((m.Stack.length - 2 : Nat) : Int) then (0 : Int) else ((m.Stack.length - 2 : Nat) : Int)) = ((m.Stack.length - 2 : Nat) : Int) := if_neg (by omega)
      have w4 : 0 ≤ (0 : Int) ∧ (0 : Int) ≤ ((m.Stack.length - 2 : Nat) : Int) ∧ ((m.Stack.length - 2 : Nat) : Int) ≤ ((m.Stack.length - 1 : Nat) : Int) := by omega
      simp only [w1, w1', w2, w3, cond_true, if_pos w4, Option.bind_some, Int.toNat_natCast]
      have htl2 : ((m.Stack.take (m.Stack.length - 1)).take (m.Stack.length - 2)).length = m.Stack.length - 2 := by simp; omega
      refine ⟨_, rfl, rfl, ⟨hU, h.us, h.rc, hll, fun f hf => h.st f (htk f (List.mem_of_mem_take hf)), h.ud, by simp only [htl2, List.length_append, List.length_singleton]; omega⟩, ?_⟩
      unfold meas; simp only [htl2]; omega
  ·simp only [cond_true, Option.bind_some]
   refine ⟨_, rfl, rfl, ⟨hU, h.us, h.rc, hll, fun f hf => h.st f (htk f hf), h.ud, by simp only [htl]; omega⟩, ?_⟩
   unfold meas; simp only [htl]; omega
 ·have z : decide ((k : Int) ≥ 0) = true := decide_eq_true (by omega)
  have zu : (m.Used ++ ([(k : Int)] : List Int)).length ≤ LIM := by simp; unfold LIM; omega
  have zs : ∀ x : TFrame, (m.Stack ++ ([x] : List TFrame)).length ≤ LIM := fun x => by simp; unfold LIM; omega
  simp only [z, cond_true, at_getD hk, Option.bind_some, if_pos zu, if_pos (zs _)]
  have hr := h.rc k hk
  have hun := pUnit_iff (h.us tu htul)
  have hnd : (m.Used ++ ([(k : Int)] : List Int)).Nodup := by
   rw [List.nodup_append]
   refine ⟨h.ud.1, by simp, fun x hx y hy => ?_⟩
   simp only [List.mem_singleton] at hy
   subst hy
   exact fun e => hku (e ▸ hx)
  have hur : ∀ x ∈ m.Used ++ ([(k : Int)] : List Int), 0 ≤ x ∧ x < (l.length : Int) := fun x hx => by
   rcases List.mem_append.1 hx with hx | hx
   ·exact h.ud.2 x hx
   ·simp only [List.mem_singleton] at hx; omega
  have hlen := nodup_len _ _ hnd hur
  simp only [List.length_append, List.length_singleton] at hlen
  have fin : ∀ a : Int, 0 ≤ a ∧ a < (b.Map.Terrain.length : Int) → MI b l (TMachine.mk (m.Stack ++ ([(TFrame.mk (l.getD k zTReaction).Unit a (k : Int))] : List TFrame)) (m.Used ++ ([(k : Int)] : List Int)) m.State m.Log) ∧ meas l (TMachine.mk (m.Stack ++ ([(TFrame.mk (l.getD k zTReaction).Unit a (k : Int))] : List TFrame)) (m.Used ++ ([(k : Int)] : List Int)) m.State m.Log) < meas l m := fun a ha => by
   refine ⟨⟨hU, h.us, h.rc, hll, fun f hf => ?_, ⟨hnd, hur⟩, by simp only [List.length_append, List.length_singleton]; omega⟩, ?_⟩
   ·rcases List.mem_append.1 hf with hf | hf
    ·exact h.st f hf
    ·simp only [List.mem_singleton] at hf
     subst hf
     exact ⟨hr.1, ha, by simp only; omega⟩
   ·unfold meas; simp only [List.length_append, List.length_singleton]; omega
  by_cases hA : (m.State.Units.getD tu zTUnit).At < 0
  ·simp only [decide_eq_true hA, cond_true, Option.bind_some]
   exact ⟨_, rfl, rfl, fin _ hq.2.1⟩
  ·simp only [decide_eq_false hA, cond_false, Option.bind_some]
   exact ⟨_, rfl, rfl, fin _ (by omega)⟩
def mOf (s : Int × Int × Int × (List TFrame) × (List Int) × (List TUnit) × (List Int)) : TMachine := TMachine.mk s.2.2.2.1 s.2.2.2.2.1 (TState.mk s.2.1 s.2.2.1 s.2.2.2.2.2.1) s.2.2.2.2.2.2
theorem run_eq {b : TBoard} (hb : pBoard b = true) {l : List TReaction} {m : TMachine} (h : MI b l m) (hc : X.i_cloneMachine m = some m) : ∃ r, X.s_iRun_Mddc b l m = some r ∧ X.i_runMachine b l m = some r ∧ MI b l r.1 := by
 have both := loop_both (b := (fun (x10 : (Int × Int × Int × (List TFrame) × (List Int) × (List TUnit) × (List Int))) => ((bif (decide ((x10.2.2.2.1.length : Int) > 0)) then ((X.x___impl_Machine__step_Mpdd (TMachine.mk x10.2.2.2.1 x10.2.2.2.2.1 (TState.mk x10.2.1 x10.2.2.1 x10.2.2.2.2.2.1) x10.2.2.2.2.2.2) b l).bind fun v12 => some (Sum.inl ((W (x10.1 + 1)), v12.State.Turn, v12.State.Weather, v12.Stack, v12.Used, v12.State.Units, v12.Log))) else some (Sum.inr (x10.1, x10.2.1, x10.2.2.1, x10.2.2.2.1, x10.2.2.2.2.1, x10.2.2.2.2.2.1, x10.2.2.2.2.2.2))) : Option ((Int × Int × Int × (List TFrame) × (List Int) × (List TUnit) × (List Int)) ⊕ (Int × Int × Int × (List TFrame) × (List Int) × (List TUnit) × (List Int))))))
  (b' := (fun (x10 : (Int × Int × Int × (List TFrame) × (List Int) × (List TUnit) × (List Int))) => ((bif (decide ((x10.2.2.2.1.length : Int) > 0)) then ((X.s_iStep_Mddc b l (TMachine.mk x10.2.2.2.1 x10.2.2.2.2.1 (TState.mk x10.2.1 x10.2.2.1 x10.2.2.2.2.2.1) x10.2.2.2.2.2.2)).bind fun v13 => some (Sum.inl ((W (x10.1 + 1)), v13.State.Turn, v13.State.Weather, v13.Stack, v13.Used, v13.State.Units, v13.Log))) else some (Sum.inr (x10.1, x10.2.1, x10.2.2.1, x10.2.2.2.1, x10.2.2.2.2.1, x10.2.2.2.2.2.1, x10.2.2.2.2.2.2))) : Option ((Int × Int × Int × (List TFrame) × (List Int) × (List TUnit) × (List Int)) ⊕ (Int × Int × Int × (List TFrame) × (List Int) × (List TUnit) × (List Int))))))
  (fun s => MI b l (mOf s)) (fun s => meas l (mOf s)) (fun r => MI b l (mOf r)) (s := (0, m.State.Turn, m.State.Weather, m.Stack, m.Used, m.State.Units, m.Log)) ?_ h
 ·obtain ⟨r, z1, z2, z3⟩ := both
  unfold X.s_iRun_Mddc X.i_runMachine
  rw [hc]
  simp only [Option.bind_some]
  rw [z1, z2]
  exact ⟨_, rfl, rfl, z3⟩
 ·intro s hI
  by_cases h0 : 0 < s.2.2.2.1.length
  ·have e : decide ((s.2.2.2.1.length : Int) > 0) = true := decide_eq_true (by omega)
   obtain ⟨m', s1, s2, s3, s4⟩ := step_eq hb hI h0
   unfold mOf at s1 s2
   simp only [e, cond_true, s1, s2, Option.bind_some]
   exact ⟨trivial, .inl ⟨_, rfl, s3, s4⟩⟩
  ·have e : decide ((s.2.2.2.1.length : Int) > 0) = false := decide_eq_false (by omega)
   simp only [e, cond_false]
   exact ⟨trivial, .inr ⟨_, rfl, hI⟩⟩
theorem clone_eq {b : TBoard} {l : List TReaction} {m : TMachine} (h : MI b l m) : X.i_cloneMachine m = some m := by
 have l1 := h.used
 have l2 := h.ll
 have l3 := h.ln
 have l4 := h.un
 have f1 : m.Stack.length ≤ LIM := by unfold LIM; omega
 have f2 : m.Used.length ≤ LIM := by unfold LIM; omega
 have f3 : m.State.Units.length ≤ LIM := by unfold LIM; omega
 have f4 : m.Log.length ≤ LIM := by unfold LIM; omega
 simp only [X.i_cloneMachine, X.i_cloneState, X.g_Clone_Frame, X.g_Clone_int, X.g_Clone_Unit, List.nil_append, if_pos f1, if_pos f2, if_pos f3, if_pos f4, Option.bind_some]
theorem core (a0 : TBoard) (a1 : List TReaction) (a2 : TMachine) (k0 : okTBoard a0) (k1 : okLTReaction a1) (k2 : okTMachine a2) (q0 : smTBoard a0) (q1 : smLTReaction a1) (q2 : smTMachine a2) : ∃ w, X.s_RunMachine a0 a1 a2 = some w ∧ X.i_RunMachine a0 a1 a2 = some w ∧ smTMachine w.1 := by
 have hm := mL
 have hN : smTMachine (TMachine.mk ([] : List TFrame) ([] : List Int) (TState.mk 0 0 ([] : List TUnit)) ([] : List Int)) := by
  refine ⟨⟨Nat.zero_le _, fun x hx => (by cases hx)⟩, ⟨Nat.zero_le _, fun x hx => (by cases hx)⟩, ⟨trivial, trivial, ⟨Nat.zero_le _, fun x hx => (by cases hx)⟩, trivial⟩, ⟨Nat.zero_le _, fun x hx => (by cases hx)⟩, trivial⟩
 unfold X.s_RunMachine X.i_RunMachine X.i_hasMachine
 rw [(board_eq a0 q0).2]
 simp only [Option.bind_some]
 cases hb : pBoard a0
 ·refine ⟨_, ?_, rfl, hN⟩
  unfold X.s_iMachine X.s_iGood
  rw [s_fits_eq q0 a2.State q2.2.2.1, hb]; rfl
 rw [(machine_eq hb q0 a1 q1 a2 q2).1, (machine_eq hb q0 a1 q1 a2 q2).2]
 simp only [Option.bind_some, cond_true]
 cases hmc : pMachine a0 a1 a2
 ·exact ⟨_, rfl, rfl, hN⟩
 have h := MI.of hmc
 have l1 := h.used
 have l2 := h.ll
 have l3 := h.ln
 have l4 := h.un
 have f1 : a2.Stack.length ≤ LIM := by unfold LIM; omega
 have f2 : a2.Used.length ≤ LIM := by unfold LIM; omega
 have f3 : a2.State.Units.length ≤ LIM := by unfold LIM; omega
 have f4 : a2.Log.length ≤ LIM := by unfold LIM; omega
 obtain ⟨r, s1, s2, s3⟩ := run_eq hb h (clone_eq h)
 simp only [Bool.not_true, cond_false, X.s_iOwn, X.s_l1Own, X.s_sOwn, List.nil_append, if_pos f1, if_pos f2, if_pos f3, if_pos f4, Option.bind_some, s1, s2]
 exact ⟨_, rfl, rfl, s3.sm⟩
theorem law (a0 : TBoard) (a1 : (List TReaction)) (a2 : TMachine) (k0 : okTBoard a0) (k1 : okLTReaction a1) (k2 : okTMachine a2) : X.l_FnExactRunMachine a0 a1 a2 = some true := by
 unfold X.l_FnExactRunMachine
 refine law_sz (l_szBoard_sz a0 k0 1048576 (by unfold SM; omega)) (by unfold SM; omega) fun r1 g1 q1 => ?_
 refine law_sz (l_szReactionS_sz a1 k1 r1 g1) g1 fun r2 g2 q2 => ?_
 refine law_sz (l_szMachine_sz a2 k2 r2 g2) g2 fun r3 g3 q3 => ?_
 obtain ⟨w, hs, hi, hw⟩ := core a0 a1 a2 k0 k1 k2 q1 q2 q3
 obtain ⟨mk1, ek1, bk1, ck1⟩ := mkBoard_L (x := a0) q1 1 (by omega) (by omega)
 obtain ⟨mk2, ek2, bk2, ck2⟩ := mkReactionS_L (x := a1) q2 mk1 (by omega) (by omega)
 obtain ⟨mk3, ek3, bk3, ck3⟩ := mkMachine_L (x := a2) q3 mk2 (by omega) (by omega)
 have zk : decide (mk3 < 0) = false := decide_eq_false (by omega)
 obtain ⟨r1m, y1m, em1, el1, eh1, bm1, cm1⟩ := mhMachine (hw) 1 (by omega) (by omega)
 have zm1 : decide (r1m < 0) = false := decide_eq_false (by omega)
 simp [l_toBoard_eq a0 q1, l_eqBoard_eq a0 q1, l_toReactionS_eq a1 q2, l_eqReactionS_eq a1 q2, l_toMachine_eq a2 q3, l_eqMachine_eq a2 q3, hs, hi, ek1, ek2, ek3, zk, em1, el1, eh1, zm1, l_eqMachine_eq (w.1) (hw)]
end Go.Proofs.YteenmeomlhkphaaGreatDoor.X0
