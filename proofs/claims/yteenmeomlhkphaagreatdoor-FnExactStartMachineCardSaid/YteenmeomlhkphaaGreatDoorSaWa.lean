/- What each Go function that FnExactStartMachine reaches computes, and that it returns so; no condition. -/
import Derived.Test.YteenmeomlhkphaaGreatDoorProg
import Derived.Test.YteenmeomlhkphaaGreatDoorAmCore3
set_option linter.unusedVariables false
set_option linter.unusedSimpArgs false
set_option maxRecDepth 100000
namespace Go.Proofs.YteenmeomlhkphaaGreatDoor.X0
open Go Go.RowKit Go.Proofs.YteenmeomlhkphaaGreatDoor.Ab Go.Proofs

def zI : Int := 0
def zB : Bool := false
def zS : List UInt8 := []
def eI (x : Int) : List AC := [.int .i64 x]
def eU (x : Int) : List AC := [.int .u8 x]
def eB (x : Bool) : List AC := [.bool x]
def eS (x : List UInt8) : List AC := [.str x]
def zLI : List Int := []
def eLI (xs : List Int) : List AC := [dat 1 eI zI xs]
theorem nLI : LeR [.nil] (eLI zLI) := And.intro (LeC.nil 1 _) trivial
structure TTerrain where
 Name : (List UInt8)
 Cost : (List Int)
 Shift : Int
 Height : Int
 Blocks : Bool
def zTTerrain : TTerrain := ⟨zS, zLI, zI, zI, zB⟩
def eTTerrain (x : TTerrain) : List AC := [.str x.Name, dat 1 eI zI x.Cost, .int .i64 x.Shift, .int .i64 x.Height, .bool x.Blocks]
def eTTerrainF (x : TTerrain) : List AC := [.str x.Name, .fr (dat 1 eI zI x.Cost), .int .i64 x.Shift, .int .i64 x.Height, .bool x.Blocks]
theorem nTTerrainF : LeR [.str [], .nil, .int .i64 0, .int .i64 0, .bool false] (eTTerrainF zTTerrain) := And.intro (LeC.refl _) (And.intro (LeC.nilfr 1 _) (And.intro (LeC.refl _) (And.intro (LeC.refl _) (And.intro (LeC.refl _) (trivial)))))
theorem nTTerrain : LeR [.str [], .nil, .int .i64 0, .int .i64 0, .bool false] (eTTerrain zTTerrain) := And.intro (LeC.refl _) (And.intro (LeC.nil 1 _) (And.intro (LeC.refl _) (And.intro (LeC.refl _) (And.intro (LeC.refl _) (trivial)))))
def zLTTerrain : List TTerrain := []
def eLTTerrain (xs : List TTerrain) : List AC := [dat 5 eTTerrain zTTerrain xs]
theorem nLTTerrain : LeR [.nil] (eLTTerrain zLTTerrain) := And.intro (LeC.nil 5 _) trivial
structure TKind where
 Name : (List UInt8)
 Strength : Int
 Moves : Int
 Steps : Int
 Zone : Bool
 View : Int
def zTKind : TKind := ⟨zS, zI, zI, zI, zB, zI⟩
def eTKind (x : TKind) : List AC := [.str x.Name, .int .i64 x.Strength, .int .i64 x.Moves, .int .i64 x.Steps, .bool x.Zone, .int .i64 x.View]
def zLTKind : List TKind := []
def eLTKind (xs : List TKind) : List AC := [dat 6 eTKind zTKind xs]
theorem nLTKind : LeR [.nil] (eLTKind zLTKind) := And.intro (LeC.nil 6 _) trivial
structure TRules where
 Terrains : (List TTerrain)
 Kinds : (List TKind)
 Stack : Int
 River : Int
 Road : Int
 Supply : Int
 Turns : Int
def zTRules : TRules := ⟨zLTTerrain, zLTKind, zI, zI, zI, zI, zI⟩
def eTRules (x : TRules) : List AC := [dat 5 eTTerrain zTTerrain x.Terrains, dat 6 eTKind zTKind x.Kinds, .int .i64 x.Stack, .int .i64 x.River, .int .i64 x.Road, .int .i64 x.Supply, .int .i64 x.Turns]
theorem nTRules : LeR [.nil, .nil, .int .i64 0, .int .i64 0, .int .i64 0, .int .i64 0, .int .i64 0] (eTRules zTRules) := And.intro (LeC.nil 5 _) (And.intro (LeC.nil 6 _) (And.intro (LeC.refl _) (And.intro (LeC.refl _) (And.intro (LeC.refl _) (And.intro (LeC.refl _) (And.intro (LeC.refl _) (trivial)))))))
structure TMap where
 Width : Int
 Height : Int
 Terrain : (List Int)
 Rivers : (List Int)
 Roads : (List Int)
def zTMap : TMap := ⟨zI, zI, zLI, zLI, zLI⟩
def eTMap (x : TMap) : List AC := [.int .i64 x.Width, .int .i64 x.Height, dat 1 eI zI x.Terrain, dat 1 eI zI x.Rivers, dat 1 eI zI x.Roads]
theorem nTMap : LeR [.int .i64 0, .int .i64 0, .nil, .nil, .nil] (eTMap zTMap) := And.intro (LeC.refl _) (And.intro (LeC.refl _) (And.intro (LeC.nil 1 _) (And.intro (LeC.nil 1 _) (And.intro (LeC.nil 1 _) (trivial)))))
structure TBoard where
 Rules : TRules
 Map : TMap
def zTBoard : TBoard := ⟨zTRules, zTMap⟩
def eTBoard (x : TBoard) : List AC := [dat 5 eTTerrain zTTerrain x.Rules.Terrains, dat 6 eTKind zTKind x.Rules.Kinds, .int .i64 x.Rules.Stack, .int .i64 x.Rules.River, .int .i64 x.Rules.Road, .int .i64 x.Rules.Supply, .int .i64 x.Rules.Turns, .int .i64 x.Map.Width, .int .i64 x.Map.Height, dat 1 eI zI x.Map.Terrain, dat 1 eI zI x.Map.Rivers, dat 1 eI zI x.Map.Roads]
theorem nTBoard : LeR [.nil, .nil, .int .i64 0, .int .i64 0, .int .i64 0, .int .i64 0, .int .i64 0, .int .i64 0, .int .i64 0, .nil, .nil, .nil] (eTBoard zTBoard) := And.intro (LeC.nil 5 _) (And.intro (LeC.nil 6 _) (And.intro (LeC.refl _) (And.intro (LeC.refl _) (And.intro (LeC.refl _) (And.intro (LeC.refl _) (And.intro (LeC.refl _) (And.intro (LeC.refl _) (And.intro (LeC.refl _) (And.intro (LeC.nil 1 _) (And.intro (LeC.nil 1 _) (And.intro (LeC.nil 1 _) (trivial))))))))))))
structure TUnit where
 Side : Int
 Kind : Int
 At : Int
 Steps : Int
def zTUnit : TUnit := ⟨zI, zI, zI, zI⟩
def eTUnit (x : TUnit) : List AC := [.int .i64 x.Side, .int .i64 x.Kind, .int .i64 x.At, .int .i64 x.Steps]
def zLTUnit : List TUnit := []
def eLTUnit (xs : List TUnit) : List AC := [dat 4 eTUnit zTUnit xs]
theorem nLTUnit : LeR [.nil] (eLTUnit zLTUnit) := And.intro (LeC.nil 4 _) trivial
structure TState where
 Turn : Int
 Weather : Int
 Units : (List TUnit)
def zTState : TState := ⟨zI, zI, zLTUnit⟩
def eTState (x : TState) : List AC := [.int .i64 x.Turn, .int .i64 x.Weather, dat 4 eTUnit zTUnit x.Units]
theorem nTState : LeR [.int .i64 0, .int .i64 0, .nil] (eTState zTState) := And.intro (LeC.refl _) (And.intro (LeC.refl _) (And.intro (LeC.nil 4 _) (trivial)))
structure TFrame where
 Unit : Int
 At : Int
 By : Int
def zTFrame : TFrame := ⟨zI, zI, zI⟩
def eTFrame (x : TFrame) : List AC := [.int .i64 x.Unit, .int .i64 x.At, .int .i64 x.By]
def zLTFrame : List TFrame := []
def eLTFrame (xs : List TFrame) : List AC := [dat 3 eTFrame zTFrame xs]
theorem nLTFrame : LeR [.nil] (eLTFrame zLTFrame) := And.intro (LeC.nil 3 _) trivial
structure TMachine where
 Stack : (List TFrame)
 Used : (List Int)
 State : TState
 Log : (List Int)
def zTMachine : TMachine := ⟨zLTFrame, zLI, zTState, zLI⟩
def eTMachine (x : TMachine) : List AC := [dat 3 eTFrame zTFrame x.Stack, dat 1 eI zI x.Used, .int .i64 x.State.Turn, .int .i64 x.State.Weather, dat 4 eTUnit zTUnit x.State.Units, dat 1 eI zI x.Log]
theorem nTMachine : LeR [.nil, .nil, .int .i64 0, .int .i64 0, .nil, .nil] (eTMachine zTMachine) := And.intro (LeC.nil 3 _) (And.intro (LeC.nil 1 _) (And.intro (LeC.refl _) (And.intro (LeC.refl _) (And.intro (LeC.nil 4 _) (And.intro (LeC.nil 1 _) (trivial))))))
structure THex where
 Q : Int
 R : Int
def zTHex : THex := ⟨zI, zI⟩
def eTHex (x : THex) : List AC := [.int .i64 x.Q, .int .i64 x.R]
structure A2_I where
 a0 : Int
 a1 : Int
def zA2_I : A2_I := ⟨zI, zI⟩
def eA2_I (x : A2_I) : List AC := [.int .i64 x.a0, .int .i64 x.a1]
theorem shI (x : Int) : Shps (eI x) := .cons (.int _ _) .nil
theorem shU (x : Int) : Shps (eU x) := .cons (.int _ _) .nil
theorem shB (x : Bool) : Shps (eB x) := .cons (.bool _) .nil
theorem shS (x : List UInt8) : Shps (eS x) := .cons (.str _) .nil
theorem shLI (x : List Int) : Shps (eLI x) := (.cons (.dat shI) .nil)
theorem shTTerrain (x : TTerrain) : Shps (eTTerrain x) := (.cons (.str _) (.cons (.dat shI) (.cons (.int _ _) (.cons (.int _ _) (.cons (.bool _) .nil)))))
theorem shLTTerrain (x : List TTerrain) : Shps (eLTTerrain x) := (.cons (.dat shTTerrain) .nil)
theorem shTKind (x : TKind) : Shps (eTKind x) := (.cons (.str _) (.cons (.int _ _) (.cons (.int _ _) (.cons (.int _ _) (.cons (.bool _) (.cons (.int _ _) .nil))))))
theorem shLTKind (x : List TKind) : Shps (eLTKind x) := (.cons (.dat shTKind) .nil)
theorem shTRules (x : TRules) : Shps (eTRules x) := (.cons (.dat shTTerrain) (.cons (.dat shTKind) (.cons (.int _ _) (.cons (.int _ _) (.cons (.int _ _) (.cons (.int _ _) (.cons (.int _ _) .nil)))))))
theorem shTMap (x : TMap) : Shps (eTMap x) := (.cons (.int _ _) (.cons (.int _ _) (.cons (.dat shI) (.cons (.dat shI) (.cons (.dat shI) .nil)))))
theorem shTBoard (x : TBoard) : Shps (eTBoard x) := (.cons (.dat shTTerrain) (.cons (.dat shTKind) (.cons (.int _ _) (.cons (.int _ _) (.cons (.int _ _) (.cons (.int _ _) (.cons (.int _ _) (.cons (.int _ _) (.cons (.int _ _) (.cons (.dat shI) (.cons (.dat shI) (.cons (.dat shI) .nil))))))))))))
theorem shTUnit (x : TUnit) : Shps (eTUnit x) := (.cons (.int _ _) (.cons (.int _ _) (.cons (.int _ _) (.cons (.int _ _) .nil))))
theorem shLTUnit (x : List TUnit) : Shps (eLTUnit x) := (.cons (.dat shTUnit) .nil)
theorem shTState (x : TState) : Shps (eTState x) := (.cons (.int _ _) (.cons (.int _ _) (.cons (.dat shTUnit) .nil)))
theorem shTFrame (x : TFrame) : Shps (eTFrame x) := (.cons (.int _ _) (.cons (.int _ _) (.cons (.int _ _) .nil)))
theorem shLTFrame (x : List TFrame) : Shps (eLTFrame x) := (.cons (.dat shTFrame) .nil)
theorem shTMachine (x : TMachine) : Shps (eTMachine x) := (.cons (.dat shTFrame) (.cons (.dat shI) (.cons (.int _ _) (.cons (.int _ _) (.cons (.dat shTUnit) (.cons (.dat shI) .nil))))))
theorem shTHex (x : THex) : Shps (eTHex x) := (.cons (.int _ _) (.cons (.int _ _) .nil))
theorem shA2_I (x : A2_I) : Shps (eA2_I x) := (.cons (.int _ _) (.cons (.int _ _) .nil))
def dirs : List THex := [⟨1, 0⟩, ⟨1, -1⟩, ⟨0, -1⟩, ⟨-1, 0⟩, ⟨-1, 1⟩, ⟨0, 1⟩]
def gl : Nat → Option (List AC) := fun g => match g with | 6 => some (dirs.flatMap eTHex) | _ => none
theorem dirs_at {i : Int} {v : THex} (h : at' zTHex dirs i = some v) : ((dirs.flatMap eTHex).drop (0 + i.toNat * 2)).take 2 = eTHex v := arr_at (fun _ => rfl) h
theorem glL : gl LAW = none := rfl
theorem glTs : ∀ g cs, gl g = some cs → glT gl g = some cs := glT_sub glL
theorem glTn : glT gl LAW ≠ none := by simp [glT]
theorem glTp : ∀ g cs, glT gl g = some cs → Shps cs := glT_shp fun g cs h => by
 unfold gl at h
 split at h
 ·cases h; intro c hc; obtain ⟨x, _, hx⟩ := List.mem_flatMap.1 hc; exact shTHex x c hx
 ·cases h
def l_szIntS_ir : S :=
 (sq [o 4 (.mv (iv 0))]
 (sq [om 5 1, om 6 0, o 7 (.len (.t 6)), o 8 (.bin .sub (.t 5) (.t 7)), om 1 8]
 (.seq (sq [om 9 1, o 10 (.bin .lss (.t 9) (iv 0))]
 (.ite (.t 10) (sq [o 4 (.mv (.v (.int .i64 (-1))))]
  .ret)
 .skip))
 (sq [om 11 1, om 4 11]
 .ret))))
noncomputable def X.l_szIntS (p0 : (List Int)) (p1 : Int) : Option Int :=
 (bif (decide ((W (p1 - (p0.length : Int))) < 0)) then some (-1) else some (W (p1 - (p0.length : Int))))
theorem l_szIntS_ok (p0 : (List Int)) (p1 : Int) (r : Int) (H : X.l_szIntS p0 p1 = some r) : FnOk Tryz.prog gl 96 [.c (dat 1 eI zI p0), cI p1] (cI r) := by
 unfold X.l_szIntS at H
 refine fi Tryz.f96 l_szIntS_ir [(4, cI r)] [] glL Tryz.func96 ?_
 refine so [] [] [(0, dc 1 eI zI p0), (1, cI p1)] [] id ?_
 refine so [] [] [(1, cI (W (p1 - (p0.length : Int))))] [] (fun t => lI p0 (t)) ?_
 refine seq_in ?_
 refine so [] [] [(1, cI (W (p1 - (p0.length : Int)))), (10, cB (decide ((W (p1 - (p0.length : Int))) < 0)))] [] id ?_
 rcases ofCond H with ⟨c1, H⟩ | ⟨c1, H⟩
 ·refine it c1 ?_
  refine so [] [] [(4, cI (-1))] [] id ?_
  refine ends_ret ?_
  cases H
  exact And.intro (.inl rfl) rfl
 ·refine jf c1 ?_
  refine sk ?_
  refine so [] [] [(4, cI (W (p1 - (p0.length : Int))))] [] id ?_
  refine ends_ret ?_
  cases H
  exact And.intro (.inl rfl) rfl
def l_szTerrain_ir : S :=
 (sq [o 2 (.box 5 (.t 0)), o 4 (.mv (iv 0))]
 (sq [om 5 1, o 6 (.fad 0 (.t 2)), o 7 (.load 1 false (.t 6)), o 8 (.lens (.t 7)), o 9 (.bin .sub (.t 5) (.t 8)), om 1 9]
 (.seq (sq [om 10 1, o 11 (.bin .lss (.t 10) (iv 0))]
 (.ite (.t 11) (sq [o 4 (.mv (.v (.int .i64 (-1))))]
  .ret)
 .skip))
 (sq [o 12 (.fad 1 (.t 2)), o 13 (.load 1 false (.t 12)), om 14 1, o 15 (.call 96 [.t 13, .t 14]), om 1 15]
 (.seq (sq [om 16 1, o 17 (.bin .lss (.t 16) (iv 0))]
 (.ite (.t 17) (sq [o 4 (.mv (.v (.int .i64 (-1))))]
  .ret)
 .skip))
 (sq [om 18 1, om 4 18]
 .ret))))))
noncomputable def X.l_szTerrain (p0 : TTerrain) (p1 : Int) : Option Int :=
 (bif (decide ((W (p1 - (p0.Name.length : Int))) < 0)) then some (-1) else ((X.l_szIntS p0.Cost (W (p1 - (p0.Name.length : Int)))).bind fun v3 => (bif (decide (v3 < 0)) then some (-1) else some v3)))
theorem l_szTerrain_ok (p0 : TTerrain) (p1 : Int) (r : Int) (H : X.l_szTerrain p0 p1 = some r) : FnOk Tryz.prog gl 193 [.agg (eTTerrain p0), cI p1] (cI r) := by
 unfold X.l_szTerrain at H
 refine fi Tryz.f193 l_szTerrain_ir [(4, cI r)] [] glL Tryz.func193 ?_
 refine so [] [] [(1, cI p1), (2, pk 2)] [(2, va (eTTerrain p0))] id ?_
 refine so [] [] [(1, cI (W (p1 - (p0.Name.length : Int)))), (2, pk 2)] [(2, va (eTTerrain p0))] id ?_
 refine seq_in ?_
 refine so [] [] [(1, cI (W (p1 - (p0.Name.length : Int)))), (2, pk 2), (11, cB (decide ((W (p1 - (p0.Name.length : Int))) < 0)))] [(2, va (eTTerrain p0))] id ?_
 rcases ofCond H with ⟨c2, H⟩ | ⟨c2, H⟩
 ·refine it c2 ?_
  refine so [] [] [(4, cI (-1))] [] id ?_
  refine ends_ret ?_
  cases H
  exact And.intro (.inl rfl) rfl
 ·refine jf c2 ?_
  refine sk ?_
  obtain ⟨v3, h4, H⟩ := ofBind H
  refine so [.res (cI v3)] [] [(1, cI v3)] [] (aI (l_szIntS_ok p0.Cost (W (p1 - (p0.Name.length : Int))) v3 h4)) ?_
  refine seq_in ?_
  refine so [] [] [(1, cI v3), (17, cB (decide (v3 < 0)))] [] id ?_
  rcases ofCond H with ⟨c5, H⟩ | ⟨c5, H⟩
  ·refine it c5 ?_
   refine so [] [] [(4, cI (-1))] [] id ?_
   refine ends_ret ?_
   cases H
   exact And.intro (.inl rfl) rfl
  ·refine jf c5 ?_
   refine sk ?_
   refine so [] [] [(4, cI v3)] [] id ?_
   refine ends_ret ?_
   cases H
   exact And.intro (.inl rfl) rfl
def l_szTerrainS_ir : S :=
 (sq [o 4 (.mv (iv 0))]
 (sq [om 6 1, om 7 0, o 8 (.len (.t 7)), o 9 (.bin .sub (.t 6) (.t 8)), om 1 9]
 (.seq (sq [om 10 1, o 11 (.bin .lss (.t 10) (iv 0))]
 (.ite (.t 11) (sq [o 4 (.mv (.v (.int .i64 (-1))))]
  .ret)
 .skip))
 (.seq (sq [o 5 (.mv (iv 0))]
 (.blk 0 (.loop (.seq (sq [om 12 5, om 13 0, o 14 (.len (.t 13)), o 15 (.bin .lss (.t 12) (.t 14))]
   (.ite (.t 15) .skip
   (.exit 0)))
   (.seq (.blk 1 (sq [om 18 0, om 19 5, o 20 (.iad 5 (.t 18) (.t 19)), o 21 (.load 5 true (.t 20)), om 22 1, o 23 (.call 193 [.t 21, .t 22]), om 1 23]
    (sq [om 24 1, o 25 (.bin .lss (.t 24) (iv 0))]
    (.ite (.t 25) (sq [o 4 (.mv (.v (.int .i64 (-1))))]
     .ret)
    .skip))))
   (.ops [om 16 5, o 17 (.bin .add (.t 16) (iv 1)), om 5 17]))))))
 (sq [om 26 1, om 4 26]
 .ret)))))
noncomputable def X.l_szTerrainS (p0 : (List TTerrain)) (p1 : Int) : Option Int :=
 (bif (decide ((W (p1 - (p0.length : Int))) < 0)) then some (-1) else ((loop (fun (x18 : (Int × Int)) => ((bif (decide (x18.2 < (p0.length : Int))) then ((at' zTTerrain p0 x18.2).bind fun v21 => ((X.l_szTerrain v21 x18.1).bind fun v23 => (bif (decide (v23 < 0)) then some (Sum.inr (Sum.inr (-1))) else some (Sum.inl (v23, (W (x18.2 + 1))))))) else some (Sum.inr (Sum.inl x18.1))) : Option ((Int × Int) ⊕ (Int ⊕ Int)))) ((W (p1 - (p0.length : Int))), 0)).bind fun y26 => (Sum.elim (fun (y28 : Int) => some y28) (fun (y29 : Int) => some y29) y26)))
theorem l_szTerrainS_ok (p0 : (List TTerrain)) (p1 : Int) (r : Int) (H : X.l_szTerrainS p0 p1 = some r) : FnOk Tryz.prog gl 120 [.c (dat 5 eTTerrain zTTerrain p0), cI p1] (cI r) := by
 unfold X.l_szTerrainS at H
 refine fi Tryz.f120 l_szTerrainS_ir [(4, cI r)] [] glL Tryz.func120 ?_
 refine so [] [] [(0, dc 5 eTTerrain zTTerrain p0), (1, cI p1)] [] id ?_
 refine so [] [] [(0, dc 5 eTTerrain zTTerrain p0), (1, cI (W (p1 - (p0.length : Int))))] [] (fun t => lI p0 (t)) ?_
 refine seq_in ?_
 refine so [] [] [(0, dc 5 eTTerrain zTTerrain p0), (1, cI (W (p1 - (p0.length : Int)))), (11, cB (decide ((W (p1 - (p0.length : Int))) < 0)))] [] id ?_
 rcases ofCond H with ⟨c2, H⟩ | ⟨c2, H⟩
 ·refine it c2 ?_
  refine so [] [] [(4, cI (-1))] [] id ?_
  refine ends_ret ?_
  cases H
  exact And.intro (.inl rfl) rfl
 ·refine jf c2 ?_
  refine sk ?_
  refine seq_in ?_
  refine so [] [] [(0, dc 5 eTTerrain zTTerrain p0), (1, cI (W (p1 - (p0.length : Int)))), (5, cI 0)] [] id ?_
  refine ends_blk ?_
  obtain ⟨y26, h27, H⟩ := ofBind H
  refine loop_in (fun (x : (Int × Int)) => lit [(0, dc 5 eTTerrain zTTerrain p0), (1, cI x.1), (5, cI x.2)] []) (orJ (fun (z : Int) => At (.exit 0) (lit [(1, cI z)] [])) (fun (z : Int) => At .ret (lit [(4, cI z)] []))) h27 ?_ ?_
  ·clear H h27
   intro x18 y0 H
   refine seq_in ?_
   refine so [] [] [(0, dc 5 eTTerrain zTTerrain p0), (1, cI x18.1), (5, cI x18.2), (15, cB (decide (x18.2 < (p0.length : Int))))] [] (fun t => lI p0 (t)) ?_
   rcases ofCond H with ⟨c20, H⟩ | ⟨c20, H⟩
   ·refine it c20 ?_
    refine sk ?_
    refine seq_in ?_
    refine ends_blk ?_
    obtain ⟨v21, h22, H⟩ := ofBind H
    obtain ⟨v23, h24, H⟩ := ofBind H
    refine so [.cs (eTTerrain v21), .res (cI v23)] [] [(0, dc 5 eTTerrain zTTerrain p0), (1, cI v23), (5, cI x18.2)] [] (fun t => (a2 eTTerrain h22 (aI (l_szTerrain_ok v21 x18.1 v23 h24) (t)))) ?_
    refine so [] [] [(0, dc 5 eTTerrain zTTerrain p0), (1, cI v23), (5, cI x18.2), (25, cB (decide (v23 < 0)))] [] id ?_
    rcases ofCond H with ⟨c25, H⟩ | ⟨c25, H⟩
    ·refine it c25 ?_
     refine so [] [] [(4, cI (-1))] [] id ?_
     refine ends_ret ?_
     cases H
     exact And.intro (by simp) (And.intro rfl rfl)
    ·refine jf c25 ?_
     refine sk ?_
     refine oo [] [] [(0, dc 5 eTTerrain zTTerrain p0), (1, cI v23), (5, cI (W (x18.2 + 1)))] [] id ?_
     cases H
     exact And.intro rfl rfl
   ·refine jf c20 ?_
    refine tl [] [(1, cI x18.1)] [] id ?_
    refine ends_exit ?_
    cases H
    exact And.intro (by simp) (And.intro rfl rfl)
  ·clear h27
   cases y26 with
   | inl y28 =>
    replace H := ofInl H
    intro e s q
    obtain ⟨rfl, rfl⟩ := q
    change EndsI _ _ _ _ _ _
    refine so [] [] [(4, cI y28)] [] id ?_
    refine ends_ret ?_
    cases H
    exact And.intro (.inl rfl) rfl
   | inr y29 =>
    replace H := ofInr H
    intro e s q
    obtain ⟨rfl, rfl⟩ := q
    cases H
    exact And.intro (.inl rfl) rfl
def l_szKind_ir : S :=
 (sq [o 2 (.box 6 (.t 0)), o 4 (.mv (iv 0))]
 (sq [om 5 1, o 6 (.fad 0 (.t 2)), o 7 (.load 1 false (.t 6)), o 8 (.lens (.t 7)), o 9 (.bin .sub (.t 5) (.t 8)), om 1 9]
 (.seq (sq [om 10 1, o 11 (.bin .lss (.t 10) (iv 0))]
 (.ite (.t 11) (sq [o 4 (.mv (.v (.int .i64 (-1))))]
  .ret)
 .skip))
 (sq [om 12 1, om 4 12]
 .ret))))
noncomputable def X.l_szKind (p0 : TKind) (p1 : Int) : Option Int :=
 (bif (decide ((W (p1 - (p0.Name.length : Int))) < 0)) then some (-1) else some (W (p1 - (p0.Name.length : Int))))
theorem l_szKind_ok (p0 : TKind) (p1 : Int) (r : Int) (H : X.l_szKind p0 p1 = some r) : FnOk Tryz.prog gl 194 [.agg (eTKind p0), cI p1] (cI r) := by
 unfold X.l_szKind at H
 refine fi Tryz.f194 l_szKind_ir [(4, cI r)] [] glL Tryz.func194 ?_
 refine so [] [] [(1, cI p1), (2, pk 2)] [(2, va (eTKind p0))] id ?_
 refine so [] [] [(1, cI (W (p1 - (p0.Name.length : Int))))] [] id ?_
 refine seq_in ?_
 refine so [] [] [(1, cI (W (p1 - (p0.Name.length : Int)))), (11, cB (decide ((W (p1 - (p0.Name.length : Int))) < 0)))] [] id ?_
 rcases ofCond H with ⟨c1, H⟩ | ⟨c1, H⟩
 ·refine it c1 ?_
  refine so [] [] [(4, cI (-1))] [] id ?_
  refine ends_ret ?_
  cases H
  exact And.intro (.inl rfl) rfl
 ·refine jf c1 ?_
  refine sk ?_
  refine so [] [] [(4, cI (W (p1 - (p0.Name.length : Int))))] [] id ?_
  refine ends_ret ?_
  cases H
  exact And.intro (.inl rfl) rfl
def l_szKindS_ir : S :=
 (sq [o 4 (.mv (iv 0))]
 (sq [om 6 1, om 7 0, o 8 (.len (.t 7)), o 9 (.bin .sub (.t 6) (.t 8)), om 1 9]
 (.seq (sq [om 10 1, o 11 (.bin .lss (.t 10) (iv 0))]
 (.ite (.t 11) (sq [o 4 (.mv (.v (.int .i64 (-1))))]
  .ret)
 .skip))
 (.seq (sq [o 5 (.mv (iv 0))]
 (.blk 0 (.loop (.seq (sq [om 12 5, om 13 0, o 14 (.len (.t 13)), o 15 (.bin .lss (.t 12) (.t 14))]
   (.ite (.t 15) .skip
   (.exit 0)))
   (.seq (.blk 1 (sq [om 18 0, om 19 5, o 20 (.iad 6 (.t 18) (.t 19)), o 21 (.load 6 true (.t 20)), om 22 1, o 23 (.call 194 [.t 21, .t 22]), om 1 23]
    (sq [om 24 1, o 25 (.bin .lss (.t 24) (iv 0))]
    (.ite (.t 25) (sq [o 4 (.mv (.v (.int .i64 (-1))))]
     .ret)
    .skip))))
   (.ops [om 16 5, o 17 (.bin .add (.t 16) (iv 1)), om 5 17]))))))
 (sq [om 26 1, om 4 26]
 .ret)))))
noncomputable def X.l_szKindS (p0 : (List TKind)) (p1 : Int) : Option Int :=
 (bif (decide ((W (p1 - (p0.length : Int))) < 0)) then some (-1) else ((loop (fun (x18 : (Int × Int)) => ((bif (decide (x18.2 < (p0.length : Int))) then ((at' zTKind p0 x18.2).bind fun v21 => ((X.l_szKind v21 x18.1).bind fun v23 => (bif (decide (v23 < 0)) then some (Sum.inr (Sum.inr (-1))) else some (Sum.inl (v23, (W (x18.2 + 1))))))) else some (Sum.inr (Sum.inl x18.1))) : Option ((Int × Int) ⊕ (Int ⊕ Int)))) ((W (p1 - (p0.length : Int))), 0)).bind fun y26 => (Sum.elim (fun (y28 : Int) => some y28) (fun (y29 : Int) => some y29) y26)))
theorem l_szKindS_ok (p0 : (List TKind)) (p1 : Int) (r : Int) (H : X.l_szKindS p0 p1 = some r) : FnOk Tryz.prog gl 121 [.c (dat 6 eTKind zTKind p0), cI p1] (cI r) := by
 unfold X.l_szKindS at H
 refine fi Tryz.f121 l_szKindS_ir [(4, cI r)] [] glL Tryz.func121 ?_
 refine so [] [] [(0, dc 6 eTKind zTKind p0), (1, cI p1)] [] id ?_
 refine so [] [] [(0, dc 6 eTKind zTKind p0), (1, cI (W (p1 - (p0.length : Int))))] [] (fun t => lI p0 (t)) ?_
 refine seq_in ?_
 refine so [] [] [(0, dc 6 eTKind zTKind p0), (1, cI (W (p1 - (p0.length : Int)))), (11, cB (decide ((W (p1 - (p0.length : Int))) < 0)))] [] id ?_
 rcases ofCond H with ⟨c2, H⟩ | ⟨c2, H⟩
 ·refine it c2 ?_
  refine so [] [] [(4, cI (-1))] [] id ?_
  refine ends_ret ?_
  cases H
  exact And.intro (.inl rfl) rfl
 ·refine jf c2 ?_
  refine sk ?_
  refine seq_in ?_
  refine so [] [] [(0, dc 6 eTKind zTKind p0), (1, cI (W (p1 - (p0.length : Int)))), (5, cI 0)] [] id ?_
  refine ends_blk ?_
  obtain ⟨y26, h27, H⟩ := ofBind H
  refine loop_in (fun (x : (Int × Int)) => lit [(0, dc 6 eTKind zTKind p0), (1, cI x.1), (5, cI x.2)] []) (orJ (fun (z : Int) => At (.exit 0) (lit [(1, cI z)] [])) (fun (z : Int) => At .ret (lit [(4, cI z)] []))) h27 ?_ ?_
  ·clear H h27
   intro x18 y0 H
   refine seq_in ?_
   refine so [] [] [(0, dc 6 eTKind zTKind p0), (1, cI x18.1), (5, cI x18.2), (15, cB (decide (x18.2 < (p0.length : Int))))] [] (fun t => lI p0 (t)) ?_
   rcases ofCond H with ⟨c20, H⟩ | ⟨c20, H⟩
   ·refine it c20 ?_
    refine sk ?_
    refine seq_in ?_
    refine ends_blk ?_
    obtain ⟨v21, h22, H⟩ := ofBind H
    obtain ⟨v23, h24, H⟩ := ofBind H
    refine so [.cs (eTKind v21), .res (cI v23)] [] [(0, dc 6 eTKind zTKind p0), (1, cI v23), (5, cI x18.2)] [] (fun t => (a2 eTKind h22 (aI (l_szKind_ok v21 x18.1 v23 h24) (t)))) ?_
    refine so [] [] [(0, dc 6 eTKind zTKind p0), (1, cI v23), (5, cI x18.2), (25, cB (decide (v23 < 0)))] [] id ?_
    rcases ofCond H with ⟨c25, H⟩ | ⟨c25, H⟩
    ·refine it c25 ?_
     refine so [] [] [(4, cI (-1))] [] id ?_
     refine ends_ret ?_
     cases H
     exact And.intro (by simp) (And.intro rfl rfl)
    ·refine jf c25 ?_
     refine sk ?_
     refine oo [] [] [(0, dc 6 eTKind zTKind p0), (1, cI v23), (5, cI (W (x18.2 + 1)))] [] id ?_
     cases H
     exact And.intro rfl rfl
   ·refine jf c20 ?_
    refine tl [] [(1, cI x18.1)] [] id ?_
    refine ends_exit ?_
    cases H
    exact And.intro (by simp) (And.intro rfl rfl)
  ·clear h27
   cases y26 with
   | inl y28 =>
    replace H := ofInl H
    intro e s q
    obtain ⟨rfl, rfl⟩ := q
    change EndsI _ _ _ _ _ _
    refine so [] [] [(4, cI y28)] [] id ?_
    refine ends_ret ?_
    cases H
    exact And.intro (.inl rfl) rfl
   | inr y29 =>
    replace H := ofInr H
    intro e s q
    obtain ⟨rfl, rfl⟩ := q
    cases H
    exact And.intro (.inl rfl) rfl
def l_szRules_ir : S :=
 (sq [o 2 (.box 7 (.t 0)), o 4 (.mv (iv 0))]
 (sq [o 5 (.fad 0 (.t 2)), o 6 (.load 1 false (.t 5)), om 7 1, o 8 (.call 120 [.t 6, .t 7]), om 1 8]
 (.seq (sq [om 9 1, o 10 (.bin .lss (.t 9) (iv 0))]
 (.ite (.t 10) (sq [o 4 (.mv (.v (.int .i64 (-1))))]
  .ret)
 .skip))
 (sq [o 11 (.fad 1 (.t 2)), o 12 (.load 1 false (.t 11)), om 13 1, o 14 (.call 121 [.t 12, .t 13]), om 1 14]
 (.seq (sq [om 15 1, o 16 (.bin .lss (.t 15) (iv 0))]
 (.ite (.t 16) (sq [o 4 (.mv (.v (.int .i64 (-1))))]
  .ret)
 .skip))
 (sq [om 17 1, om 4 17]
 .ret))))))
noncomputable def X.l_szRules (p0 : TRules) (p1 : Int) : Option Int :=
 ((X.l_szTerrainS p0.Terrains p1).bind fun v1 => (bif (decide (v1 < 0)) then some (-1) else ((X.l_szKindS p0.Kinds v1).bind fun v5 => (bif (decide (v5 < 0)) then some (-1) else some v5))))
theorem l_szRules_ok (p0 : TRules) (p1 : Int) (r : Int) (H : X.l_szRules p0 p1 = some r) : FnOk Tryz.prog gl 53 [.agg (eTRules p0), cI p1] (cI r) := by
 unfold X.l_szRules at H
 refine fi Tryz.f53 l_szRules_ir [(4, cI r)] [] glL Tryz.func53 ?_
 refine so [] [] [(1, cI p1), (2, pk 2)] [(2, va (eTRules p0))] id ?_
 obtain ⟨v1, h2, H⟩ := ofBind H
 refine so [.res (cI v1)] [] [(1, cI v1), (2, pk 2)] [(2, va (eTRules p0))] (aI (l_szTerrainS_ok p0.Terrains p1 v1 h2)) ?_
 refine seq_in ?_
 refine so [] [] [(1, cI v1), (2, pk 2), (10, cB (decide (v1 < 0)))] [(2, va (eTRules p0))] id ?_
 rcases ofCond H with ⟨c4, H⟩ | ⟨c4, H⟩
 ·refine it c4 ?_
  refine so [] [] [(4, cI (-1))] [] id ?_
  refine ends_ret ?_
  cases H
  exact And.intro (.inl rfl) rfl
 ·refine jf c4 ?_
  refine sk ?_
  obtain ⟨v5, h6, H⟩ := ofBind H
  refine so [.res (cI v5)] [] [(1, cI v5)] [] (aI (l_szKindS_ok p0.Kinds v1 v5 h6)) ?_
  refine seq_in ?_
  refine so [] [] [(1, cI v5), (16, cB (decide (v5 < 0)))] [] id ?_
  rcases ofCond H with ⟨c7, H⟩ | ⟨c7, H⟩
  ·refine it c7 ?_
   refine so [] [] [(4, cI (-1))] [] id ?_
   refine ends_ret ?_
   cases H
   exact And.intro (.inl rfl) rfl
  ·refine jf c7 ?_
   refine sk ?_
   refine so [] [] [(4, cI v5)] [] id ?_
   refine ends_ret ?_
   cases H
   exact And.intro (.inl rfl) rfl
def l_szMap_ir : S :=
 (sq [o 2 (.box 5 (.t 0)), o 4 (.mv (iv 0))]
 (sq [o 5 (.fad 2 (.t 2)), o 6 (.load 1 false (.t 5)), om 7 1, o 8 (.call 96 [.t 6, .t 7]), om 1 8]
 (.seq (sq [om 9 1, o 10 (.bin .lss (.t 9) (iv 0))]
 (.ite (.t 10) (sq [o 4 (.mv (.v (.int .i64 (-1))))]
  .ret)
 .skip))
 (sq [o 11 (.fad 3 (.t 2)), o 12 (.load 1 false (.t 11)), om 13 1, o 14 (.call 96 [.t 12, .t 13]), om 1 14]
 (.seq (sq [om 15 1, o 16 (.bin .lss (.t 15) (iv 0))]
 (.ite (.t 16) (sq [o 4 (.mv (.v (.int .i64 (-1))))]
  .ret)
 .skip))
 (sq [o 17 (.fad 4 (.t 2)), o 18 (.load 1 false (.t 17)), om 19 1, o 20 (.call 96 [.t 18, .t 19]), om 1 20]
 (.seq (sq [om 21 1, o 22 (.bin .lss (.t 21) (iv 0))]
 (.ite (.t 22) (sq [o 4 (.mv (.v (.int .i64 (-1))))]
  .ret)
 .skip))
 (sq [om 23 1, om 4 23]
 .ret))))))))
noncomputable def X.l_szMap (p0 : TMap) (p1 : Int) : Option Int :=
 ((X.l_szIntS p0.Terrain p1).bind fun v1 => (bif (decide (v1 < 0)) then some (-1) else ((X.l_szIntS p0.Rivers v1).bind fun v5 => (bif (decide (v5 < 0)) then some (-1) else ((X.l_szIntS p0.Roads v5).bind fun v9 => (bif (decide (v9 < 0)) then some (-1) else some v9))))))
theorem l_szMap_ok (p0 : TMap) (p1 : Int) (r : Int) (H : X.l_szMap p0 p1 = some r) : FnOk Tryz.prog gl 54 [.agg (eTMap p0), cI p1] (cI r) := by
 unfold X.l_szMap at H
 refine fi Tryz.f54 l_szMap_ir [(4, cI r)] [] glL Tryz.func54 ?_
 refine so [] [] [(1, cI p1), (2, pk 2)] [(2, va (eTMap p0))] id ?_
 obtain ⟨v1, h2, H⟩ := ofBind H
 refine so [.res (cI v1)] [] [(1, cI v1), (2, pk 2)] [(2, va (eTMap p0))] (aI (l_szIntS_ok p0.Terrain p1 v1 h2)) ?_
 refine seq_in ?_
 refine so [] [] [(1, cI v1), (2, pk 2), (10, cB (decide (v1 < 0)))] [(2, va (eTMap p0))] id ?_
 rcases ofCond H with ⟨c4, H⟩ | ⟨c4, H⟩
 ·refine it c4 ?_
  refine so [] [] [(4, cI (-1))] [] id ?_
  refine ends_ret ?_
  cases H
  exact And.intro (.inl rfl) rfl
 ·refine jf c4 ?_
  refine sk ?_
  obtain ⟨v5, h6, H⟩ := ofBind H
  refine so [.res (cI v5)] [] [(1, cI v5), (2, pk 2)] [(2, va (eTMap p0))] (aI (l_szIntS_ok p0.Rivers v1 v5 h6)) ?_
  refine seq_in ?_
  refine so [] [] [(1, cI v5), (2, pk 2), (16, cB (decide (v5 < 0)))] [(2, va (eTMap p0))] id ?_
  rcases ofCond H with ⟨c8, H⟩ | ⟨c8, H⟩
  ·refine it c8 ?_
   refine so [] [] [(4, cI (-1))] [] id ?_
   refine ends_ret ?_
   cases H
   exact And.intro (.inl rfl) rfl
  ·refine jf c8 ?_
   refine sk ?_
   obtain ⟨v9, h10, H⟩ := ofBind H
   refine so [.res (cI v9)] [] [(1, cI v9)] [] (aI (l_szIntS_ok p0.Roads v5 v9 h10)) ?_
   refine seq_in ?_
   refine so [] [] [(1, cI v9), (22, cB (decide (v9 < 0)))] [] id ?_
   rcases ofCond H with ⟨c11, H⟩ | ⟨c11, H⟩
   ·refine it c11 ?_
    refine so [] [] [(4, cI (-1))] [] id ?_
    refine ends_ret ?_
    cases H
    exact And.intro (.inl rfl) rfl
   ·refine jf c11 ?_
    refine sk ?_
    refine so [] [] [(4, cI v9)] [] id ?_
    refine ends_ret ?_
    cases H
    exact And.intro (.inl rfl) rfl
def l_szBoard_ir : S :=
 (sq [o 2 (.box 12 (.t 0)), o 4 (.mv (iv 0))]
 (sq [o 5 (.fad 0 (.t 2)), o 6 (.load 7 true (.t 5)), om 7 1, o 8 (.call 53 [.t 6, .t 7]), om 1 8]
 (.seq (sq [om 9 1, o 10 (.bin .lss (.t 9) (iv 0))]
 (.ite (.t 10) (sq [o 4 (.mv (.v (.int .i64 (-1))))]
  .ret)
 .skip))
 (sq [o 11 (.fad 7 (.t 2)), o 12 (.load 5 true (.t 11)), om 13 1, o 14 (.call 54 [.t 12, .t 13]), om 1 14]
 (.seq (sq [om 15 1, o 16 (.bin .lss (.t 15) (iv 0))]
 (.ite (.t 16) (sq [o 4 (.mv (.v (.int .i64 (-1))))]
  .ret)
 .skip))
 (sq [om 17 1, om 4 17]
 .ret))))))
noncomputable def X.l_szBoard (p0 : TBoard) (p1 : Int) : Option Int :=
 ((X.l_szRules p0.Rules p1).bind fun v1 => (bif (decide (v1 < 0)) then some (-1) else ((X.l_szMap p0.Map v1).bind fun v5 => (bif (decide (v5 < 0)) then some (-1) else some v5))))
theorem l_szBoard_ok (p0 : TBoard) (p1 : Int) (r : Int) (H : X.l_szBoard p0 p1 = some r) : FnOk Tryz.prog gl 10 [.agg (eTBoard p0), cI p1] (cI r) := by
 unfold X.l_szBoard at H
 refine fi Tryz.f10 l_szBoard_ir [(4, cI r)] [] glL Tryz.func10 ?_
 refine so [] [] [(1, cI p1), (2, pk 2)] [(2, va (eTBoard p0))] id ?_
 obtain ⟨v1, h2, H⟩ := ofBind H
 refine so [.res (cI v1)] [] [(1, cI v1), (2, pk 2)] [(2, va (eTBoard p0))] (aI (l_szRules_ok p0.Rules p1 v1 h2)) ?_
 refine seq_in ?_
 refine so [] [] [(1, cI v1), (2, pk 2), (10, cB (decide (v1 < 0)))] [(2, va (eTBoard p0))] id ?_
 rcases ofCond H with ⟨c4, H⟩ | ⟨c4, H⟩
 ·refine it c4 ?_
  refine so [] [] [(4, cI (-1))] [] id ?_
  refine ends_ret ?_
  cases H
  exact And.intro (.inl rfl) rfl
 ·refine jf c4 ?_
  refine sk ?_
  obtain ⟨v5, h6, H⟩ := ofBind H
  refine so [.res (cI v5)] [] [(1, cI v5)] [] (aI (l_szMap_ok p0.Map v1 v5 h6)) ?_
  refine seq_in ?_
  refine so [] [] [(1, cI v5), (16, cB (decide (v5 < 0)))] [] id ?_
  rcases ofCond H with ⟨c7, H⟩ | ⟨c7, H⟩
  ·refine it c7 ?_
   refine so [] [] [(4, cI (-1))] [] id ?_
   refine ends_ret ?_
   cases H
   exact And.intro (.inl rfl) rfl
  ·refine jf c7 ?_
   refine sk ?_
   refine so [] [] [(4, cI v5)] [] id ?_
   refine ends_ret ?_
   cases H
   exact And.intro (.inl rfl) rfl
def l_toIntS_ir : S :=
 (sq [o 2 (.mv (.v (.nil)))]
 (sq [om 5 0, o 6 (.len (.t 5)), o 7 (.msl 1 8 [.int .i64 0] (.t 6)), om 3 7]
 (.seq (sq [o 4 (.mv (iv 0))]
 (.blk 0 (.loop (.seq (sq [om 8 4, om 9 0, o 10 (.len (.t 9)), o 11 (.bin .lss (.t 8) (.t 10))]
   (.ite (.t 11) .skip
   (.exit 0)))
   (.seq (.blk 1 (.ops [om 14 3, om 15 4, om 16 0, om 17 4, o 18 (.iad 1 (.t 16) (.t 17)), o 19 (.load 1 false (.t 18)), o 20 (.iad 1 (.t 14) (.t 15)), ⟨none, .store 1 (.t 20) (.t 19), none⟩]))
   (.ops [om 12 4, o 13 (.bin .add (.t 12) (iv 1)), om 4 13]))))))
 (sq [om 21 3, om 2 21]
 .ret))))
noncomputable def X.l_toIntS (p0 : (List Int)) : Option (List Int) :=
 (if 0 ≤ (p0.length : Int) ∧ (p0.length : Int).toNat ≤ LIM then ((loop (fun (x13 : (Int × (List Int))) => ((bif (decide (x13.1 < (p0.length : Int))) then ((at' zI p0 x13.1).bind fun v16 => (if 0 ≤ x13.1 ∧ x13.1 < (x13.2.length : Int) then some (Sum.inl ((W (x13.1 + 1)), (x13.2.set x13.1.toNat v16))) else none)) else some (Sum.inr x13.2)) : Option ((Int × (List Int)) ⊕ (List Int)))) (0, (List.replicate (p0.length : Int).toNat zI))).bind fun y19 => some y19) else none)
theorem l_toIntS_F_ok (p0 : (List Int)) (r : (List Int)) (H : X.l_toIntS p0 = some r) : FnOk Tryz.prog gl 29 [.c (dat 1 eI zI p0)] (.c (.fr (dat 1 eI zI r))) := by
 unfold X.l_toIntS at H
 refine fn_fr (fn := Tryz.f29) (ir := l_toIntS_ir) (s1 := lit [(2, ow 900000 1 r)] [(900000, ar 1 eI zI r)]) (res0 := ow 900000 1 r) glL Tryz.func29 (by kernel_rfl) (by kernel_rfl) (by kernel_rfl) (by kernel_rfl) (FrTo.own rfl (Nat.le_refl _) (fun i _ => ⟨rfl, rfl⟩)) ?_
 refine so [] [] [(0, dc 1 eI zI p0)] [] id ?_
 obtain ⟨g1, H⟩ := ofIf H
 refine so [fh eI zI (List.replicate (p0.length : Int).toNat zI)] [] [(0, dc 1 eI zI p0), (3, ow 7 1 (List.replicate (p0.length : Int).toNat zI))] [(7, ar 1 eI zI (List.replicate (p0.length : Int).toNat zI))] (fun t => lI p0 (aI (And.intro g1.1 (And.intro (List.length_replicate (n := (p0.length : Int).toNat) (a := zI)).symm (Nat.le_trans (Nat.le_of_eq List.length_replicate) g1.2 : (List.replicate (p0.length : Int).toNat zI).length ≤ LIM))) (aI (fF_rep eI zI zI (p0.length : Int).toNat) (t)))) ?_
 refine seq_in ?_
 refine so [] [] [(0, dc 1 eI zI p0), (3, ow 7 1 (List.replicate (p0.length : Int).toNat zI)), (4, cI 0)] [(7, ar 1 eI zI (List.replicate (p0.length : Int).toNat zI))] id ?_
 refine ends_blk ?_
 obtain ⟨y19, h20, H⟩ := ofBind H
 refine loop_in (fun (x : (Int × (List Int))) => lit [(0, dc 1 eI zI p0), (3, ow 7 1 x.2), (4, cI x.1)] [(7, ar 1 eI zI x.2)]) (fun (z : (List Int)) => At (.exit 0) (lit [(3, ow 7 1 z)] [(7, ar 1 eI zI z)])) h20 ?_ ?_
 ·clear H h20
  intro x13 y0 H
  refine seq_in ?_
  refine so [] [] [(0, dc 1 eI zI p0), (3, ow 7 1 x13.2), (4, cI x13.1), (11, cB (decide (x13.1 < (p0.length : Int))))] [(7, ar 1 eI zI x13.2)] (fun t => lI p0 (t)) ?_
  rcases ofCond H with ⟨c15, H⟩ | ⟨c15, H⟩
  ·refine it c15 ?_
   refine sk ?_
   refine seq_in ?_
   refine ends_blk ?_
   obtain ⟨v16, h17, H⟩ := ofBind H
   obtain ⟨g18, H⟩ := ofIf H
   refine oo [.cs (eI v16), .no, .fn 0 (fF eI zI (x13.2.set x13.1.toNat v16))] [] [(0, dc 1 eI zI p0), (3, ow 7 1 x13.2), (4, cI x13.1)] [(7, .arr 1 x13.2.length (fF eI zI (x13.2.set x13.1.toNat v16)) false)] (fun t => (a2 eI h17 (aI g18 (aI (rfl : true = true) (aI (nat_lt g18) (aI (by decide : 0 + 1 ≤ 1) (aI (fF_set eI zI x13.2 x13.1.toNat v16 (nat_lt g18) x13.2.length) (t)))))))) ?_
   change EndsI _ _ _ _ _ _
   refine oo [] [.rel 3 ((x13.2.set x13.1.toNat v16).length), .rep 7 ((x13.2.set x13.1.toNat v16).length) (fF eI zI (x13.2.set x13.1.toNat v16))] [(0, dc 1 eI zI p0), (3, ow 7 1 (x13.2.set x13.1.toNat v16)), (4, cI (W (x13.1 + 1)))] [(7, ar 1 eI zI (x13.2.set x13.1.toNat v16))] (fun t => aI (by simp : x13.2.length = (x13.2.set x13.1.toNat v16).length) (aI (Nat.le_of_eq (by simp : (x13.2.set x13.1.toNat v16).length = x13.2.length)) (aI (fun _ _ => rfl : ∀ i, i < (x13.2.set x13.1.toNat v16).length → (fF eI zI (x13.2.set x13.1.toNat v16)) i = (fF eI zI (x13.2.set x13.1.toNat v16)) i) (t)))) ?_
   cases H
   exact And.intro rfl rfl
  ·refine jf c15 ?_
   refine tl [] [(3, ow 7 1 x13.2)] [(7, ar 1 eI zI x13.2)] id ?_
   refine ends_exit ?_
   cases H
   exact And.intro (by simp) (And.intro rfl rfl)
 ·clear h20
  intro e s q
  obtain ⟨rfl, rfl⟩ := q
  change EndsI _ _ _ _ _ _
  refine so [] [] [(2, ow 7 1 y19)] [(7, ar 1 eI zI y19)] id ?_
  refine tl [.ren 7 900000] [(2, ow 900000 1 y19)] [(900000, ar 1 eI zI y19)] id ?_
  refine ends_ret ?_
  cases H
  exact And.intro (.inl rfl) rfl
def l_toTerrain_ir : S :=
 (sq [o 1 (.box 5 (.t 0)), o 2 (.alloc [.str [], .nil, .int .i64 0, .int .i64 0, .bool false])]
 (sq [o 3 (.alloc [.str [], .nil, .int .i64 0, .int .i64 0, .bool false])]
 (sq [o 4 (.fad 0 (.t 1)), o 5 (.load 1 false (.t 4)), o 6 (.fad 0 (.t 3)), ⟨none, .store 1 (.t 6) (.t 5), none⟩]
 (sq [o 7 (.fad 1 (.t 1)), o 8 (.load 1 false (.t 7)), o 9 (.call 29 [.t 8]), o 10 (.fad 1 (.t 3)), ⟨none, .store 1 (.t 10) (.t 9), none⟩]
 (sq [o 11 (.fad 2 (.t 1)), o 12 (.load 1 false (.t 11)), o 13 (.fad 2 (.t 3)), ⟨none, .store 1 (.t 13) (.t 12), none⟩]
 (sq [o 14 (.fad 3 (.t 1)), o 15 (.load 1 false (.t 14)), o 16 (.fad 3 (.t 3)), ⟨none, .store 1 (.t 16) (.t 15), none⟩]
 (sq [o 17 (.fad 4 (.t 1)), o 18 (.load 1 false (.t 17)), o 19 (.fad 4 (.t 3)), ⟨none, .store 1 (.t 19) (.t 18), none⟩]
 (sq [o 20 (.load 5 true (.t 3)), ⟨none, .store 5 (.t 2) (.t 20), none⟩]
 .ret))))))))
noncomputable def X.l_toTerrain (p0 : TTerrain) : Option TTerrain :=
 ((X.l_toIntS p0.Cost).bind fun v1 => some (TTerrain.mk p0.Name v1 p0.Shift p0.Height p0.Blocks))
theorem l_toTerrain_F_ok (p0 : TTerrain) (r : TTerrain) (H : X.l_toTerrain p0 = some r) : FnOk Tryz.prog gl 199 [.agg (eTTerrain p0)] (.agg [.str r.Name, .fr (dat 1 eI zI r.Cost), .int .i64 r.Shift, .int .i64 r.Height, .bool r.Blocks]) := by
 unfold X.l_toTerrain at H
 refine fn_fr (fn := Tryz.f199) (ir := l_toTerrain_ir) (s1 := lit [(2, pk 2)] [(2, .var [.str r.Name, .fr (dat 1 eI zI r.Cost), .int .i64 r.Shift, .int .i64 r.Height, .bool r.Blocks] false)]) (res0 := .agg [.str r.Name, .fr (dat 1 eI zI r.Cost), .int .i64 r.Shift, .int .i64 r.Height, .bool r.Blocks]) glL Tryz.func199 (by kernel_rfl) (by kernel_rfl) (by kernel_rfl) (by kernel_rfl) ((And.intro ((.inl ⟨rfl, rfl⟩)) (And.intro ((.inl ⟨rfl, rfl⟩)) (And.intro ((.inl ⟨rfl, rfl⟩)) (And.intro ((.inl ⟨rfl, rfl⟩)) (And.intro ((.inl ⟨rfl, rfl⟩)) trivial)))))) ?_
 refine so [] [] [(1, pk 1), (2, pk 2)] [(1, va (eTTerrain p0)), (2, .var [.str [], .nil, .int .i64 0, .int .i64 0, .bool false] false)] id ?_
 refine so [] [] [(1, pk 1), (2, pk 2), (3, pk 3)] [(1, va (eTTerrain p0)), (2, .var [.str [], .nil, .int .i64 0, .int .i64 0, .bool false] false), (3, .var [.str [], .nil, .int .i64 0, .int .i64 0, .bool false] false)] id ?_
 refine so [] [] [(1, pk 1), (2, pk 2), (3, pk 3)] [(1, va (eTTerrain p0)), (2, .var [.str [], .nil, .int .i64 0, .int .i64 0, .bool false] false), (3, .var [.str p0.Name, .nil, .int .i64 0, .int .i64 0, .bool false] false)] id ?_
 obtain ⟨v1, h2, H⟩ := ofBind H
 refine so [.res (.c (.fr (dat 1 eI zI v1)))] [] [(1, pk 1), (2, pk 2), (3, pk 3)] [(1, va (eTTerrain p0)), (2, .var [.str [], .nil, .int .i64 0, .int .i64 0, .bool false] false), (3, .var [.str p0.Name, .fr (dat 1 eI zI v1), .int .i64 0, .int .i64 0, .bool false] false)] (aI (l_toIntS_F_ok p0.Cost v1 h2)) ?_
 refine so [] [] [(1, pk 1), (2, pk 2), (3, pk 3)] [(1, va (eTTerrain p0)), (2, .var [.str [], .nil, .int .i64 0, .int .i64 0, .bool false] false), (3, .var [.str p0.Name, .fr (dat 1 eI zI v1), .int .i64 p0.Shift, .int .i64 0, .bool false] false)] id ?_
 refine so [] [] [(1, pk 1), (2, pk 2), (3, pk 3)] [(1, va (eTTerrain p0)), (2, .var [.str [], .nil, .int .i64 0, .int .i64 0, .bool false] false), (3, .var [.str p0.Name, .fr (dat 1 eI zI v1), .int .i64 p0.Shift, .int .i64 p0.Height, .bool false] false)] id ?_
 refine so [] [] [(2, pk 2), (3, pk 3)] [(2, .var [.str [], .nil, .int .i64 0, .int .i64 0, .bool false] false), (3, .var [.str p0.Name, .fr (dat 1 eI zI v1), .int .i64 p0.Shift, .int .i64 p0.Height, .bool p0.Blocks] false)] id ?_
 refine so [] [] [(2, pk 2)] [(2, .var [.str p0.Name, .fr (dat 1 eI zI v1), .int .i64 p0.Shift, .int .i64 p0.Height, .bool p0.Blocks] false)] id ?_
 refine ends_ret ?_
 cases H
 exact And.intro (.inl rfl) rfl
def l_toTerrainS_ir : S :=
 (sq [o 2 (.mv (.v (.nil)))]
 (sq [om 5 0, o 6 (.len (.t 5)), o 7 (.msl 5 64 [.str [], .nil, .int .i64 0, .int .i64 0, .bool false] (.t 6)), om 3 7]
 (.seq (sq [o 4 (.mv (iv 0))]
 (.blk 0 (.loop (.seq (sq [om 8 4, om 9 0, o 10 (.len (.t 9)), o 11 (.bin .lss (.t 8) (.t 10))]
   (.ite (.t 11) .skip
   (.exit 0)))
   (.seq (.blk 1 (.ops [om 14 3, om 15 4, om 16 0, om 17 4, o 18 (.iad 5 (.t 16) (.t 17)), o 19 (.load 5 true (.t 18)), o 20 (.call 199 [.t 19]), o 21 (.iad 5 (.t 14) (.t 15)), ⟨none, .store 5 (.t 21) (.t 20), none⟩]))
   (.ops [om 12 4, o 13 (.bin .add (.t 12) (iv 1)), om 4 13]))))))
 (sq [om 22 3, om 2 22]
 .ret))))
noncomputable def X.l_toTerrainS (p0 : (List TTerrain)) : Option (List TTerrain) :=
 (if 0 ≤ (p0.length : Int) ∧ (p0.length : Int).toNat ≤ LIM then ((loop (fun (x21 : (Int × (List TTerrain))) => ((bif (decide (x21.1 < (p0.length : Int))) then ((at' zTTerrain p0 x21.1).bind fun v24 => ((X.l_toTerrain v24).bind fun v26 => (if 0 ≤ x21.1 ∧ x21.1 < (x21.2.length : Int) then ((some (x21.2.set x21.1.toNat v26)).bind fun l29 => some (Sum.inl ((W (x21.1 + 1)), l29))) else none))) else some (Sum.inr x21.2)) : Option ((Int × (List TTerrain)) ⊕ (List TTerrain)))) (0, (List.replicate (p0.length : Int).toNat zTTerrain))).bind fun y31 => some y31) else none)
theorem l_toTerrainS_F_ok (p0 : (List TTerrain)) (r : (List TTerrain)) (H : X.l_toTerrainS p0 = some r) : FnOk Tryz.prog gl 137 [.c (dat 5 eTTerrain zTTerrain p0)] (.c (.fr (dat 5 eTTerrain zTTerrain r))) := by
 unfold X.l_toTerrainS at H
 refine fn_fr (fn := Tryz.f137) (ir := l_toTerrainS_ir) (s1 := lit [(2, ow 900000 5 r)] [(900000, ar 5 eTTerrainF zTTerrain r)]) (res0 := ow 900000 5 r) glL Tryz.func137 (by kernel_rfl) (by kernel_rfl) (by kernel_rfl) (by kernel_rfl) (FrTo.own rfl (Nat.le_refl _) (fun i _ => ⟨rfl, rfl⟩)) ?_
 refine so [] [] [(0, dc 5 eTTerrain zTTerrain p0)] [] id ?_
 obtain ⟨g1, H⟩ := ofIf H
 refine so [.fn (List.replicate (p0.length : Int).toNat zTTerrain).length (fun _ => [.str [], .nil, .int .i64 0, .int .i64 0, .bool false])] [.rpw 7 (fF eTTerrainF zTTerrain (List.replicate (p0.length : Int).toNat zTTerrain))] [(0, dc 5 eTTerrain zTTerrain p0), (3, ow 7 5 (List.replicate (p0.length : Int).toNat zTTerrain))] [(7, ar 5 eTTerrainF zTTerrain (List.replicate (p0.length : Int).toNat zTTerrain))] (fun t => lI p0 (aI (And.intro g1.1 (And.intro (List.length_replicate (n := (p0.length : Int).toNat) (a := zTTerrain)).symm (Nat.le_trans (Nat.le_of_eq List.length_replicate) g1.2 : (List.replicate (p0.length : Int).toNat zTTerrain).length ≤ LIM))) (aI (fun _ _ => rfl : ∀ i, i < (List.replicate (p0.length : Int).toNat zTTerrain).length → (fun (_ : Nat) => ([.str [], .nil, .int .i64 0, .int .i64 0, .bool false] : List AC)) i = [.str [], .nil, .int .i64 0, .int .i64 0, .bool false]) (aI (fun i hi => (fF_rep eTTerrainF zTTerrain zTTerrain (p0.length : Int).toNat i hi) ▸ nTTerrainF : ∀ i, i < (List.replicate (p0.length : Int).toNat zTTerrain).length → LeR ((fun (_ : Nat) => ([.str [], .nil, .int .i64 0, .int .i64 0, .bool false] : List AC)) i) ((fF eTTerrainF zTTerrain (List.replicate (p0.length : Int).toNat zTTerrain)) i)) (t))))) ?_
 refine seq_in ?_
 refine so [] [] [(0, dc 5 eTTerrain zTTerrain p0), (3, ow 7 5 (List.replicate (p0.length : Int).toNat zTTerrain)), (4, cI 0)] [(7, ar 5 eTTerrainF zTTerrain (List.replicate (p0.length : Int).toNat zTTerrain))] id ?_
 refine ends_blk ?_
 obtain ⟨y31, h32, H⟩ := ofBind H
 refine loop_in (fun (x : (Int × (List TTerrain))) => lit [(0, dc 5 eTTerrain zTTerrain p0), (3, ow 7 5 x.2), (4, cI x.1)] [(7, ar 5 eTTerrainF zTTerrain x.2)]) (fun (z : (List TTerrain)) => At (.exit 0) (lit [(3, ow 7 5 z)] [(7, ar 5 eTTerrainF zTTerrain z)])) h32 ?_ ?_
 ·clear H h32
  intro x21 y0 H
  refine seq_in ?_
  refine so [] [] [(0, dc 5 eTTerrain zTTerrain p0), (3, ow 7 5 x21.2), (4, cI x21.1), (11, cB (decide (x21.1 < (p0.length : Int))))] [(7, ar 5 eTTerrainF zTTerrain x21.2)] (fun t => lI p0 (t)) ?_
  rcases ofCond H with ⟨c23, H⟩ | ⟨c23, H⟩
  ·refine it c23 ?_
   refine sk ?_
   refine seq_in ?_
   refine ends_blk ?_
   obtain ⟨v24, h25, H⟩ := ofBind H
   obtain ⟨v26, h27, H⟩ := ofBind H
   obtain ⟨g28, H⟩ := ofIf H
   obtain ⟨l29, h30, H⟩ := ofBind H
   refine oo [.cs (eTTerrain v24), .res (.agg [.str v26.Name, .fr (dat 1 eI zI v26.Cost), .int .i64 v26.Shift, .int .i64 v26.Height, .bool v26.Blocks]), .no, .fn 0 (fF eTTerrainF zTTerrain l29)] [] [(0, dc 5 eTTerrain zTTerrain p0), (3, ow 7 5 x21.2), (4, cI x21.1)] [(7, .arr 5 x21.2.length (fF eTTerrainF zTTerrain l29) false)] (fun t => (a2 eTTerrain h25 (aI (l_toTerrain_F_ok v24 v26 h27) (aI g28 (aI (rfl : true = true) (aI (nat_lt g28) (aI (by decide : 0 + 5 ≤ 5) (aI (fF_setN eTTerrainF zTTerrain h30 (nat_lt g28) x21.2.length) (t))))))))) ?_
   change EndsI _ _ _ _ _ _
   refine oo [] [.rel 3 l29.length, .rep 7 l29.length (fF eTTerrainF zTTerrain l29)] [(0, dc 5 eTTerrain zTTerrain p0), (3, ow 7 5 l29), (4, cI (W (x21.1 + 1)))] [(7, ar 5 eTTerrainF zTTerrain l29)] (fun t => aI (by simp [lenN h30] : x21.2.length = l29.length) (aI (Nat.le_of_eq (by simp [lenN h30] : l29.length = x21.2.length)) (aI (fun _ _ => rfl : ∀ i, i < l29.length → (fF eTTerrainF zTTerrain l29) i = (fF eTTerrainF zTTerrain l29) i) (t)))) ?_
   cases H
   exact And.intro rfl rfl
  ·refine jf c23 ?_
   refine tl [] [(3, ow 7 5 x21.2)] [(7, ar 5 eTTerrainF zTTerrain x21.2)] id ?_
   refine ends_exit ?_
   cases H
   exact And.intro (by simp) (And.intro rfl rfl)
 ·clear h32
  intro e s q
  obtain ⟨rfl, rfl⟩ := q
  change EndsI _ _ _ _ _ _
  refine so [] [] [(2, ow 7 5 y31)] [(7, ar 5 eTTerrainF zTTerrain y31)] id ?_
  refine tl [.ren 7 900000] [(2, ow 900000 5 y31)] [(900000, ar 5 eTTerrainF zTTerrain y31)] id ?_
  refine ends_ret ?_
  cases H
  exact And.intro (.inl rfl) rfl
def l_toKind_ir : S :=
 (sq [o 1 (.box 6 (.t 0)), o 2 (.alloc [.str [], .int .i64 0, .int .i64 0, .int .i64 0, .bool false, .int .i64 0])]
 (sq [o 3 (.alloc [.str [], .int .i64 0, .int .i64 0, .int .i64 0, .bool false, .int .i64 0])]
 (sq [o 4 (.fad 0 (.t 1)), o 5 (.load 1 false (.t 4)), o 6 (.fad 0 (.t 3)), ⟨none, .store 1 (.t 6) (.t 5), none⟩]
 (sq [o 7 (.fad 1 (.t 1)), o 8 (.load 1 false (.t 7)), o 9 (.fad 1 (.t 3)), ⟨none, .store 1 (.t 9) (.t 8), none⟩]
 (sq [o 10 (.fad 2 (.t 1)), o 11 (.load 1 false (.t 10)), o 12 (.fad 2 (.t 3)), ⟨none, .store 1 (.t 12) (.t 11), none⟩]
 (sq [o 13 (.fad 3 (.t 1)), o 14 (.load 1 false (.t 13)), o 15 (.fad 3 (.t 3)), ⟨none, .store 1 (.t 15) (.t 14), none⟩]
 (sq [o 16 (.fad 4 (.t 1)), o 17 (.load 1 false (.t 16)), o 18 (.fad 4 (.t 3)), ⟨none, .store 1 (.t 18) (.t 17), none⟩]
 (sq [o 19 (.fad 5 (.t 1)), o 20 (.load 1 false (.t 19)), o 21 (.fad 5 (.t 3)), ⟨none, .store 1 (.t 21) (.t 20), none⟩]
 (sq [o 22 (.load 6 true (.t 3)), ⟨none, .store 6 (.t 2) (.t 22), none⟩]
 .ret)))))))))
noncomputable def X.l_toKind (p0 : TKind) : Option TKind :=
 some p0
theorem l_toKind_ok (p0 : TKind) (r : TKind) (H : X.l_toKind p0 = some r) : FnOk Tryz.prog gl 200 [.agg (eTKind p0)] (.agg (eTKind r)) := by
 unfold X.l_toKind at H
 refine fi Tryz.f200 l_toKind_ir [(2, pk 2)] [(2, va (eTKind r))] glL Tryz.func200 ?_
 refine so [] [] [(1, pk 1), (2, pk 2)] [(1, va (eTKind p0)), (2, .var [.str [], .int .i64 0, .int .i64 0, .int .i64 0, .bool false, .int .i64 0] false)] id ?_
 refine so [] [] [(1, pk 1), (2, pk 2), (3, pk 3)] [(1, va (eTKind p0)), (2, .var [.str [], .int .i64 0, .int .i64 0, .int .i64 0, .bool false, .int .i64 0] false), (3, .var [.str [], .int .i64 0, .int .i64 0, .int .i64 0, .bool false, .int .i64 0] false)] id ?_
 refine so [] [] [(1, pk 1), (2, pk 2), (3, pk 3)] [(1, va (eTKind p0)), (2, .var [.str [], .int .i64 0, .int .i64 0, .int .i64 0, .bool false, .int .i64 0] false), (3, .var [.str p0.Name, .int .i64 0, .int .i64 0, .int .i64 0, .bool false, .int .i64 0] false)] id ?_
 refine so [] [] [(1, pk 1), (2, pk 2), (3, pk 3)] [(1, va (eTKind p0)), (2, .var [.str [], .int .i64 0, .int .i64 0, .int .i64 0, .bool false, .int .i64 0] false), (3, .var [.str p0.Name, .int .i64 p0.Strength, .int .i64 0, .int .i64 0, .bool false, .int .i64 0] false)] id ?_
 refine so [] [] [(1, pk 1), (2, pk 2), (3, pk 3)] [(1, va (eTKind p0)), (2, .var [.str [], .int .i64 0, .int .i64 0, .int .i64 0, .bool false, .int .i64 0] false), (3, .var [.str p0.Name, .int .i64 p0.Strength, .int .i64 p0.Moves, .int .i64 0, .bool false, .int .i64 0] false)] id ?_
 refine so [] [] [(1, pk 1), (2, pk 2), (3, pk 3)] [(1, va (eTKind p0)), (2, .var [.str [], .int .i64 0, .int .i64 0, .int .i64 0, .bool false, .int .i64 0] false), (3, .var [.str p0.Name, .int .i64 p0.Strength, .int .i64 p0.Moves, .int .i64 p0.Steps, .bool false, .int .i64 0] false)] id ?_
 refine so [] [] [(1, pk 1), (2, pk 2), (3, pk 3)] [(1, va (eTKind p0)), (2, .var [.str [], .int .i64 0, .int .i64 0, .int .i64 0, .bool false, .int .i64 0] false), (3, .var [.str p0.Name, .int .i64 p0.Strength, .int .i64 p0.Moves, .int .i64 p0.Steps, .bool p0.Zone, .int .i64 0] false)] id ?_
 refine so [] [] [(2, pk 2), (3, pk 3)] [(2, .var [.str [], .int .i64 0, .int .i64 0, .int .i64 0, .bool false, .int .i64 0] false), (3, va (eTKind p0))] id ?_
 refine so [] [] [(2, pk 2)] [(2, va (eTKind p0))] id ?_
 refine ends_ret ?_
 cases H
 exact And.intro (.inl rfl) rfl
def l_toKindS_ir : S :=
 (sq [o 2 (.mv (.v (.nil)))]
 (sq [om 5 0, o 6 (.len (.t 5)), o 7 (.msl 6 56 [.str [], .int .i64 0, .int .i64 0, .int .i64 0, .bool false, .int .i64 0] (.t 6)), om 3 7]
 (.seq (sq [o 4 (.mv (iv 0))]
 (.blk 0 (.loop (.seq (sq [om 8 4, om 9 0, o 10 (.len (.t 9)), o 11 (.bin .lss (.t 8) (.t 10))]
   (.ite (.t 11) .skip
   (.exit 0)))
   (.seq (.blk 1 (.ops [om 14 3, om 15 4, om 16 0, om 17 4, o 18 (.iad 6 (.t 16) (.t 17)), o 19 (.load 6 true (.t 18)), o 20 (.call 200 [.t 19]), o 21 (.iad 6 (.t 14) (.t 15)), ⟨none, .store 6 (.t 21) (.t 20), none⟩]))
   (.ops [om 12 4, o 13 (.bin .add (.t 12) (iv 1)), om 4 13]))))))
 (sq [om 22 3, om 2 22]
 .ret))))
noncomputable def X.l_toKindS (p0 : (List TKind)) : Option (List TKind) :=
 (if 0 ≤ (p0.length : Int) ∧ (p0.length : Int).toNat ≤ LIM then ((loop (fun (x21 : (Int × (List TKind))) => ((bif (decide (x21.1 < (p0.length : Int))) then ((at' zTKind p0 x21.1).bind fun v24 => ((X.l_toKind v24).bind fun v26 => (if 0 ≤ x21.1 ∧ x21.1 < (x21.2.length : Int) then ((some (x21.2.set x21.1.toNat v26)).bind fun l29 => some (Sum.inl ((W (x21.1 + 1)), l29))) else none))) else some (Sum.inr x21.2)) : Option ((Int × (List TKind)) ⊕ (List TKind)))) (0, (List.replicate (p0.length : Int).toNat zTKind))).bind fun y31 => some y31) else none)
theorem l_toKindS_F_ok (p0 : (List TKind)) (r : (List TKind)) (H : X.l_toKindS p0 = some r) : FnOk Tryz.prog gl 138 [.c (dat 6 eTKind zTKind p0)] (.c (.fr (dat 6 eTKind zTKind r))) := by
 unfold X.l_toKindS at H
 refine fn_fr (fn := Tryz.f138) (ir := l_toKindS_ir) (s1 := lit [(2, ow 900000 6 r)] [(900000, ar 6 eTKind zTKind r)]) (res0 := ow 900000 6 r) glL Tryz.func138 (by kernel_rfl) (by kernel_rfl) (by kernel_rfl) (by kernel_rfl) (FrTo.own rfl (Nat.le_refl _) (fun i _ => ⟨rfl, rfl⟩)) ?_
 refine so [] [] [(0, dc 6 eTKind zTKind p0)] [] id ?_
 obtain ⟨g1, H⟩ := ofIf H
 refine so [fh eTKind zTKind (List.replicate (p0.length : Int).toNat zTKind)] [] [(0, dc 6 eTKind zTKind p0), (3, ow 7 6 (List.replicate (p0.length : Int).toNat zTKind))] [(7, ar 6 eTKind zTKind (List.replicate (p0.length : Int).toNat zTKind))] (fun t => lI p0 (aI (And.intro g1.1 (And.intro (List.length_replicate (n := (p0.length : Int).toNat) (a := zTKind)).symm (Nat.le_trans (Nat.le_of_eq List.length_replicate) g1.2 : (List.replicate (p0.length : Int).toNat zTKind).length ≤ LIM))) (aI (fF_rep eTKind zTKind zTKind (p0.length : Int).toNat) (t)))) ?_
 refine seq_in ?_
 refine so [] [] [(0, dc 6 eTKind zTKind p0), (3, ow 7 6 (List.replicate (p0.length : Int).toNat zTKind)), (4, cI 0)] [(7, ar 6 eTKind zTKind (List.replicate (p0.length : Int).toNat zTKind))] id ?_
 refine ends_blk ?_
 obtain ⟨y31, h32, H⟩ := ofBind H
 refine loop_in (fun (x : (Int × (List TKind))) => lit [(0, dc 6 eTKind zTKind p0), (3, ow 7 6 x.2), (4, cI x.1)] [(7, ar 6 eTKind zTKind x.2)]) (fun (z : (List TKind)) => At (.exit 0) (lit [(3, ow 7 6 z)] [(7, ar 6 eTKind zTKind z)])) h32 ?_ ?_
 ·clear H h32
  intro x21 y0 H
  refine seq_in ?_
  refine so [] [] [(0, dc 6 eTKind zTKind p0), (3, ow 7 6 x21.2), (4, cI x21.1), (11, cB (decide (x21.1 < (p0.length : Int))))] [(7, ar 6 eTKind zTKind x21.2)] (fun t => lI p0 (t)) ?_
  rcases ofCond H with ⟨c23, H⟩ | ⟨c23, H⟩
  ·refine it c23 ?_
   refine sk ?_
   refine seq_in ?_
   refine ends_blk ?_
   obtain ⟨v24, h25, H⟩ := ofBind H
   obtain ⟨v26, h27, H⟩ := ofBind H
   obtain ⟨g28, H⟩ := ofIf H
   obtain ⟨l29, h30, H⟩ := ofBind H
   refine oo [.cs (eTKind v24), .res (.agg (eTKind v26)), .no, .fn 0 (fF eTKind zTKind l29)] [] [(0, dc 6 eTKind zTKind p0), (3, ow 7 6 x21.2), (4, cI x21.1)] [(7, .arr 6 x21.2.length (fF eTKind zTKind l29) false)] (fun t => (a2 eTKind h25 (aI (l_toKind_ok v24 v26 h27) (aI g28 (aI (rfl : true = true) (aI (nat_lt g28) (aI (by decide : 0 + 6 ≤ 6) (aI (fF_setN eTKind zTKind h30 (nat_lt g28) x21.2.length) (t))))))))) ?_
   change EndsI _ _ _ _ _ _
   refine oo [] [.rel 3 l29.length, .rep 7 l29.length (fF eTKind zTKind l29)] [(0, dc 6 eTKind zTKind p0), (3, ow 7 6 l29), (4, cI (W (x21.1 + 1)))] [(7, ar 6 eTKind zTKind l29)] (fun t => aI (by simp [lenN h30] : x21.2.length = l29.length) (aI (Nat.le_of_eq (by simp [lenN h30] : l29.length = x21.2.length)) (aI (fun _ _ => rfl : ∀ i, i < l29.length → (fF eTKind zTKind l29) i = (fF eTKind zTKind l29) i) (t)))) ?_
   cases H
   exact And.intro rfl rfl
  ·refine jf c23 ?_
   refine tl [] [(3, ow 7 6 x21.2)] [(7, ar 6 eTKind zTKind x21.2)] id ?_
   refine ends_exit ?_
   cases H
   exact And.intro (by simp) (And.intro rfl rfl)
 ·clear h32
  intro e s q
  obtain ⟨rfl, rfl⟩ := q
  change EndsI _ _ _ _ _ _
  refine so [] [] [(2, ow 7 6 y31)] [(7, ar 6 eTKind zTKind y31)] id ?_
  refine tl [.ren 7 900000] [(2, ow 900000 6 y31)] [(900000, ar 6 eTKind zTKind y31)] id ?_
  refine ends_ret ?_
  cases H
  exact And.intro (.inl rfl) rfl
def l_toRules_ir : S :=
 (sq [o 1 (.box 7 (.t 0)), o 2 (.alloc [.nil, .nil, .int .i64 0, .int .i64 0, .int .i64 0, .int .i64 0, .int .i64 0])]
 (sq [o 3 (.alloc [.nil, .nil, .int .i64 0, .int .i64 0, .int .i64 0, .int .i64 0, .int .i64 0])]
 (sq [o 4 (.fad 0 (.t 1)), o 5 (.load 1 false (.t 4)), o 6 (.call 137 [.t 5]), o 7 (.fad 0 (.t 3)), ⟨none, .store 1 (.t 7) (.t 6), none⟩]
 (sq [o 8 (.fad 1 (.t 1)), o 9 (.load 1 false (.t 8)), o 10 (.call 138 [.t 9]), o 11 (.fad 1 (.t 3)), ⟨none, .store 1 (.t 11) (.t 10), none⟩]
 (sq [o 12 (.fad 2 (.t 1)), o 13 (.load 1 false (.t 12)), o 14 (.fad 2 (.t 3)), ⟨none, .store 1 (.t 14) (.t 13), none⟩]
 (sq [o 15 (.fad 3 (.t 1)), o 16 (.load 1 false (.t 15)), o 17 (.fad 3 (.t 3)), ⟨none, .store 1 (.t 17) (.t 16), none⟩]
 (sq [o 18 (.fad 4 (.t 1)), o 19 (.load 1 false (.t 18)), o 20 (.fad 4 (.t 3)), ⟨none, .store 1 (.t 20) (.t 19), none⟩]
 (sq [o 21 (.fad 5 (.t 1)), o 22 (.load 1 false (.t 21)), o 23 (.fad 5 (.t 3)), ⟨none, .store 1 (.t 23) (.t 22), none⟩]
 (sq [o 24 (.fad 6 (.t 1)), o 25 (.load 1 false (.t 24)), o 26 (.fad 6 (.t 3)), ⟨none, .store 1 (.t 26) (.t 25), none⟩]
 (sq [o 27 (.load 7 true (.t 3)), ⟨none, .store 7 (.t 2) (.t 27), none⟩]
 .ret))))))))))
noncomputable def X.l_toRules (p0 : TRules) : Option TRules :=
 ((X.l_toTerrainS p0.Terrains).bind fun v1 => ((X.l_toKindS p0.Kinds).bind fun v3 => some (TRules.mk v1 v3 p0.Stack p0.River p0.Road p0.Supply p0.Turns)))
theorem l_toRules_F_ok (p0 : TRules) (r : TRules) (H : X.l_toRules p0 = some r) : FnOk Tryz.prog gl 59 [.agg (eTRules p0)] (.agg [.fr (dat 5 eTTerrain zTTerrain r.Terrains), .fr (dat 6 eTKind zTKind r.Kinds), .int .i64 r.Stack, .int .i64 r.River, .int .i64 r.Road, .int .i64 r.Supply, .int .i64 r.Turns]) := by
 unfold X.l_toRules at H
 refine fn_fr (fn := Tryz.f59) (ir := l_toRules_ir) (s1 := lit [(2, pk 2)] [(2, .var [.fr (dat 5 eTTerrain zTTerrain r.Terrains), .fr (dat 6 eTKind zTKind r.Kinds), .int .i64 r.Stack, .int .i64 r.River, .int .i64 r.Road, .int .i64 r.Supply, .int .i64 r.Turns] false)]) (res0 := .agg [.fr (dat 5 eTTerrain zTTerrain r.Terrains), .fr (dat 6 eTKind zTKind r.Kinds), .int .i64 r.Stack, .int .i64 r.River, .int .i64 r.Road, .int .i64 r.Supply, .int .i64 r.Turns]) glL Tryz.func59 (by kernel_rfl) (by kernel_rfl) (by kernel_rfl) (by kernel_rfl) ((And.intro ((.inl ⟨rfl, rfl⟩)) (And.intro ((.inl ⟨rfl, rfl⟩)) (And.intro ((.inl ⟨rfl, rfl⟩)) (And.intro ((.inl ⟨rfl, rfl⟩)) (And.intro ((.inl ⟨rfl, rfl⟩)) (And.intro ((.inl ⟨rfl, rfl⟩)) (And.intro ((.inl ⟨rfl, rfl⟩)) trivial)))))))) ?_
 refine so [] [] [(1, pk 1), (2, pk 2)] [(1, va (eTRules p0)), (2, .var [.nil, .nil, .int .i64 0, .int .i64 0, .int .i64 0, .int .i64 0, .int .i64 0] false)] id ?_
 refine so [] [] [(1, pk 1), (2, pk 2), (3, pk 3)] [(1, va (eTRules p0)), (2, .var [.nil, .nil, .int .i64 0, .int .i64 0, .int .i64 0, .int .i64 0, .int .i64 0] false), (3, .var [.nil, .nil, .int .i64 0, .int .i64 0, .int .i64 0, .int .i64 0, .int .i64 0] false)] id ?_
 obtain ⟨v1, h2, H⟩ := ofBind H
 refine so [.res (.c (.fr (dat 5 eTTerrain zTTerrain v1)))] [] [(1, pk 1), (2, pk 2), (3, pk 3)] [(1, va (eTRules p0)), (2, .var [.nil, .nil, .int .i64 0, .int .i64 0, .int .i64 0, .int .i64 0, .int .i64 0] false), (3, .var [.fr (dat 5 eTTerrain zTTerrain v1), .nil, .int .i64 0, .int .i64 0, .int .i64 0, .int .i64 0, .int .i64 0] false)] (aI (l_toTerrainS_F_ok p0.Terrains v1 h2)) ?_
 obtain ⟨v3, h4, H⟩ := ofBind H
 refine so [.res (.c (.fr (dat 6 eTKind zTKind v3)))] [] [(1, pk 1), (2, pk 2), (3, pk 3)] [(1, va (eTRules p0)), (2, .var [.nil, .nil, .int .i64 0, .int .i64 0, .int .i64 0, .int .i64 0, .int .i64 0] false), (3, .var [.fr (dat 5 eTTerrain zTTerrain v1), .fr (dat 6 eTKind zTKind v3), .int .i64 0, .int .i64 0, .int .i64 0, .int .i64 0, .int .i64 0] false)] (aI (l_toKindS_F_ok p0.Kinds v3 h4)) ?_
 refine so [] [] [(1, pk 1), (2, pk 2), (3, pk 3)] [(1, va (eTRules p0)), (2, .var [.nil, .nil, .int .i64 0, .int .i64 0, .int .i64 0, .int .i64 0, .int .i64 0] false), (3, .var [.fr (dat 5 eTTerrain zTTerrain v1), .fr (dat 6 eTKind zTKind v3), .int .i64 p0.Stack, .int .i64 0, .int .i64 0, .int .i64 0, .int .i64 0] false)] id ?_
 refine so [] [] [(1, pk 1), (2, pk 2), (3, pk 3)] [(1, va (eTRules p0)), (2, .var [.nil, .nil, .int .i64 0, .int .i64 0, .int .i64 0, .int .i64 0, .int .i64 0] false), (3, .var [.fr (dat 5 eTTerrain zTTerrain v1), .fr (dat 6 eTKind zTKind v3), .int .i64 p0.Stack, .int .i64 p0.River, .int .i64 0, .int .i64 0, .int .i64 0] false)] id ?_
 refine so [] [] [(1, pk 1), (2, pk 2), (3, pk 3)] [(1, va (eTRules p0)), (2, .var [.nil, .nil, .int .i64 0, .int .i64 0, .int .i64 0, .int .i64 0, .int .i64 0] false), (3, .var [.fr (dat 5 eTTerrain zTTerrain v1), .fr (dat 6 eTKind zTKind v3), .int .i64 p0.Stack, .int .i64 p0.River, .int .i64 p0.Road, .int .i64 0, .int .i64 0] false)] id ?_
 refine so [] [] [(1, pk 1), (2, pk 2), (3, pk 3)] [(1, va (eTRules p0)), (2, .var [.nil, .nil, .int .i64 0, .int .i64 0, .int .i64 0, .int .i64 0, .int .i64 0] false), (3, .var [.fr (dat 5 eTTerrain zTTerrain v1), .fr (dat 6 eTKind zTKind v3), .int .i64 p0.Stack, .int .i64 p0.River, .int .i64 p0.Road, .int .i64 p0.Supply, .int .i64 0] false)] id ?_
 refine so [] [] [(2, pk 2), (3, pk 3)] [(2, .var [.nil, .nil, .int .i64 0, .int .i64 0, .int .i64 0, .int .i64 0, .int .i64 0] false), (3, .var [.fr (dat 5 eTTerrain zTTerrain v1), .fr (dat 6 eTKind zTKind v3), .int .i64 p0.Stack, .int .i64 p0.River, .int .i64 p0.Road, .int .i64 p0.Supply, .int .i64 p0.Turns] false)] id ?_
 refine so [] [] [(2, pk 2)] [(2, .var [.fr (dat 5 eTTerrain zTTerrain v1), .fr (dat 6 eTKind zTKind v3), .int .i64 p0.Stack, .int .i64 p0.River, .int .i64 p0.Road, .int .i64 p0.Supply, .int .i64 p0.Turns] false)] id ?_
 refine ends_ret ?_
 cases H
 exact And.intro (.inl rfl) rfl
def l_toMap_ir : S :=
 (sq [o 1 (.box 5 (.t 0)), o 2 (.alloc [.int .i64 0, .int .i64 0, .nil, .nil, .nil])]
 (sq [o 3 (.alloc [.int .i64 0, .int .i64 0, .nil, .nil, .nil])]
 (sq [o 4 (.fad 0 (.t 1)), o 5 (.load 1 false (.t 4)), o 6 (.fad 0 (.t 3)), ⟨none, .store 1 (.t 6) (.t 5), none⟩]
 (sq [o 7 (.fad 1 (.t 1)), o 8 (.load 1 false (.t 7)), o 9 (.fad 1 (.t 3)), ⟨none, .store 1 (.t 9) (.t 8), none⟩]
 (sq [o 10 (.fad 2 (.t 1)), o 11 (.load 1 false (.t 10)), o 12 (.call 29 [.t 11]), o 13 (.fad 2 (.t 3)), ⟨none, .store 1 (.t 13) (.t 12), none⟩]
 (sq [o 14 (.fad 3 (.t 1)), o 15 (.load 1 false (.t 14)), o 16 (.call 29 [.t 15]), o 17 (.fad 3 (.t 3)), ⟨none, .store 1 (.t 17) (.t 16), none⟩]
 (sq [o 18 (.fad 4 (.t 1)), o 19 (.load 1 false (.t 18)), o 20 (.call 29 [.t 19]), o 21 (.fad 4 (.t 3)), ⟨none, .store 1 (.t 21) (.t 20), none⟩]
 (sq [o 22 (.load 5 true (.t 3)), ⟨none, .store 5 (.t 2) (.t 22), none⟩]
 .ret))))))))
noncomputable def X.l_toMap (p0 : TMap) : Option TMap :=
 ((X.l_toIntS p0.Terrain).bind fun v1 => ((X.l_toIntS p0.Rivers).bind fun v3 => ((X.l_toIntS p0.Roads).bind fun v5 => some (TMap.mk p0.Width p0.Height v1 v3 v5))))
theorem l_toMap_F_ok (p0 : TMap) (r : TMap) (H : X.l_toMap p0 = some r) : FnOk Tryz.prog gl 60 [.agg (eTMap p0)] (.agg [.int .i64 r.Width, .int .i64 r.Height, .fr (dat 1 eI zI r.Terrain), .fr (dat 1 eI zI r.Rivers), .fr (dat 1 eI zI r.Roads)]) := by
 unfold X.l_toMap at H
 refine fn_fr (fn := Tryz.f60) (ir := l_toMap_ir) (s1 := lit [(2, pk 2)] [(2, .var [.int .i64 r.Width, .int .i64 r.Height, .fr (dat 1 eI zI r.Terrain), .fr (dat 1 eI zI r.Rivers), .fr (dat 1 eI zI r.Roads)] false)]) (res0 := .agg [.int .i64 r.Width, .int .i64 r.Height, .fr (dat 1 eI zI r.Terrain), .fr (dat 1 eI zI r.Rivers), .fr (dat 1 eI zI r.Roads)]) glL Tryz.func60 (by kernel_rfl) (by kernel_rfl) (by kernel_rfl) (by kernel_rfl) ((And.intro ((.inl ⟨rfl, rfl⟩)) (And.intro ((.inl ⟨rfl, rfl⟩)) (And.intro ((.inl ⟨rfl, rfl⟩)) (And.intro ((.inl ⟨rfl, rfl⟩)) (And.intro ((.inl ⟨rfl, rfl⟩)) trivial)))))) ?_
 refine so [] [] [(1, pk 1), (2, pk 2)] [(1, va (eTMap p0)), (2, .var [.int .i64 0, .int .i64 0, .nil, .nil, .nil] false)] id ?_
 refine so [] [] [(1, pk 1), (2, pk 2), (3, pk 3)] [(1, va (eTMap p0)), (2, .var [.int .i64 0, .int .i64 0, .nil, .nil, .nil] false), (3, .var [.int .i64 0, .int .i64 0, .nil, .nil, .nil] false)] id ?_
 refine so [] [] [(1, pk 1), (2, pk 2), (3, pk 3)] [(1, va (eTMap p0)), (2, .var [.int .i64 0, .int .i64 0, .nil, .nil, .nil] false), (3, .var [.int .i64 p0.Width, .int .i64 0, .nil, .nil, .nil] false)] id ?_
 refine so [] [] [(1, pk 1), (2, pk 2), (3, pk 3)] [(1, va (eTMap p0)), (2, .var [.int .i64 0, .int .i64 0, .nil, .nil, .nil] false), (3, .var [.int .i64 p0.Width, .int .i64 p0.Height, .nil, .nil, .nil] false)] id ?_
 obtain ⟨v1, h2, H⟩ := ofBind H
 refine so [.res (.c (.fr (dat 1 eI zI v1)))] [] [(1, pk 1), (2, pk 2), (3, pk 3)] [(1, va (eTMap p0)), (2, .var [.int .i64 0, .int .i64 0, .nil, .nil, .nil] false), (3, .var [.int .i64 p0.Width, .int .i64 p0.Height, .fr (dat 1 eI zI v1), .nil, .nil] false)] (aI (l_toIntS_F_ok p0.Terrain v1 h2)) ?_
 obtain ⟨v3, h4, H⟩ := ofBind H
 refine so [.res (.c (.fr (dat 1 eI zI v3)))] [] [(1, pk 1), (2, pk 2), (3, pk 3)] [(1, va (eTMap p0)), (2, .var [.int .i64 0, .int .i64 0, .nil, .nil, .nil] false), (3, .var [.int .i64 p0.Width, .int .i64 p0.Height, .fr (dat 1 eI zI v1), .fr (dat 1 eI zI v3), .nil] false)] (aI (l_toIntS_F_ok p0.Rivers v3 h4)) ?_
 obtain ⟨v5, h6, H⟩ := ofBind H
 refine so [.res (.c (.fr (dat 1 eI zI v5)))] [] [(2, pk 2), (3, pk 3)] [(2, .var [.int .i64 0, .int .i64 0, .nil, .nil, .nil] false), (3, .var [.int .i64 p0.Width, .int .i64 p0.Height, .fr (dat 1 eI zI v1), .fr (dat 1 eI zI v3), .fr (dat 1 eI zI v5)] false)] (aI (l_toIntS_F_ok p0.Roads v5 h6)) ?_
 refine so [] [] [(2, pk 2)] [(2, .var [.int .i64 p0.Width, .int .i64 p0.Height, .fr (dat 1 eI zI v1), .fr (dat 1 eI zI v3), .fr (dat 1 eI zI v5)] false)] id ?_
 refine ends_ret ?_
 cases H
 exact And.intro (.inl rfl) rfl
def l_toBoard_ir : S :=
 (sq [o 1 (.box 12 (.t 0)), o 2 (.alloc [.nil, .nil, .int .i64 0, .int .i64 0, .int .i64 0, .int .i64 0, .int .i64 0, .int .i64 0, .int .i64 0, .nil, .nil, .nil])]
 (sq [o 3 (.alloc [.nil, .nil, .int .i64 0, .int .i64 0, .int .i64 0, .int .i64 0, .int .i64 0, .int .i64 0, .int .i64 0, .nil, .nil, .nil])]
 (sq [o 4 (.fad 0 (.t 1)), o 5 (.load 7 true (.t 4)), o 6 (.call 59 [.t 5]), o 7 (.fad 0 (.t 3)), ⟨none, .store 7 (.t 7) (.t 6), none⟩]
 (sq [o 8 (.fad 7 (.t 1)), o 9 (.load 5 true (.t 8)), o 10 (.call 60 [.t 9]), o 11 (.fad 7 (.t 3)), ⟨none, .store 5 (.t 11) (.t 10), none⟩]
 (sq [o 12 (.load 12 true (.t 3)), ⟨none, .store 12 (.t 2) (.t 12), none⟩]
 .ret)))))
noncomputable def X.l_toBoard (p0 : TBoard) : Option TBoard :=
 ((X.l_toRules p0.Rules).bind fun v1 => ((X.l_toMap p0.Map).bind fun v3 => some (TBoard.mk v1 v3)))
theorem l_toBoard_F_ok (p0 : TBoard) (r : TBoard) (H : X.l_toBoard p0 = some r) : FnOk Tryz.prog gl 12 [.agg (eTBoard p0)] (.agg [.fr (dat 5 eTTerrain zTTerrain r.Rules.Terrains), .fr (dat 6 eTKind zTKind r.Rules.Kinds), .int .i64 r.Rules.Stack, .int .i64 r.Rules.River, .int .i64 r.Rules.Road, .int .i64 r.Rules.Supply, .int .i64 r.Rules.Turns, .int .i64 r.Map.Width, .int .i64 r.Map.Height, .fr (dat 1 eI zI r.Map.Terrain), .fr (dat 1 eI zI r.Map.Rivers), .fr (dat 1 eI zI r.Map.Roads)]) := by
 unfold X.l_toBoard at H
 refine fn_fr (fn := Tryz.f12) (ir := l_toBoard_ir) (s1 := lit [(2, pk 2)] [(2, .var [.fr (dat 5 eTTerrain zTTerrain r.Rules.Terrains), .fr (dat 6 eTKind zTKind r.Rules.Kinds), .int .i64 r.Rules.Stack, .int .i64 r.Rules.River, .int .i64 r.Rules.Road, .int .i64 r.Rules.Supply, .int .i64 r.Rules.Turns, .int .i64 r.Map.Width, .int .i64 r.Map.Height, .fr (dat 1 eI zI r.Map.Terrain), .fr (dat 1 eI zI r.Map.Rivers), .fr (dat 1 eI zI r.Map.Roads)] false)]) (res0 := .agg [.fr (dat 5 eTTerrain zTTerrain r.Rules.Terrains), .fr (dat 6 eTKind zTKind r.Rules.Kinds), .int .i64 r.Rules.Stack, .int .i64 r.Rules.River, .int .i64 r.Rules.Road, .int .i64 r.Rules.Supply, .int .i64 r.Rules.Turns, .int .i64 r.Map.Width, .int .i64 r.Map.Height, .fr (dat 1 eI zI r.Map.Terrain), .fr (dat 1 eI zI r.Map.Rivers), .fr (dat 1 eI zI r.Map.Roads)]) glL Tryz.func12 (by kernel_rfl) (by kernel_rfl) (by kernel_rfl) (by kernel_rfl) ((And.intro ((.inl ⟨rfl, rfl⟩)) (And.intro ((.inl ⟨rfl, rfl⟩)) (And.intro ((.inl ⟨rfl, rfl⟩)) (And.intro ((.inl ⟨rfl, rfl⟩)) (And.intro ((.inl ⟨rfl, rfl⟩)) (And.intro ((.inl ⟨rfl, rfl⟩)) (And.intro ((.inl ⟨rfl, rfl⟩)) (And.intro ((.inl ⟨rfl, rfl⟩)) (And.intro ((.inl ⟨rfl, rfl⟩)) (And.intro ((.inl ⟨rfl, rfl⟩)) (And.intro ((.inl ⟨rfl, rfl⟩)) (And.intro ((.inl ⟨rfl, rfl⟩)) trivial))))))))))))) ?_
 refine so [] [] [(1, pk 1), (2, pk 2)] [(1, va (eTBoard p0)), (2, .var [.nil, .nil, .int .i64 0, .int .i64 0, .int .i64 0, .int .i64 0, .int .i64 0, .int .i64 0, .int .i64 0, .nil, .nil, .nil] false)] id ?_
 refine so [] [] [(1, pk 1), (2, pk 2), (3, pk 3)] [(1, va (eTBoard p0)), (2, .var [.nil, .nil, .int .i64 0, .int .i64 0, .int .i64 0, .int .i64 0, .int .i64 0, .int .i64 0, .int .i64 0, .nil, .nil, .nil] false), (3, .var [.nil, .nil, .int .i64 0, .int .i64 0, .int .i64 0, .int .i64 0, .int .i64 0, .int .i64 0, .int .i64 0, .nil, .nil, .nil] false)] id ?_
 obtain ⟨v1, h2, H⟩ := ofBind H
 refine so [.res (.agg [.fr (dat 5 eTTerrain zTTerrain v1.Terrains), .fr (dat 6 eTKind zTKind v1.Kinds), .int .i64 v1.Stack, .int .i64 v1.River, .int .i64 v1.Road, .int .i64 v1.Supply, .int .i64 v1.Turns])] [] [(1, pk 1), (2, pk 2), (3, pk 3)] [(1, va (eTBoard p0)), (2, .var [.nil, .nil, .int .i64 0, .int .i64 0, .int .i64 0, .int .i64 0, .int .i64 0, .int .i64 0, .int .i64 0, .nil, .nil, .nil] false), (3, .var [.fr (dat 5 eTTerrain zTTerrain v1.Terrains), .fr (dat 6 eTKind zTKind v1.Kinds), .int .i64 v1.Stack, .int .i64 v1.River, .int .i64 v1.Road, .int .i64 v1.Supply, .int .i64 v1.Turns, .int .i64 0, .int .i64 0, .nil, .nil, .nil] false)] (aI (l_toRules_F_ok p0.Rules v1 h2)) ?_
 obtain ⟨v3, h4, H⟩ := ofBind H
 refine so [.res (.agg [.int .i64 v3.Width, .int .i64 v3.Height, .fr (dat 1 eI zI v3.Terrain), .fr (dat 1 eI zI v3.Rivers), .fr (dat 1 eI zI v3.Roads)])] [] [(2, pk 2), (3, pk 3)] [(2, .var [.nil, .nil, .int .i64 0, .int .i64 0, .int .i64 0, .int .i64 0, .int .i64 0, .int .i64 0, .int .i64 0, .nil, .nil, .nil] false), (3, .var [.fr (dat 5 eTTerrain zTTerrain v1.Terrains), .fr (dat 6 eTKind zTKind v1.Kinds), .int .i64 v1.Stack, .int .i64 v1.River, .int .i64 v1.Road, .int .i64 v1.Supply, .int .i64 v1.Turns, .int .i64 v3.Width, .int .i64 v3.Height, .fr (dat 1 eI zI v3.Terrain), .fr (dat 1 eI zI v3.Rivers), .fr (dat 1 eI zI v3.Roads)] false)] (aI (l_toMap_F_ok p0.Map v3 h4)) ?_
 refine so [] [] [(2, pk 2)] [(2, .var [.fr (dat 5 eTTerrain zTTerrain v1.Terrains), .fr (dat 6 eTKind zTKind v1.Kinds), .int .i64 v1.Stack, .int .i64 v1.River, .int .i64 v1.Road, .int .i64 v1.Supply, .int .i64 v1.Turns, .int .i64 v3.Width, .int .i64 v3.Height, .fr (dat 1 eI zI v3.Terrain), .fr (dat 1 eI zI v3.Rivers), .fr (dat 1 eI zI v3.Roads)] false)] id ?_
 refine ends_ret ?_
 cases H
 exact And.intro (.inl rfl) rfl
def l_eqIntS_ir : S :=
 (sq [o 4 (.mv (.v (.bool false)))]
 (.seq (sq [om 6 0, o 7 (.len (.t 6)), om 8 1, o 9 (.len (.t 8)), o 10 (.bin .neq (.t 7) (.t 9))]
 (.ite (.t 10) (sq [o 4 (.mv (.v (.bool false)))]
  .ret)
 .skip))
 (.seq (sq [o 5 (.mv (iv 0))]
 (.blk 0 (.loop (.seq (sq [om 11 5, om 12 0, o 13 (.len (.t 12)), o 14 (.bin .lss (.t 11) (.t 13))]
   (.ite (.t 14) .skip
   (.exit 0)))
   (.seq (.blk 1 (.seq (.draw 9 [om 17 0, om 18 5, o 19 (.iad 1 (.t 17) (.t 18)), o 20 (.load 1 false (.t 19)), om 21 1, om 22 5, o 23 (.iad 1 (.t 21) (.t 22)), o 24 (.load 1 false (.t 23)), o 25 (.bin .neq (.t 20) (.t 24))])
    (.ite (.t 25) (sq [o 4 (.mv (.v (.bool false)))]
     .ret)
    .skip)))
   (.ops [om 15 5, o 16 (.bin .add (.t 15) (iv 1)), om 5 16]))))))
 (sq [o 4 (.mv (.v (.bool true)))]
 .ret))))
noncomputable def X.l_eqIntS (p0 : (List Int)) (p1 : (List Int)) : Option Bool :=
 (bif ((p0.length : Int) != (p1.length : Int)) then some false else ((loop (fun (x18 : Int) => ((bif (decide (x18 < (p0.length : Int))) then ((at' zI p0 x18).bind fun v21 => ((at' zI p1 x18).bind fun v23 => (bif (v21 != v23) then some (Sum.inr (Sum.inr false)) else some (Sum.inl (W (x18 + 1)))))) else some (Sum.inr (Sum.inl ()))) : Option (Int ⊕ (Unit ⊕ Bool)))) 0).bind fun y26 => (Sum.elim (fun (y28 : Unit) => some true) (fun (y29 : Bool) => some y29) y26)))
theorem l_eqIntS_ok (p0 : (List Int)) (p1 : (List Int)) (r : Bool) (H : X.l_eqIntS p0 p1 = some r) : FnOk Tryz.prog gl 31 [.c (dat 1 eI zI p0), .c (dat 1 eI zI p1)] (cB r) := by
 unfold X.l_eqIntS at H
 refine fi Tryz.f31 l_eqIntS_ir [(4, cB r)] [] glL Tryz.func31 ?_
 refine so [] [] [(0, dc 1 eI zI p0), (1, dc 1 eI zI p1)] [] id ?_
 refine seq_in ?_
 refine so [] [] [(0, dc 1 eI zI p0), (1, dc 1 eI zI p1), (10, cB ((p0.length : Int) != (p1.length : Int)))] [] (fun t => lI p0 (lI p1 (t))) ?_
 rcases ofCond H with ⟨c2, H⟩ | ⟨c2, H⟩
 ·refine it c2 ?_
  refine so [] [] [(4, cB false)] [] id ?_
  refine ends_ret ?_
  cases H
  exact And.intro (.inl rfl) rfl
 ·refine jf c2 ?_
  refine sk ?_
  refine seq_in ?_
  refine so [] [] [(0, dc 1 eI zI p0), (1, dc 1 eI zI p1), (5, cI 0)] [] id ?_
  refine ends_blk ?_
  obtain ⟨y26, h27, H⟩ := ofBind H
  refine loop_in (fun (x : Int) => lit [(0, dc 1 eI zI p0), (1, dc 1 eI zI p1), (5, cI x)] []) (orJ (fun (z : Unit) => At (.exit 0) (lit [] [])) (fun (z : Bool) => At .ret (lit [(4, cB z)] []))) h27 ?_ ?_
  ·clear H h27
   intro x18 y0 H
   refine seq_in ?_
   refine so [] [] [(0, dc 1 eI zI p0), (1, dc 1 eI zI p1), (5, cI x18), (14, cB (decide (x18 < (p0.length : Int))))] [] (fun t => lI p0 (t)) ?_
   rcases ofCond H with ⟨c20, H⟩ | ⟨c20, H⟩
   ·refine it c20 ?_
    refine sk ?_
    refine seq_in ?_
    refine ends_blk ?_
    obtain ⟨v21, h22, H⟩ := ofBind H
    obtain ⟨v23, h24, H⟩ := ofBind H
    refine sd [.cs (eI v21), .cs (eI v23)] [] [(0, dc 1 eI zI p0), (1, dc 1 eI zI p1), (5, cI x18), (25, cB (v21 != v23))] [] (fun t => (a2 eI h22 (aI (rfl : ([] : List Nat) = []) ((a2 eI h24 (aI (rfl : ([] : List Nat) = []) (t))))))) ?_
    rcases ofCond H with ⟨c25, H⟩ | ⟨c25, H⟩
    ·refine it c25 ?_
     refine so [] [] [(4, cB false)] [] id ?_
     refine ends_ret ?_
     cases H
     exact And.intro (by simp) (And.intro rfl rfl)
    ·refine jf c25 ?_
     refine sk ?_
     refine oo [] [] [(0, dc 1 eI zI p0), (1, dc 1 eI zI p1), (5, cI (W (x18 + 1)))] [] id ?_
     cases H
     exact And.intro rfl rfl
   ·refine jf c20 ?_
    refine tl [] [] [] id ?_
    refine ends_exit ?_
    cases H
    exact And.intro (by simp) (And.intro rfl rfl)
  ·clear h27
   cases y26 with
   | inl y28 =>
    replace H := ofInl H
    intro e s q
    obtain ⟨rfl, rfl⟩ := q
    change EndsI _ _ _ _ _ _
    refine so [] [] [(4, cB true)] [] id ?_
    refine ends_ret ?_
    cases H
    exact And.intro (.inl rfl) rfl
   | inr y29 =>
    replace H := ofInr H
    intro e s q
    obtain ⟨rfl, rfl⟩ := q
    cases H
    exact And.intro (.inl rfl) rfl
def l_eqTerrain_ir : S :=
 (sq [o 2 (.box 5 (.t 0)), o 3 (.box 5 (.t 1)), o 4 (.mv (.v (.bool false)))]
 (.seq (sq [o 5 (.fad 0 (.t 2)), o 6 (.load 1 false (.t 5)), o 7 (.fad 0 (.t 3)), o 8 (.load 1 false (.t 7)), o 9 (.bin .neq (.t 6) (.t 8))]
 (.ite (.t 9) (sq [o 4 (.mv (.v (.bool false)))]
  .ret)
 .skip))
 (.seq (sq [o 10 (.fad 1 (.t 2)), o 11 (.load 1 false (.t 10)), o 12 (.fad 1 (.t 3)), o 13 (.load 1 false (.t 12)), o 14 (.call 31 [.t 11, .t 13]), o 15 (.not (.t 14))]
 (.ite (.t 15) (sq [o 4 (.mv (.v (.bool false)))]
  .ret)
 .skip))
 (.seq (sq [o 16 (.fad 2 (.t 2)), o 17 (.load 1 false (.t 16)), o 18 (.fad 2 (.t 3)), o 19 (.load 1 false (.t 18)), o 20 (.bin .neq (.t 17) (.t 19))]
 (.ite (.t 20) (sq [o 4 (.mv (.v (.bool false)))]
  .ret)
 .skip))
 (.seq (sq [o 21 (.fad 3 (.t 2)), o 22 (.load 1 false (.t 21)), o 23 (.fad 3 (.t 3)), o 24 (.load 1 false (.t 23)), o 25 (.bin .neq (.t 22) (.t 24))]
 (.ite (.t 25) (sq [o 4 (.mv (.v (.bool false)))]
  .ret)
 .skip))
 (.seq (sq [o 26 (.fad 4 (.t 2)), o 27 (.load 1 false (.t 26)), o 28 (.fad 4 (.t 3)), o 29 (.load 1 false (.t 28)), o 30 (.bqe true (.t 27) (.t 29))]
 (.ite (.t 30) (sq [o 4 (.mv (.v (.bool false)))]
  .ret)
 .skip))
 (sq [o 4 (.mv (.v (.bool true)))]
 .ret)))))))
noncomputable def X.l_eqTerrain (p0 : TTerrain) (p1 : TTerrain) : Option Bool :=
 (bif (!(p0.Name == p1.Name)) then some false else ((X.l_eqIntS p0.Cost p1.Cost).bind fun v6 => (bif (!v6) then some false else (bif (p0.Shift != p1.Shift) then some false else (bif (p0.Height != p1.Height) then some false else (bif (!(p0.Blocks == p1.Blocks)) then some false else some true))))))
theorem l_eqTerrain_ok (p0 : TTerrain) (p1 : TTerrain) (r : Bool) (H : X.l_eqTerrain p0 p1 = some r) : FnOk Tryz.prog gl 218 [.agg (eTTerrain p0), .agg (eTTerrain p1)] (cB r) := by
 unfold X.l_eqTerrain at H
 refine fi Tryz.f218 l_eqTerrain_ir [(4, cB r)] [] glL Tryz.func218 ?_
 refine so [] [] [(2, pk 2), (3, pk 3)] [(2, va (eTTerrain p0)), (3, va (eTTerrain p1))] id ?_
 refine seq_in ?_
 refine so [] [] [(2, pk 2), (3, pk 3), (9, cB (!(p0.Name == p1.Name)))] [(2, va (eTTerrain p0)), (3, va (eTTerrain p1))] id ?_
 rcases ofCond H with ⟨c2, H⟩ | ⟨c2, H⟩
 ·refine it c2 ?_
  refine so [] [] [(4, cB false)] [] id ?_
  refine ends_ret ?_
  cases H
  exact And.intro (.inl rfl) rfl
 ·refine jf c2 ?_
  refine sk ?_
  refine seq_in ?_
  obtain ⟨v6, h7, H⟩ := ofBind H
  refine so [.res (cB v6)] [] [(2, pk 2), (3, pk 3), (15, cB (!v6))] [(2, va (eTTerrain p0)), (3, va (eTTerrain p1))] (aI (l_eqIntS_ok p0.Cost p1.Cost v6 h7)) ?_
  rcases ofCond H with ⟨c8, H⟩ | ⟨c8, H⟩
  ·refine it c8 ?_
   refine so [] [] [(4, cB false)] [] id ?_
   refine ends_ret ?_
   cases H
   exact And.intro (.inl rfl) rfl
  ·refine jf c8 ?_
   refine sk ?_
   refine seq_in ?_
   refine so [] [] [(2, pk 2), (3, pk 3), (20, cB (p0.Shift != p1.Shift))] [(2, va (eTTerrain p0)), (3, va (eTTerrain p1))] id ?_
   rcases ofCond H with ⟨c10, H⟩ | ⟨c10, H⟩
   ·refine it c10 ?_
    refine so [] [] [(4, cB false)] [] id ?_
    refine ends_ret ?_
    cases H
    exact And.intro (.inl rfl) rfl
   ·refine jf c10 ?_
    refine sk ?_
    refine seq_in ?_
    refine so [] [] [(2, pk 2), (3, pk 3), (25, cB (p0.Height != p1.Height))] [(2, va (eTTerrain p0)), (3, va (eTTerrain p1))] id ?_
    rcases ofCond H with ⟨c12, H⟩ | ⟨c12, H⟩
    ·refine it c12 ?_
     refine so [] [] [(4, cB false)] [] id ?_
     refine ends_ret ?_
     cases H
     exact And.intro (.inl rfl) rfl
    ·refine jf c12 ?_
     refine sk ?_
     refine seq_in ?_
     refine so [] [] [(30, cB (!(p0.Blocks == p1.Blocks)))] [] id ?_
     rcases ofCond H with ⟨c13, H⟩ | ⟨c13, H⟩
     ·refine it c13 ?_
      refine so [] [] [(4, cB false)] [] id ?_
      refine ends_ret ?_
      cases H
      exact And.intro (.inl rfl) rfl
     ·refine jf c13 ?_
      refine sk ?_
      refine so [] [] [(4, cB true)] [] id ?_
      refine ends_ret ?_
      cases H
      exact And.intro (.inl rfl) rfl
def l_eqTerrainS_ir : S :=
 (sq [o 4 (.mv (.v (.bool false)))]
 (.seq (sq [om 6 0, o 7 (.len (.t 6)), om 8 1, o 9 (.len (.t 8)), o 10 (.bin .neq (.t 7) (.t 9))]
 (.ite (.t 10) (sq [o 4 (.mv (.v (.bool false)))]
  .ret)
 .skip))
 (.seq (sq [o 5 (.mv (iv 0))]
 (.blk 0 (.loop (.seq (sq [om 11 5, om 12 0, o 13 (.len (.t 12)), o 14 (.bin .lss (.t 11) (.t 13))]
   (.ite (.t 14) .skip
   (.exit 0)))
   (.seq (.blk 1 (.seq (.draw 10 [om 17 0, om 18 5, o 19 (.iad 5 (.t 17) (.t 18)), o 20 (.load 5 true (.t 19)), om 21 1, om 22 5, o 23 (.iad 5 (.t 21) (.t 22)), o 24 (.load 5 true (.t 23)), o 25 (.call 218 [.t 20, .t 24]), o 26 (.not (.t 25))])
    (.ite (.t 26) (sq [o 4 (.mv (.v (.bool false)))]
     .ret)
    .skip)))
   (.ops [om 15 5, o 16 (.bin .add (.t 15) (iv 1)), om 5 16]))))))
 (sq [o 4 (.mv (.v (.bool true)))]
 .ret))))
noncomputable def X.l_eqTerrainS (p0 : (List TTerrain)) (p1 : (List TTerrain)) : Option Bool :=
 (bif ((p0.length : Int) != (p1.length : Int)) then some false else ((loop (fun (x22 : Int) => ((bif (decide (x22 < (p0.length : Int))) then ((at' zTTerrain p0 x22).bind fun v25 => ((at' zTTerrain p1 x22).bind fun v27 => ((X.l_eqTerrain v25 v27).bind fun v29 => (bif (!v29) then some (Sum.inr (Sum.inr false)) else some (Sum.inl (W (x22 + 1))))))) else some (Sum.inr (Sum.inl ()))) : Option (Int ⊕ (Unit ⊕ Bool)))) 0).bind fun y32 => (Sum.elim (fun (y34 : Unit) => some true) (fun (y35 : Bool) => some y35) y32)))
theorem l_eqTerrainS_ok (p0 : (List TTerrain)) (p1 : (List TTerrain)) (r : Bool) (H : X.l_eqTerrainS p0 p1 = some r) : FnOk Tryz.prog gl 160 [.c (dat 5 eTTerrain zTTerrain p0), .c (dat 5 eTTerrain zTTerrain p1)] (cB r) := by
 unfold X.l_eqTerrainS at H
 refine fi Tryz.f160 l_eqTerrainS_ir [(4, cB r)] [] glL Tryz.func160 ?_
 refine so [] [] [(0, dc 5 eTTerrain zTTerrain p0), (1, dc 5 eTTerrain zTTerrain p1)] [] id ?_
 refine seq_in ?_
 refine so [] [] [(0, dc 5 eTTerrain zTTerrain p0), (1, dc 5 eTTerrain zTTerrain p1), (10, cB ((p0.length : Int) != (p1.length : Int)))] [] (fun t => lI p0 (lI p1 (t))) ?_
 rcases ofCond H with ⟨c2, H⟩ | ⟨c2, H⟩
 ·refine it c2 ?_
  refine so [] [] [(4, cB false)] [] id ?_
  refine ends_ret ?_
  cases H
  exact And.intro (.inl rfl) rfl
 ·refine jf c2 ?_
  refine sk ?_
  refine seq_in ?_
  refine so [] [] [(0, dc 5 eTTerrain zTTerrain p0), (1, dc 5 eTTerrain zTTerrain p1), (5, cI 0)] [] id ?_
  refine ends_blk ?_
  obtain ⟨y32, h33, H⟩ := ofBind H
  refine loop_in (fun (x : Int) => lit [(0, dc 5 eTTerrain zTTerrain p0), (1, dc 5 eTTerrain zTTerrain p1), (5, cI x)] []) (orJ (fun (z : Unit) => At (.exit 0) (lit [] [])) (fun (z : Bool) => At .ret (lit [(4, cB z)] []))) h33 ?_ ?_
  ·clear H h33
   intro x22 y0 H
   refine seq_in ?_
   refine so [] [] [(0, dc 5 eTTerrain zTTerrain p0), (1, dc 5 eTTerrain zTTerrain p1), (5, cI x22), (14, cB (decide (x22 < (p0.length : Int))))] [] (fun t => lI p0 (t)) ?_
   rcases ofCond H with ⟨c24, H⟩ | ⟨c24, H⟩
   ·refine it c24 ?_
    refine sk ?_
    refine seq_in ?_
    refine ends_blk ?_
    obtain ⟨v25, h26, H⟩ := ofBind H
    obtain ⟨v27, h28, H⟩ := ofBind H
    obtain ⟨v29, h30, H⟩ := ofBind H
    refine sd [.cs (eTTerrain v25), .cs (eTTerrain v27), .res (cB v29)] [] [(0, dc 5 eTTerrain zTTerrain p0), (1, dc 5 eTTerrain zTTerrain p1), (5, cI x22), (26, cB (!v29))] [] (fun t => (a2 eTTerrain h26 (aI (rfl : ([] : List Nat) = []) ((a2 eTTerrain h28 (aI (rfl : ([] : List Nat) = []) (aI (l_eqTerrain_ok v25 v27 v29 h30) (aI trivial (aI (rfl : ([] : List Nat) = []) (t)))))))))) ?_
    rcases ofCond H with ⟨c31, H⟩ | ⟨c31, H⟩
    ·refine it c31 ?_
     refine so [] [] [(4, cB false)] [] id ?_
     refine ends_ret ?_
     cases H
     exact And.intro (by simp) (And.intro rfl rfl)
    ·refine jf c31 ?_
     refine sk ?_
     refine oo [] [] [(0, dc 5 eTTerrain zTTerrain p0), (1, dc 5 eTTerrain zTTerrain p1), (5, cI (W (x22 + 1)))] [] id ?_
     cases H
     exact And.intro rfl rfl
   ·refine jf c24 ?_
    refine tl [] [] [] id ?_
    refine ends_exit ?_
    cases H
    exact And.intro (by simp) (And.intro rfl rfl)
  ·clear h33
   cases y32 with
   | inl y34 =>
    replace H := ofInl H
    intro e s q
    obtain ⟨rfl, rfl⟩ := q
    change EndsI _ _ _ _ _ _
    refine so [] [] [(4, cB true)] [] id ?_
    refine ends_ret ?_
    cases H
    exact And.intro (.inl rfl) rfl
   | inr y35 =>
    replace H := ofInr H
    intro e s q
    obtain ⟨rfl, rfl⟩ := q
    cases H
    exact And.intro (.inl rfl) rfl
def l_eqKind_ir : S :=
 (sq [o 2 (.box 6 (.t 0)), o 3 (.box 6 (.t 1)), o 4 (.mv (.v (.bool false)))]
 (.seq (sq [o 5 (.fad 0 (.t 2)), o 6 (.load 1 false (.t 5)), o 7 (.fad 0 (.t 3)), o 8 (.load 1 false (.t 7)), o 9 (.bin .neq (.t 6) (.t 8))]
 (.ite (.t 9) (sq [o 4 (.mv (.v (.bool false)))]
  .ret)
 .skip))
 (.seq (sq [o 10 (.fad 1 (.t 2)), o 11 (.load 1 false (.t 10)), o 12 (.fad 1 (.t 3)), o 13 (.load 1 false (.t 12)), o 14 (.bin .neq (.t 11) (.t 13))]
 (.ite (.t 14) (sq [o 4 (.mv (.v (.bool false)))]
  .ret)
 .skip))
 (.seq (sq [o 15 (.fad 2 (.t 2)), o 16 (.load 1 false (.t 15)), o 17 (.fad 2 (.t 3)), o 18 (.load 1 false (.t 17)), o 19 (.bin .neq (.t 16) (.t 18))]
 (.ite (.t 19) (sq [o 4 (.mv (.v (.bool false)))]
  .ret)
 .skip))
 (.seq (sq [o 20 (.fad 3 (.t 2)), o 21 (.load 1 false (.t 20)), o 22 (.fad 3 (.t 3)), o 23 (.load 1 false (.t 22)), o 24 (.bin .neq (.t 21) (.t 23))]
 (.ite (.t 24) (sq [o 4 (.mv (.v (.bool false)))]
  .ret)
 .skip))
 (.seq (sq [o 25 (.fad 4 (.t 2)), o 26 (.load 1 false (.t 25)), o 27 (.fad 4 (.t 3)), o 28 (.load 1 false (.t 27)), o 29 (.bqe true (.t 26) (.t 28))]
 (.ite (.t 29) (sq [o 4 (.mv (.v (.bool false)))]
  .ret)
 .skip))
 (.seq (sq [o 30 (.fad 5 (.t 2)), o 31 (.load 1 false (.t 30)), o 32 (.fad 5 (.t 3)), o 33 (.load 1 false (.t 32)), o 34 (.bin .neq (.t 31) (.t 33))]
 (.ite (.t 34) (sq [o 4 (.mv (.v (.bool false)))]
  .ret)
 .skip))
 (sq [o 4 (.mv (.v (.bool true)))]
 .ret))))))))
noncomputable def X.l_eqKind (p0 : TKind) (p1 : TKind) : Option Bool :=
 (bif (!(p0.Name == p1.Name)) then some false else (bif (p0.Strength != p1.Strength) then some false else (bif (p0.Moves != p1.Moves) then some false else (bif (p0.Steps != p1.Steps) then some false else (bif (!(p0.Zone == p1.Zone)) then some false else (bif (p0.View != p1.View) then some false else some true))))))
theorem l_eqKind_ok (p0 : TKind) (p1 : TKind) (r : Bool) (H : X.l_eqKind p0 p1 = some r) : FnOk Tryz.prog gl 219 [.agg (eTKind p0), .agg (eTKind p1)] (cB r) := by
 unfold X.l_eqKind at H
 refine fi Tryz.f219 l_eqKind_ir [(4, cB r)] [] glL Tryz.func219 ?_
 refine so [] [] [(2, pk 2), (3, pk 3)] [(2, va (eTKind p0)), (3, va (eTKind p1))] id ?_
 refine seq_in ?_
 refine so [] [] [(2, pk 2), (3, pk 3), (9, cB (!(p0.Name == p1.Name)))] [(2, va (eTKind p0)), (3, va (eTKind p1))] id ?_
 rcases ofCond H with ⟨c2, H⟩ | ⟨c2, H⟩
 ·refine it c2 ?_
  refine so [] [] [(4, cB false)] [] id ?_
  refine ends_ret ?_
  cases H
  exact And.intro (.inl rfl) rfl
 ·refine jf c2 ?_
  refine sk ?_
  refine seq_in ?_
  refine so [] [] [(2, pk 2), (3, pk 3), (14, cB (p0.Strength != p1.Strength))] [(2, va (eTKind p0)), (3, va (eTKind p1))] id ?_
  rcases ofCond H with ⟨c4, H⟩ | ⟨c4, H⟩
  ·refine it c4 ?_
   refine so [] [] [(4, cB false)] [] id ?_
   refine ends_ret ?_
   cases H
   exact And.intro (.inl rfl) rfl
  ·refine jf c4 ?_
   refine sk ?_
   refine seq_in ?_
   refine so [] [] [(2, pk 2), (3, pk 3), (19, cB (p0.Moves != p1.Moves))] [(2, va (eTKind p0)), (3, va (eTKind p1))] id ?_
   rcases ofCond H with ⟨c6, H⟩ | ⟨c6, H⟩
   ·refine it c6 ?_
    refine so [] [] [(4, cB false)] [] id ?_
    refine ends_ret ?_
    cases H
    exact And.intro (.inl rfl) rfl
   ·refine jf c6 ?_
    refine sk ?_
    refine seq_in ?_
    refine so [] [] [(2, pk 2), (3, pk 3), (24, cB (p0.Steps != p1.Steps))] [(2, va (eTKind p0)), (3, va (eTKind p1))] id ?_
    rcases ofCond H with ⟨c8, H⟩ | ⟨c8, H⟩
    ·refine it c8 ?_
     refine so [] [] [(4, cB false)] [] id ?_
     refine ends_ret ?_
     cases H
     exact And.intro (.inl rfl) rfl
    ·refine jf c8 ?_
     refine sk ?_
     refine seq_in ?_
     refine so [] [] [(2, pk 2), (3, pk 3), (29, cB (!(p0.Zone == p1.Zone)))] [(2, va (eTKind p0)), (3, va (eTKind p1))] id ?_
     rcases ofCond H with ⟨c10, H⟩ | ⟨c10, H⟩
     ·refine it c10 ?_
      refine so [] [] [(4, cB false)] [] id ?_
      refine ends_ret ?_
      cases H
      exact And.intro (.inl rfl) rfl
     ·refine jf c10 ?_
      refine sk ?_
      refine seq_in ?_
      refine so [] [] [(34, cB (p0.View != p1.View))] [] id ?_
      rcases ofCond H with ⟨c11, H⟩ | ⟨c11, H⟩
      ·refine it c11 ?_
       refine so [] [] [(4, cB false)] [] id ?_
       refine ends_ret ?_
       cases H
       exact And.intro (.inl rfl) rfl
      ·refine jf c11 ?_
       refine sk ?_
       refine so [] [] [(4, cB true)] [] id ?_
       refine ends_ret ?_
       cases H
       exact And.intro (.inl rfl) rfl
def l_eqKindS_ir : S :=
 (sq [o 4 (.mv (.v (.bool false)))]
 (.seq (sq [om 6 0, o 7 (.len (.t 6)), om 8 1, o 9 (.len (.t 8)), o 10 (.bin .neq (.t 7) (.t 9))]
 (.ite (.t 10) (sq [o 4 (.mv (.v (.bool false)))]
  .ret)
 .skip))
 (.seq (sq [o 5 (.mv (iv 0))]
 (.blk 0 (.loop (.seq (sq [om 11 5, om 12 0, o 13 (.len (.t 12)), o 14 (.bin .lss (.t 11) (.t 13))]
   (.ite (.t 14) .skip
   (.exit 0)))
   (.seq (.blk 1 (.seq (.draw 10 [om 17 0, om 18 5, o 19 (.iad 6 (.t 17) (.t 18)), o 20 (.load 6 true (.t 19)), om 21 1, om 22 5, o 23 (.iad 6 (.t 21) (.t 22)), o 24 (.load 6 true (.t 23)), o 25 (.call 219 [.t 20, .t 24]), o 26 (.not (.t 25))])
    (.ite (.t 26) (sq [o 4 (.mv (.v (.bool false)))]
     .ret)
    .skip)))
   (.ops [om 15 5, o 16 (.bin .add (.t 15) (iv 1)), om 5 16]))))))
 (sq [o 4 (.mv (.v (.bool true)))]
 .ret))))
noncomputable def X.l_eqKindS (p0 : (List TKind)) (p1 : (List TKind)) : Option Bool :=
 (bif ((p0.length : Int) != (p1.length : Int)) then some false else ((loop (fun (x22 : Int) => ((bif (decide (x22 < (p0.length : Int))) then ((at' zTKind p0 x22).bind fun v25 => ((at' zTKind p1 x22).bind fun v27 => ((X.l_eqKind v25 v27).bind fun v29 => (bif (!v29) then some (Sum.inr (Sum.inr false)) else some (Sum.inl (W (x22 + 1))))))) else some (Sum.inr (Sum.inl ()))) : Option (Int ⊕ (Unit ⊕ Bool)))) 0).bind fun y32 => (Sum.elim (fun (y34 : Unit) => some true) (fun (y35 : Bool) => some y35) y32)))
theorem l_eqKindS_ok (p0 : (List TKind)) (p1 : (List TKind)) (r : Bool) (H : X.l_eqKindS p0 p1 = some r) : FnOk Tryz.prog gl 161 [.c (dat 6 eTKind zTKind p0), .c (dat 6 eTKind zTKind p1)] (cB r) := by
 unfold X.l_eqKindS at H
 refine fi Tryz.f161 l_eqKindS_ir [(4, cB r)] [] glL Tryz.func161 ?_
 refine so [] [] [(0, dc 6 eTKind zTKind p0), (1, dc 6 eTKind zTKind p1)] [] id ?_
 refine seq_in ?_
 refine so [] [] [(0, dc 6 eTKind zTKind p0), (1, dc 6 eTKind zTKind p1), (10, cB ((p0.length : Int) != (p1.length : Int)))] [] (fun t => lI p0 (lI p1 (t))) ?_
 rcases ofCond H with ⟨c2, H⟩ | ⟨c2, H⟩
 ·refine it c2 ?_
  refine so [] [] [(4, cB false)] [] id ?_
  refine ends_ret ?_
  cases H
  exact And.intro (.inl rfl) rfl
 ·refine jf c2 ?_
  refine sk ?_
  refine seq_in ?_
  refine so [] [] [(0, dc 6 eTKind zTKind p0), (1, dc 6 eTKind zTKind p1), (5, cI 0)] [] id ?_
  refine ends_blk ?_
  obtain ⟨y32, h33, H⟩ := ofBind H
  refine loop_in (fun (x : Int) => lit [(0, dc 6 eTKind zTKind p0), (1, dc 6 eTKind zTKind p1), (5, cI x)] []) (orJ (fun (z : Unit) => At (.exit 0) (lit [] [])) (fun (z : Bool) => At .ret (lit [(4, cB z)] []))) h33 ?_ ?_
  ·clear H h33
   intro x22 y0 H
   refine seq_in ?_
   refine so [] [] [(0, dc 6 eTKind zTKind p0), (1, dc 6 eTKind zTKind p1), (5, cI x22), (14, cB (decide (x22 < (p0.length : Int))))] [] (fun t => lI p0 (t)) ?_
   rcases ofCond H with ⟨c24, H⟩ | ⟨c24, H⟩
   ·refine it c24 ?_
    refine sk ?_
    refine seq_in ?_
    refine ends_blk ?_
    obtain ⟨v25, h26, H⟩ := ofBind H
    obtain ⟨v27, h28, H⟩ := ofBind H
    obtain ⟨v29, h30, H⟩ := ofBind H
    refine sd [.cs (eTKind v25), .cs (eTKind v27), .res (cB v29)] [] [(0, dc 6 eTKind zTKind p0), (1, dc 6 eTKind zTKind p1), (5, cI x22), (26, cB (!v29))] [] (fun t => (a2 eTKind h26 (aI (rfl : ([] : List Nat) = []) ((a2 eTKind h28 (aI (rfl : ([] : List Nat) = []) (aI (l_eqKind_ok v25 v27 v29 h30) (aI trivial (aI (rfl : ([] : List Nat) = []) (t)))))))))) ?_
    rcases ofCond H with ⟨c31, H⟩ | ⟨c31, H⟩
    ·refine it c31 ?_
     refine so [] [] [(4, cB false)] [] id ?_
     refine ends_ret ?_
     cases H
     exact And.intro (by simp) (And.intro rfl rfl)
    ·refine jf c31 ?_
     refine sk ?_
     refine oo [] [] [(0, dc 6 eTKind zTKind p0), (1, dc 6 eTKind zTKind p1), (5, cI (W (x22 + 1)))] [] id ?_
     cases H
     exact And.intro rfl rfl
   ·refine jf c24 ?_
    refine tl [] [] [] id ?_
    refine ends_exit ?_
    cases H
    exact And.intro (by simp) (And.intro rfl rfl)
  ·clear h33
   cases y32 with
   | inl y34 =>
    replace H := ofInl H
    intro e s q
    obtain ⟨rfl, rfl⟩ := q
    change EndsI _ _ _ _ _ _
    refine so [] [] [(4, cB true)] [] id ?_
    refine ends_ret ?_
    cases H
    exact And.intro (.inl rfl) rfl
   | inr y35 =>
    replace H := ofInr H
    intro e s q
    obtain ⟨rfl, rfl⟩ := q
    cases H
    exact And.intro (.inl rfl) rfl
def l_eqRules_ir : S :=
 (sq [o 2 (.box 7 (.t 0)), o 3 (.box 7 (.t 1)), o 4 (.mv (.v (.bool false)))]
 (.seq (sq [o 5 (.fad 0 (.t 2)), o 6 (.load 1 false (.t 5)), o 7 (.fad 0 (.t 3)), o 8 (.load 1 false (.t 7)), o 9 (.call 160 [.t 6, .t 8]), o 10 (.not (.t 9))]
 (.ite (.t 10) (sq [o 4 (.mv (.v (.bool false)))]
  .ret)
 .skip))
 (.seq (sq [o 11 (.fad 1 (.t 2)), o 12 (.load 1 false (.t 11)), o 13 (.fad 1 (.t 3)), o 14 (.load 1 false (.t 13)), o 15 (.call 161 [.t 12, .t 14]), o 16 (.not (.t 15))]
 (.ite (.t 16) (sq [o 4 (.mv (.v (.bool false)))]
  .ret)
 .skip))
 (.seq (sq [o 17 (.fad 2 (.t 2)), o 18 (.load 1 false (.t 17)), o 19 (.fad 2 (.t 3)), o 20 (.load 1 false (.t 19)), o 21 (.bin .neq (.t 18) (.t 20))]
 (.ite (.t 21) (sq [o 4 (.mv (.v (.bool false)))]
  .ret)
 .skip))
 (.seq (sq [o 22 (.fad 3 (.t 2)), o 23 (.load 1 false (.t 22)), o 24 (.fad 3 (.t 3)), o 25 (.load 1 false (.t 24)), o 26 (.bin .neq (.t 23) (.t 25))]
 (.ite (.t 26) (sq [o 4 (.mv (.v (.bool false)))]
  .ret)
 .skip))
 (.seq (sq [o 27 (.fad 4 (.t 2)), o 28 (.load 1 false (.t 27)), o 29 (.fad 4 (.t 3)), o 30 (.load 1 false (.t 29)), o 31 (.bin .neq (.t 28) (.t 30))]
 (.ite (.t 31) (sq [o 4 (.mv (.v (.bool false)))]
  .ret)
 .skip))
 (.seq (sq [o 32 (.fad 5 (.t 2)), o 33 (.load 1 false (.t 32)), o 34 (.fad 5 (.t 3)), o 35 (.load 1 false (.t 34)), o 36 (.bin .neq (.t 33) (.t 35))]
 (.ite (.t 36) (sq [o 4 (.mv (.v (.bool false)))]
  .ret)
 .skip))
 (.seq (sq [o 37 (.fad 6 (.t 2)), o 38 (.load 1 false (.t 37)), o 39 (.fad 6 (.t 3)), o 40 (.load 1 false (.t 39)), o 41 (.bin .neq (.t 38) (.t 40))]
 (.ite (.t 41) (sq [o 4 (.mv (.v (.bool false)))]
  .ret)
 .skip))
 (sq [o 4 (.mv (.v (.bool true)))]
 .ret)))))))))
noncomputable def X.l_eqRules (p0 : TRules) (p1 : TRules) : Option Bool :=
 ((X.l_eqTerrainS p0.Terrains p1.Terrains).bind fun v4 => (bif (!v4) then some false else ((X.l_eqKindS p0.Kinds p1.Kinds).bind fun v10 => (bif (!v10) then some false else (bif (p0.Stack != p1.Stack) then some false else (bif (p0.River != p1.River) then some false else (bif (p0.Road != p1.Road) then some false else (bif (p0.Supply != p1.Supply) then some false else (bif (p0.Turns != p1.Turns) then some false else some true)))))))))
theorem l_eqRules_ok (p0 : TRules) (p1 : TRules) (r : Bool) (H : X.l_eqRules p0 p1 = some r) : FnOk Tryz.prog gl 71 [.agg (eTRules p0), .agg (eTRules p1)] (cB r) := by
 unfold X.l_eqRules at H
 refine fi Tryz.f71 l_eqRules_ir [(4, cB r)] [] glL Tryz.func71 ?_
 refine so [] [] [(2, pk 2), (3, pk 3)] [(2, va (eTRules p0)), (3, va (eTRules p1))] id ?_
 refine seq_in ?_
 obtain ⟨v4, h5, H⟩ := ofBind H
 refine so [.res (cB v4)] [] [(2, pk 2), (3, pk 3), (10, cB (!v4))] [(2, va (eTRules p0)), (3, va (eTRules p1))] (aI (l_eqTerrainS_ok p0.Terrains p1.Terrains v4 h5)) ?_
 rcases ofCond H with ⟨c6, H⟩ | ⟨c6, H⟩
 ·refine it c6 ?_
  refine so [] [] [(4, cB false)] [] id ?_
  refine ends_ret ?_
  cases H
  exact And.intro (.inl rfl) rfl
 ·refine jf c6 ?_
  refine sk ?_
  refine seq_in ?_
  obtain ⟨v10, h11, H⟩ := ofBind H
  refine so [.res (cB v10)] [] [(2, pk 2), (3, pk 3), (16, cB (!v10))] [(2, va (eTRules p0)), (3, va (eTRules p1))] (aI (l_eqKindS_ok p0.Kinds p1.Kinds v10 h11)) ?_
  rcases ofCond H with ⟨c12, H⟩ | ⟨c12, H⟩
  ·refine it c12 ?_
   refine so [] [] [(4, cB false)] [] id ?_
   refine ends_ret ?_
   cases H
   exact And.intro (.inl rfl) rfl
  ·refine jf c12 ?_
   refine sk ?_
   refine seq_in ?_
   refine so [] [] [(2, pk 2), (3, pk 3), (21, cB (p0.Stack != p1.Stack))] [(2, va (eTRules p0)), (3, va (eTRules p1))] id ?_
   rcases ofCond H with ⟨c14, H⟩ | ⟨c14, H⟩
   ·refine it c14 ?_
    refine so [] [] [(4, cB false)] [] id ?_
    refine ends_ret ?_
    cases H
    exact And.intro (.inl rfl) rfl
   ·refine jf c14 ?_
    refine sk ?_
    refine seq_in ?_
    refine so [] [] [(2, pk 2), (3, pk 3), (26, cB (p0.River != p1.River))] [(2, va (eTRules p0)), (3, va (eTRules p1))] id ?_
    rcases ofCond H with ⟨c16, H⟩ | ⟨c16, H⟩
    ·refine it c16 ?_
     refine so [] [] [(4, cB false)] [] id ?_
     refine ends_ret ?_
     cases H
     exact And.intro (.inl rfl) rfl
    ·refine jf c16 ?_
     refine sk ?_
     refine seq_in ?_
     refine so [] [] [(2, pk 2), (3, pk 3), (31, cB (p0.Road != p1.Road))] [(2, va (eTRules p0)), (3, va (eTRules p1))] id ?_
     rcases ofCond H with ⟨c18, H⟩ | ⟨c18, H⟩
     ·refine it c18 ?_
      refine so [] [] [(4, cB false)] [] id ?_
      refine ends_ret ?_
      cases H
      exact And.intro (.inl rfl) rfl
     ·refine jf c18 ?_
      refine sk ?_
      refine seq_in ?_
      refine so [] [] [(2, pk 2), (3, pk 3), (36, cB (p0.Supply != p1.Supply))] [(2, va (eTRules p0)), (3, va (eTRules p1))] id ?_
      rcases ofCond H with ⟨c20, H⟩ | ⟨c20, H⟩
      ·refine it c20 ?_
       refine so [] [] [(4, cB false)] [] id ?_
       refine ends_ret ?_
       cases H
       exact And.intro (.inl rfl) rfl
      ·refine jf c20 ?_
       refine sk ?_
       refine seq_in ?_
       refine so [] [] [(41, cB (p0.Turns != p1.Turns))] [] id ?_
       rcases ofCond H with ⟨c21, H⟩ | ⟨c21, H⟩
       ·refine it c21 ?_
        refine so [] [] [(4, cB false)] [] id ?_
        refine ends_ret ?_
        cases H
        exact And.intro (.inl rfl) rfl
       ·refine jf c21 ?_
        refine sk ?_
        refine so [] [] [(4, cB true)] [] id ?_
        refine ends_ret ?_
        cases H
        exact And.intro (.inl rfl) rfl
def l_eqMap_ir : S :=
 (sq [o 2 (.box 5 (.t 0)), o 3 (.box 5 (.t 1)), o 4 (.mv (.v (.bool false)))]
 (.seq (sq [o 5 (.fad 0 (.t 2)), o 6 (.load 1 false (.t 5)), o 7 (.fad 0 (.t 3)), o 8 (.load 1 false (.t 7)), o 9 (.bin .neq (.t 6) (.t 8))]
 (.ite (.t 9) (sq [o 4 (.mv (.v (.bool false)))]
  .ret)
 .skip))
 (.seq (sq [o 10 (.fad 1 (.t 2)), o 11 (.load 1 false (.t 10)), o 12 (.fad 1 (.t 3)), o 13 (.load 1 false (.t 12)), o 14 (.bin .neq (.t 11) (.t 13))]
 (.ite (.t 14) (sq [o 4 (.mv (.v (.bool false)))]
  .ret)
 .skip))
 (.seq (sq [o 15 (.fad 2 (.t 2)), o 16 (.load 1 false (.t 15)), o 17 (.fad 2 (.t 3)), o 18 (.load 1 false (.t 17)), o 19 (.call 31 [.t 16, .t 18]), o 20 (.not (.t 19))]
 (.ite (.t 20) (sq [o 4 (.mv (.v (.bool false)))]
  .ret)
 .skip))
 (.seq (sq [o 21 (.fad 3 (.t 2)), o 22 (.load 1 false (.t 21)), o 23 (.fad 3 (.t 3)), o 24 (.load 1 false (.t 23)), o 25 (.call 31 [.t 22, .t 24]), o 26 (.not (.t 25))]
 (.ite (.t 26) (sq [o 4 (.mv (.v (.bool false)))]
  .ret)
 .skip))
 (.seq (sq [o 27 (.fad 4 (.t 2)), o 28 (.load 1 false (.t 27)), o 29 (.fad 4 (.t 3)), o 30 (.load 1 false (.t 29)), o 31 (.call 31 [.t 28, .t 30]), o 32 (.not (.t 31))]
 (.ite (.t 32) (sq [o 4 (.mv (.v (.bool false)))]
  .ret)
 .skip))
 (sq [o 4 (.mv (.v (.bool true)))]
 .ret)))))))
noncomputable def X.l_eqMap (p0 : TMap) (p1 : TMap) : Option Bool :=
 (bif (p0.Width != p1.Width) then some false else (bif (p0.Height != p1.Height) then some false else ((X.l_eqIntS p0.Terrain p1.Terrain).bind fun v8 => (bif (!v8) then some false else ((X.l_eqIntS p0.Rivers p1.Rivers).bind fun v14 => (bif (!v14) then some false else ((X.l_eqIntS p0.Roads p1.Roads).bind fun v17 => (bif (!v17) then some false else some true))))))))
theorem l_eqMap_ok (p0 : TMap) (p1 : TMap) (r : Bool) (H : X.l_eqMap p0 p1 = some r) : FnOk Tryz.prog gl 72 [.agg (eTMap p0), .agg (eTMap p1)] (cB r) := by
 unfold X.l_eqMap at H
 refine fi Tryz.f72 l_eqMap_ir [(4, cB r)] [] glL Tryz.func72 ?_
 refine so [] [] [(2, pk 2), (3, pk 3)] [(2, va (eTMap p0)), (3, va (eTMap p1))] id ?_
 refine seq_in ?_
 refine so [] [] [(2, pk 2), (3, pk 3), (9, cB (p0.Width != p1.Width))] [(2, va (eTMap p0)), (3, va (eTMap p1))] id ?_
 rcases ofCond H with ⟨c2, H⟩ | ⟨c2, H⟩
 ·refine it c2 ?_
  refine so [] [] [(4, cB false)] [] id ?_
  refine ends_ret ?_
  cases H
  exact And.intro (.inl rfl) rfl
 ·refine jf c2 ?_
  refine sk ?_
  refine seq_in ?_
  refine so [] [] [(2, pk 2), (3, pk 3), (14, cB (p0.Height != p1.Height))] [(2, va (eTMap p0)), (3, va (eTMap p1))] id ?_
  rcases ofCond H with ⟨c4, H⟩ | ⟨c4, H⟩
  ·refine it c4 ?_
   refine so [] [] [(4, cB false)] [] id ?_
   refine ends_ret ?_
   cases H
   exact And.intro (.inl rfl) rfl
  ·refine jf c4 ?_
   refine sk ?_
   refine seq_in ?_
   obtain ⟨v8, h9, H⟩ := ofBind H
   refine so [.res (cB v8)] [] [(2, pk 2), (3, pk 3), (20, cB (!v8))] [(2, va (eTMap p0)), (3, va (eTMap p1))] (aI (l_eqIntS_ok p0.Terrain p1.Terrain v8 h9)) ?_
   rcases ofCond H with ⟨c10, H⟩ | ⟨c10, H⟩
   ·refine it c10 ?_
    refine so [] [] [(4, cB false)] [] id ?_
    refine ends_ret ?_
    cases H
    exact And.intro (.inl rfl) rfl
   ·refine jf c10 ?_
    refine sk ?_
    refine seq_in ?_
    obtain ⟨v14, h15, H⟩ := ofBind H
    refine so [.res (cB v14)] [] [(2, pk 2), (3, pk 3), (26, cB (!v14))] [(2, va (eTMap p0)), (3, va (eTMap p1))] (aI (l_eqIntS_ok p0.Rivers p1.Rivers v14 h15)) ?_
    rcases ofCond H with ⟨c16, H⟩ | ⟨c16, H⟩
    ·refine it c16 ?_
     refine so [] [] [(4, cB false)] [] id ?_
     refine ends_ret ?_
     cases H
     exact And.intro (.inl rfl) rfl
    ·refine jf c16 ?_
     refine sk ?_
     refine seq_in ?_
     obtain ⟨v17, h18, H⟩ := ofBind H
     refine so [.res (cB v17)] [] [(32, cB (!v17))] [] (aI (l_eqIntS_ok p0.Roads p1.Roads v17 h18)) ?_
     rcases ofCond H with ⟨c19, H⟩ | ⟨c19, H⟩
     ·refine it c19 ?_
      refine so [] [] [(4, cB false)] [] id ?_
      refine ends_ret ?_
      cases H
      exact And.intro (.inl rfl) rfl
     ·refine jf c19 ?_
      refine sk ?_
      refine so [] [] [(4, cB true)] [] id ?_
      refine ends_ret ?_
      cases H
      exact And.intro (.inl rfl) rfl
def l_eqBoard_ir : S :=
 (sq [o 2 (.box 12 (.t 0)), o 3 (.box 12 (.t 1)), o 4 (.mv (.v (.bool false)))]
 (.seq (sq [o 5 (.fad 0 (.t 2)), o 6 (.load 7 true (.t 5)), o 7 (.fad 0 (.t 3)), o 8 (.load 7 true (.t 7)), o 9 (.call 71 [.t 6, .t 8]), o 10 (.not (.t 9))]
 (.ite (.t 10) (sq [o 4 (.mv (.v (.bool false)))]
  .ret)
 .skip))
 (.seq (sq [o 11 (.fad 7 (.t 2)), o 12 (.load 5 true (.t 11)), o 13 (.fad 7 (.t 3)), o 14 (.load 5 true (.t 13)), o 15 (.call 72 [.t 12, .t 14]), o 16 (.not (.t 15))]
 (.ite (.t 16) (sq [o 4 (.mv (.v (.bool false)))]
  .ret)
 .skip))
 (sq [o 4 (.mv (.v (.bool true)))]
 .ret))))
noncomputable def X.l_eqBoard (p0 : TBoard) (p1 : TBoard) : Option Bool :=
 ((X.l_eqRules p0.Rules p1.Rules).bind fun v4 => (bif (!v4) then some false else ((X.l_eqMap p0.Map p1.Map).bind fun v7 => (bif (!v7) then some false else some true))))
theorem l_eqBoard_ok (p0 : TBoard) (p1 : TBoard) (r : Bool) (H : X.l_eqBoard p0 p1 = some r) : FnOk Tryz.prog gl 15 [.agg (eTBoard p0), .agg (eTBoard p1)] (cB r) := by
 unfold X.l_eqBoard at H
 refine fi Tryz.f15 l_eqBoard_ir [(4, cB r)] [] glL Tryz.func15 ?_
 refine so [] [] [(2, pk 2), (3, pk 3)] [(2, va (eTBoard p0)), (3, va (eTBoard p1))] id ?_
 refine seq_in ?_
 obtain ⟨v4, h5, H⟩ := ofBind H
 refine so [.res (cB v4)] [] [(2, pk 2), (3, pk 3), (10, cB (!v4))] [(2, va (eTBoard p0)), (3, va (eTBoard p1))] (aI (l_eqRules_ok p0.Rules p1.Rules v4 h5)) ?_
 rcases ofCond H with ⟨c6, H⟩ | ⟨c6, H⟩
 ·refine it c6 ?_
  refine so [] [] [(4, cB false)] [] id ?_
  refine ends_ret ?_
  cases H
  exact And.intro (.inl rfl) rfl
 ·refine jf c6 ?_
  refine sk ?_
  refine seq_in ?_
  obtain ⟨v7, h8, H⟩ := ofBind H
  refine so [.res (cB v7)] [] [(16, cB (!v7))] [] (aI (l_eqMap_ok p0.Map p1.Map v7 h8)) ?_
  rcases ofCond H with ⟨c9, H⟩ | ⟨c9, H⟩
  ·refine it c9 ?_
   refine so [] [] [(4, cB false)] [] id ?_
   refine ends_ret ?_
   cases H
   exact And.intro (.inl rfl) rfl
  ·refine jf c9 ?_
   refine sk ?_
   refine so [] [] [(4, cB true)] [] id ?_
   refine ends_ret ?_
   cases H
   exact And.intro (.inl rfl) rfl
def l_markIntS_ir : S :=
 (sq [o 4 (.mv (iv 0))]
 (.seq (sq [o 5 (.mv (iv 0))]
 (.blk 0 (.loop (.seq (sq [om 6 5, om 7 0, o 8 (.len (.t 7)), o 9 (.bin .lss (.t 6) (.t 8))]
   (.ite (.t 9) .skip
   (.exit 0)))
   (.seq (.blk 1 (sq [om 12 0, om 13 5, om 14 1, o 15 (.iad 1 (.t 12) (.t 13)), ⟨none, .store 1 (.t 15) (.t 14), none⟩]
    (.ops [om 16 1, o 17 (.bin .add (.t 16) (iv 1)), om 1 17])))
   (.ops [om 10 5, o 11 (.bin .add (.t 10) (iv 1)), om 5 11]))))))
 (sq [om 18 1, om 4 18]
 .ret)))
noncomputable def X.l_markIntS_L (p0 : (List Int)) (p1 : Int) : Option Int :=
 ((loop (fun (x10 : (Int × Int)) => ((bif (decide (x10.2 < (p0.length : Int))) then ((at' zI p0 x10.2).bind fun v13 => some (Sum.inl ((W (x10.1 + 1)), (W (x10.2 + 1))))) else some (Sum.inr x10.1)) : Option ((Int × Int) ⊕ Int))) (p1, 0)).bind fun y15 => some y15)
theorem l_markIntS_L_ok (p0 : (List Int)) (p1 : Int) (r : Int) (H : X.l_markIntS_L p0 p1 = some r) : FnOk Tryz.prog gl 32 [.c (.lv (dat 1 eI zI p0)), cI p1] (cI r) := by
 unfold X.l_markIntS_L at H
 refine fi Tryz.f32 l_markIntS_ir [(4, cI r)] [] glL Tryz.func32 ?_
 refine so [] [] [(0, .c (.lv (dat 1 eI zI p0))), (1, cI p1)] [] id ?_
 refine seq_in ?_
 refine so [] [] [(0, .c (.lv (dat 1 eI zI p0))), (1, cI p1), (5, cI 0)] [] id ?_
 refine ends_blk ?_
 obtain ⟨y15, h16, H⟩ := ofBind H
 refine loop_in (fun (x : (Int × Int)) => lit [(0, .c (.lv (dat 1 eI zI p0))), (1, cI x.1), (5, cI x.2)] []) (fun (z : Int) => At (.exit 0) (lit [(1, cI z)] [])) h16 ?_ ?_
 ·clear H h16
  intro x10 y0 H
  refine seq_in ?_
  refine so [] [] [(0, .c (.lv (dat 1 eI zI p0))), (1, cI x10.1), (5, cI x10.2), (9, cB (decide (x10.2 < (p0.length : Int))))] [] (fun t => lI p0 (t)) ?_
  rcases ofCond H with ⟨c12, H⟩ | ⟨c12, H⟩
  ·refine it c12 ?_
   refine sk ?_
   refine seq_in ?_
   refine ends_blk ?_
   obtain ⟨v13, h14, H⟩ := ofBind H
   refine so [.cs (eI v13)] [] [(0, .c (.lv (dat 1 eI zI p0))), (1, cI x10.1), (5, cI x10.2)] [] (fun t => (a2 eI h14 (aI (rfl : true = true) (t)))) ?_
   refine oo [] [] [(0, .c (.lv (dat 1 eI zI p0))), (1, cI (W (x10.1 + 1))), (5, cI x10.2)] [] id ?_
   change EndsI _ _ _ _ _ _
   refine oo [] [] [(0, .c (.lv (dat 1 eI zI p0))), (1, cI (W (x10.1 + 1))), (5, cI (W (x10.2 + 1)))] [] id ?_
   cases H
   exact And.intro rfl rfl
  ·refine jf c12 ?_
   refine tl [] [(1, cI x10.1)] [] id ?_
   refine ends_exit ?_
   cases H
   exact And.intro (by simp) (And.intro rfl rfl)
 ·clear h16
  intro e s q
  obtain ⟨rfl, rfl⟩ := q
  change EndsI _ _ _ _ _ _
  refine so [] [] [(4, cI y15)] [] id ?_
  refine ends_ret ?_
  cases H
  exact And.intro (.inl rfl) rfl
def l_markText_ir : S :=
 (sq [o 2 (.mv (.v (.str [])))]
 (.seq (sq [om 4 0, o 5 (.bin .leq (.t 4) (iv 0))]
 (.ite (.t 5) (sq [o 2 (.mv (.v (.str [109, 48])))]
  .ret)
 .skip))
 (sq [o 3 (.mv (.v (.str [])))]
 (.seq (.blk 0 (.loop (.seq (sq [om 6 0, o 7 (.bin .gtr (.t 6) (iv 0))]
   (.ite (.t 7) .skip
   (.exit 0)))
   (.blk 1 (sq [om 8 0, o 9 (.bin .rem (.t 8) (iv 10)), o 10 (.bin .add (iv 48) (.t 9)), o 11 (.conv .u8 (.t 10)), o 12 (.bsl 1 [.t 11]), o 13 (.b2s (.t 12)), om 14 3, o 15 (.bin .add (.t 13) (.t 14)), om 3 15]
    (.ops [om 16 0, o 17 (.bin .quo (.t 16) (iv 10)), om 0 17]))))))
 (sq [om 18 3, o 19 (.bin .add (.v (.str [109])) (.t 18)), om 2 19]
 .ret)))))
noncomputable def X.l_markText (p0 : Int) : Option (List UInt8) :=
 (bif (decide (p0 ≤ 0)) then some [109, 48] else ((loop (fun (x12 : (Int × (List UInt8))) => ((bif (decide (x12.1 > 0)) then (if ([(IntKind.u8.wrap (W (48 + (Int.tmod x12.1 10))))] : List Int).all inU8 = true then (if (bytesOf ([(IntKind.u8.wrap (W (48 + (Int.tmod x12.1 10))))] : List Int)).length + x12.2.length ≤ maxLen then some (Sum.inl ((W (Int.tdiv x12.1 10)), ((bytesOf ([(IntKind.u8.wrap (W (48 + (Int.tmod x12.1 10))))] : List Int)) ++ x12.2))) else none) else none) else some (Sum.inr x12.2)) : Option ((Int × (List UInt8)) ⊕ (List UInt8)))) (p0, [])).bind fun y17 => (if ([109] : List UInt8).length + y17.length ≤ maxLen then some (([109] : List UInt8) ++ y17) else none)))
theorem l_markText_ok (p0 : Int) (r : (List UInt8)) (H : X.l_markText p0 = some r) : FnOk Tryz.prog gl 220 [cI p0] (.c (.str r)) := by
 unfold X.l_markText at H
 refine fi Tryz.f220 l_markText_ir [(2, .c (.str r))] [] glL Tryz.func220 ?_
 refine so [] [] [(0, cI p0)] [] id ?_
 refine seq_in ?_
 refine so [] [] [(0, cI p0), (5, cB (decide (p0 ≤ 0)))] [] id ?_
 rcases ofCond H with ⟨c2, H⟩ | ⟨c2, H⟩
 ·refine it c2 ?_
  refine so [] [] [(2, .c (.str [109, 48]))] [] id ?_
  refine ends_ret ?_
  cases H
  exact And.intro (.inl rfl) rfl
 ·refine jf c2 ?_
  refine sk ?_
  refine so [] [] [(0, cI p0), (3, .c (.str []))] [] id ?_
  refine seq_in ?_
  refine ends_blk ?_
  obtain ⟨y17, h18, H⟩ := ofBind H
  refine loop_in (fun (x : (Int × (List UInt8))) => lit [(0, cI x.1), (3, .c (.str x.2))] []) (fun (z : (List UInt8)) => At (.exit 0) (lit [(3, .c (.str z))] [])) h18 ?_ ?_
  ·clear H h18
   intro x12 y0 H
   refine seq_in ?_
   refine so [] [] [(0, cI x12.1), (3, .c (.str x12.2)), (7, cB (decide (x12.1 > 0)))] [] id ?_
   rcases ofCond H with ⟨c14, H⟩ | ⟨c14, H⟩
   ·refine it c14 ?_
    refine sk ?_
    refine ends_blk ?_
    obtain ⟨g15, H⟩ := ofIf H
    obtain ⟨g16, H⟩ := ofIf H
    refine so [fh eU zI ([(IntKind.u8.wrap (W (48 + (Int.tmod x12.1 10))))] : List Int), .str (bytesOf ([(IntKind.u8.wrap (W (48 + (Int.tmod x12.1 10))))] : List Int))] [] [(0, cI x12.1), (3, .c (.str ((bytesOf ([(IntKind.u8.wrap (W (48 + (Int.tmod x12.1 10))))] : List Int)) ++ x12.2)))] [] (fun t => aI (by decide : (10 : Int) ≠ 0) (aI (rfl : ([(IntKind.u8.wrap (W (48 + (Int.tmod x12.1 10))))] : List Int).length = 1) (aI (fF_lit eU zI ([(IntKind.u8.wrap (W (48 + (Int.tmod x12.1 10))))] : List Int)) (aI (Nat.le_refl (([(IntKind.u8.wrap (W (48 + (Int.tmod x12.1 10))))] : List Int).length)) (aI (bytesOf_len ([(IntKind.u8.wrap (W (48 + (Int.tmod x12.1 10))))] : List Int)) (aI (bytesOf_at ([(IntKind.u8.wrap (W (48 + (Int.tmod x12.1 10))))] : List Int) g15) (aI g16 (t)))))))) ?_
    refine oo [] [] [(0, cI (W (Int.tdiv x12.1 10))), (3, .c (.str ((bytesOf ([(IntKind.u8.wrap (W (48 + (Int.tmod x12.1 10))))] : List Int)) ++ x12.2)))] [] (aI (by decide : (10 : Int) ≠ 0)) ?_
    cases H
    exact And.intro rfl rfl
   ·refine jf c14 ?_
    refine tl [] [(3, .c (.str x12.2))] [] id ?_
    refine ends_exit ?_
    cases H
    exact And.intro (by simp) (And.intro rfl rfl)
  ·clear h18
   intro e s q
   obtain ⟨rfl, rfl⟩ := q
   change EndsI _ _ _ _ _ _
   obtain ⟨g19, H⟩ := ofIf H
   refine so [] [] [(2, .c (.str (([109] : List UInt8) ++ y17)))] [] (fun t => aI g19 (t)) ?_
   refine ends_ret ?_
   cases H
   exact And.intro (.inl rfl) rfl
def l_markTerrainS_ir : S :=
 (sq [o 4 (.mv (iv 0))]
 (.seq (sq [o 5 (.mv (iv 0))]
 (.blk 0 (.loop (.seq (sq [om 6 5, om 7 0, o 8 (.len (.t 7)), o 9 (.bin .lss (.t 6) (.t 8))]
   (.ite (.t 9) .skip
   (.exit 0)))
   (.seq (.blk 1 (sq [om 12 0, om 13 5, om 14 1, o 15 (.call 220 [.t 14]), o 16 (.iad 5 (.t 12) (.t 13)), o 17 (.fad 0 (.t 16)), ⟨none, .store 1 (.t 17) (.t 15), none⟩]
    (sq [om 18 1, o 19 (.bin .add (.t 18) (iv 1)), om 1 19]
    (sq [om 20 0, om 21 5, o 22 (.iad 5 (.t 20) (.t 21)), o 23 (.fad 1 (.t 22)), o 24 (.load 1 false (.t 23)), om 25 1, o 26 (.call 32 [.t 24, .t 25]), om 1 26]
    (sq [om 27 0, om 28 5, om 29 1, o 30 (.iad 5 (.t 27) (.t 28)), o 31 (.fad 2 (.t 30)), ⟨none, .store 1 (.t 31) (.t 29), none⟩]
    (sq [om 32 1, o 33 (.bin .add (.t 32) (iv 1)), om 1 33]
    (sq [om 34 0, om 35 5, om 36 1, o 37 (.iad 5 (.t 34) (.t 35)), o 38 (.fad 3 (.t 37)), ⟨none, .store 1 (.t 38) (.t 36), none⟩]
    (sq [om 39 1, o 40 (.bin .add (.t 39) (iv 1)), om 1 40]
    (sq [om 41 0, om 42 5, om 43 1, o 44 (.bin .rem (.t 43) (iv 3)), o 45 (.bin .eql (.t 44) (iv 0)), o 46 (.iad 5 (.t 41) (.t 42)), o 47 (.fad 4 (.t 46)), ⟨none, .store 1 (.t 47) (.t 45), none⟩]
    (.ops [om 48 1, o 49 (.bin .add (.t 48) (iv 1)), om 1 49]))))))))))
   (.ops [om 10 5, o 11 (.bin .add (.t 10) (iv 1)), om 5 11]))))))
 (sq [om 50 1, om 4 50]
 .ret)))
noncomputable def X.l_markTerrainS_L (p0 : (List TTerrain)) (p1 : Int) : Option Int :=
 ((loop (fun (x18 : (Int × Int)) => ((bif (decide (x18.2 < (p0.length : Int))) then ((X.l_markText x18.1).bind fun v21 => ((at' zTTerrain p0 x18.2).bind fun v23 => ((X.l_markIntS_L v23.Cost (W (x18.1 + 1))).bind fun v25 => some (Sum.inl ((W ((W ((W (v25 + 1)) + 1)) + 1)), (W (x18.2 + 1))))))) else some (Sum.inr x18.1)) : Option ((Int × Int) ⊕ Int))) (p1, 0)).bind fun y27 => some y27)
theorem l_markTerrainS_L_ok (p0 : (List TTerrain)) (p1 : Int) (r : Int) (H : X.l_markTerrainS_L p0 p1 = some r) : FnOk Tryz.prog gl 162 [.c (.lv (dat 5 eTTerrain zTTerrain p0)), cI p1] (cI r) := by
 unfold X.l_markTerrainS_L at H
 refine fi Tryz.f162 l_markTerrainS_ir [(4, cI r)] [] glL Tryz.func162 ?_
 refine so [] [] [(0, .c (.lv (dat 5 eTTerrain zTTerrain p0))), (1, cI p1)] [] id ?_
 refine seq_in ?_
 refine so [] [] [(0, .c (.lv (dat 5 eTTerrain zTTerrain p0))), (1, cI p1), (5, cI 0)] [] id ?_
 refine ends_blk ?_
 obtain ⟨y27, h28, H⟩ := ofBind H
 refine loop_in (fun (x : (Int × Int)) => lit [(0, .c (.lv (dat 5 eTTerrain zTTerrain p0))), (1, cI x.1), (5, cI x.2)] []) (fun (z : Int) => At (.exit 0) (lit [(1, cI z)] [])) h28 ?_ ?_
 ·clear H h28
  intro x18 y0 H
  refine seq_in ?_
  refine so [] [] [(0, .c (.lv (dat 5 eTTerrain zTTerrain p0))), (1, cI x18.1), (5, cI x18.2), (9, cB (decide (x18.2 < (p0.length : Int))))] [] (fun t => lI p0 (t)) ?_
  rcases ofCond H with ⟨c20, H⟩ | ⟨c20, H⟩
  ·refine it c20 ?_
   refine sk ?_
   refine seq_in ?_
   refine ends_blk ?_
   obtain ⟨v21, h22, H⟩ := ofBind H
   obtain ⟨v23, h24, H⟩ := ofBind H
   refine so [.res (.c (.str v21)), .cs (eTTerrain v23)] [] [(0, .c (.lv (dat 5 eTTerrain zTTerrain p0))), (1, cI x18.1), (5, cI x18.2)] [] (fun t => aI (l_markText_ok x18.1 v21 h22) ((a2 eTTerrain h24 (aI (rfl : true = true) (t))))) ?_
   refine so [] [] [(0, .c (.lv (dat 5 eTTerrain zTTerrain p0))), (1, cI (W (x18.1 + 1))), (5, cI x18.2)] [] id ?_
   obtain ⟨v25, h26, H⟩ := ofBind H
   refine so [.cs (eTTerrain v23), .res (cI v25)] [] [(0, .c (.lv (dat 5 eTTerrain zTTerrain p0))), (1, cI v25), (5, cI x18.2)] [] (fun t => (a2 eTTerrain h24 (aI (l_markIntS_L_ok v23.Cost (W (x18.1 + 1)) v25 h26) (t)))) ?_
   refine so [.cs (eTTerrain v23)] [] [(0, .c (.lv (dat 5 eTTerrain zTTerrain p0))), (1, cI v25), (5, cI x18.2)] [] (fun t => (a2 eTTerrain h24 (aI (rfl : true = true) (t)))) ?_
   refine so [] [] [(0, .c (.lv (dat 5 eTTerrain zTTerrain p0))), (1, cI (W (v25 + 1))), (5, cI x18.2)] [] id ?_
   refine so [.cs (eTTerrain v23)] [] [(0, .c (.lv (dat 5 eTTerrain zTTerrain p0))), (1, cI (W (v25 + 1))), (5, cI x18.2)] [] (fun t => (a2 eTTerrain h24 (aI (rfl : true = true) (t)))) ?_
   refine so [] [] [(0, .c (.lv (dat 5 eTTerrain zTTerrain p0))), (1, cI (W ((W (v25 + 1)) + 1))), (5, cI x18.2)] [] id ?_
   refine so [.cs (eTTerrain v23)] [] [(0, .c (.lv (dat 5 eTTerrain zTTerrain p0))), (1, cI (W ((W (v25 + 1)) + 1))), (5, cI x18.2)] [] (fun t => aI (by decide : (3 : Int) ≠ 0) ((a2 eTTerrain h24 (aI (rfl : true = true) (t))))) ?_
   refine oo [] [] [(0, .c (.lv (dat 5 eTTerrain zTTerrain p0))), (1, cI (W ((W ((W (v25 + 1)) + 1)) + 1))), (5, cI x18.2)] [] id ?_
   change EndsI _ _ _ _ _ _
   refine oo [] [] [(0, .c (.lv (dat 5 eTTerrain zTTerrain p0))), (1, cI (W ((W ((W (v25 + 1)) + 1)) + 1))), (5, cI (W (x18.2 + 1)))] [] id ?_
   cases H
   exact And.intro rfl rfl
  ·refine jf c20 ?_
   refine tl [] [(1, cI x18.1)] [] id ?_
   refine ends_exit ?_
   cases H
   exact And.intro (by simp) (And.intro rfl rfl)
 ·clear h28
  intro e s q
  obtain ⟨rfl, rfl⟩ := q
  change EndsI _ _ _ _ _ _
  refine so [] [] [(4, cI y27)] [] id ?_
  refine ends_ret ?_
  cases H
  exact And.intro (.inl rfl) rfl
def l_markKindS_ir : S :=
 (sq [o 4 (.mv (iv 0))]
 (.seq (sq [o 5 (.mv (iv 0))]
 (.blk 0 (.loop (.seq (sq [om 6 5, om 7 0, o 8 (.len (.t 7)), o 9 (.bin .lss (.t 6) (.t 8))]
   (.ite (.t 9) .skip
   (.exit 0)))
   (.seq (.blk 1 (sq [om 12 0, om 13 5, om 14 1, o 15 (.call 220 [.t 14]), o 16 (.iad 6 (.t 12) (.t 13)), o 17 (.fad 0 (.t 16)), ⟨none, .store 1 (.t 17) (.t 15), none⟩]
    (sq [om 18 1, o 19 (.bin .add (.t 18) (iv 1)), om 1 19]
    (sq [om 20 0, om 21 5, om 22 1, o 23 (.iad 6 (.t 20) (.t 21)), o 24 (.fad 1 (.t 23)), ⟨none, .store 1 (.t 24) (.t 22), none⟩]
    (sq [om 25 1, o 26 (.bin .add (.t 25) (iv 1)), om 1 26]
    (sq [om 27 0, om 28 5, om 29 1, o 30 (.iad 6 (.t 27) (.t 28)), o 31 (.fad 2 (.t 30)), ⟨none, .store 1 (.t 31) (.t 29), none⟩]
    (sq [om 32 1, o 33 (.bin .add (.t 32) (iv 1)), om 1 33]
    (sq [om 34 0, om 35 5, om 36 1, o 37 (.iad 6 (.t 34) (.t 35)), o 38 (.fad 3 (.t 37)), ⟨none, .store 1 (.t 38) (.t 36), none⟩]
    (sq [om 39 1, o 40 (.bin .add (.t 39) (iv 1)), om 1 40]
    (sq [om 41 0, om 42 5, om 43 1, o 44 (.bin .rem (.t 43) (iv 3)), o 45 (.bin .eql (.t 44) (iv 0)), o 46 (.iad 6 (.t 41) (.t 42)), o 47 (.fad 4 (.t 46)), ⟨none, .store 1 (.t 47) (.t 45), none⟩]
    (sq [om 48 1, o 49 (.bin .add (.t 48) (iv 1)), om 1 49]
    (sq [om 50 0, om 51 5, om 52 1, o 53 (.iad 6 (.t 50) (.t 51)), o 54 (.fad 5 (.t 53)), ⟨none, .store 1 (.t 54) (.t 52), none⟩]
    (.ops [om 55 1, o 56 (.bin .add (.t 55) (iv 1)), om 1 56])))))))))))))
   (.ops [om 10 5, o 11 (.bin .add (.t 10) (iv 1)), om 5 11]))))))
 (sq [om 57 1, om 4 57]
 .ret)))
noncomputable def X.l_markKindS_L (p0 : (List TKind)) (p1 : Int) : Option Int :=
 ((loop (fun (x14 : (Int × Int)) => ((bif (decide (x14.2 < (p0.length : Int))) then ((X.l_markText x14.1).bind fun v17 => ((at' zTKind p0 x14.2).bind fun v19 => some (Sum.inl ((W ((W ((W ((W ((W ((W (x14.1 + 1)) + 1)) + 1)) + 1)) + 1)) + 1)), (W (x14.2 + 1)))))) else some (Sum.inr x14.1)) : Option ((Int × Int) ⊕ Int))) (p1, 0)).bind fun y21 => some y21)
theorem l_markKindS_L_ok (p0 : (List TKind)) (p1 : Int) (r : Int) (H : X.l_markKindS_L p0 p1 = some r) : FnOk Tryz.prog gl 163 [.c (.lv (dat 6 eTKind zTKind p0)), cI p1] (cI r) := by
 unfold X.l_markKindS_L at H
 refine fi Tryz.f163 l_markKindS_ir [(4, cI r)] [] glL Tryz.func163 ?_
 refine so [] [] [(0, .c (.lv (dat 6 eTKind zTKind p0))), (1, cI p1)] [] id ?_
 refine seq_in ?_
 refine so [] [] [(0, .c (.lv (dat 6 eTKind zTKind p0))), (1, cI p1), (5, cI 0)] [] id ?_
 refine ends_blk ?_
 obtain ⟨y21, h22, H⟩ := ofBind H
 refine loop_in (fun (x : (Int × Int)) => lit [(0, .c (.lv (dat 6 eTKind zTKind p0))), (1, cI x.1), (5, cI x.2)] []) (fun (z : Int) => At (.exit 0) (lit [(1, cI z)] [])) h22 ?_ ?_
 ·clear H h22
  intro x14 y0 H
  refine seq_in ?_
  refine so [] [] [(0, .c (.lv (dat 6 eTKind zTKind p0))), (1, cI x14.1), (5, cI x14.2), (9, cB (decide (x14.2 < (p0.length : Int))))] [] (fun t => lI p0 (t)) ?_
  rcases ofCond H with ⟨c16, H⟩ | ⟨c16, H⟩
  ·refine it c16 ?_
   refine sk ?_
   refine seq_in ?_
   refine ends_blk ?_
   obtain ⟨v17, h18, H⟩ := ofBind H
   obtain ⟨v19, h20, H⟩ := ofBind H
   refine so [.res (.c (.str v17)), .cs (eTKind v19)] [] [(0, .c (.lv (dat 6 eTKind zTKind p0))), (1, cI x14.1), (5, cI x14.2)] [] (fun t => aI (l_markText_ok x14.1 v17 h18) ((a2 eTKind h20 (aI (rfl : true = true) (t))))) ?_
   refine so [] [] [(0, .c (.lv (dat 6 eTKind zTKind p0))), (1, cI (W (x14.1 + 1))), (5, cI x14.2)] [] id ?_
   refine so [.cs (eTKind v19)] [] [(0, .c (.lv (dat 6 eTKind zTKind p0))), (1, cI (W (x14.1 + 1))), (5, cI x14.2)] [] (fun t => (a2 eTKind h20 (aI (rfl : true = true) (t)))) ?_
   refine so [] [] [(0, .c (.lv (dat 6 eTKind zTKind p0))), (1, cI (W ((W (x14.1 + 1)) + 1))), (5, cI x14.2)] [] id ?_
   refine so [.cs (eTKind v19)] [] [(0, .c (.lv (dat 6 eTKind zTKind p0))), (1, cI (W ((W (x14.1 + 1)) + 1))), (5, cI x14.2)] [] (fun t => (a2 eTKind h20 (aI (rfl : true = true) (t)))) ?_
   refine so [] [] [(0, .c (.lv (dat 6 eTKind zTKind p0))), (1, cI (W ((W ((W (x14.1 + 1)) + 1)) + 1))), (5, cI x14.2)] [] id ?_
   refine so [.cs (eTKind v19)] [] [(0, .c (.lv (dat 6 eTKind zTKind p0))), (1, cI (W ((W ((W (x14.1 + 1)) + 1)) + 1))), (5, cI x14.2)] [] (fun t => (a2 eTKind h20 (aI (rfl : true = true) (t)))) ?_
   refine so [] [] [(0, .c (.lv (dat 6 eTKind zTKind p0))), (1, cI (W ((W ((W ((W (x14.1 + 1)) + 1)) + 1)) + 1))), (5, cI x14.2)] [] id ?_
   refine so [.cs (eTKind v19)] [] [(0, .c (.lv (dat 6 eTKind zTKind p0))), (1, cI (W ((W ((W ((W (x14.1 + 1)) + 1)) + 1)) + 1))), (5, cI x14.2)] [] (fun t => aI (by decide : (3 : Int) ≠ 0) ((a2 eTKind h20 (aI (rfl : true = true) (t))))) ?_
   refine so [] [] [(0, .c (.lv (dat 6 eTKind zTKind p0))), (1, cI (W ((W ((W ((W ((W (x14.1 + 1)) + 1)) + 1)) + 1)) + 1))), (5, cI x14.2)] [] id ?_
   refine so [.cs (eTKind v19)] [] [(0, .c (.lv (dat 6 eTKind zTKind p0))), (1, cI (W ((W ((W ((W ((W (x14.1 + 1)) + 1)) + 1)) + 1)) + 1))), (5, cI x14.2)] [] (fun t => (a2 eTKind h20 (aI (rfl : true = true) (t)))) ?_
   refine oo [] [] [(0, .c (.lv (dat 6 eTKind zTKind p0))), (1, cI (W ((W ((W ((W ((W ((W (x14.1 + 1)) + 1)) + 1)) + 1)) + 1)) + 1))), (5, cI x14.2)] [] id ?_
   change EndsI _ _ _ _ _ _
   refine oo [] [] [(0, .c (.lv (dat 6 eTKind zTKind p0))), (1, cI (W ((W ((W ((W ((W ((W (x14.1 + 1)) + 1)) + 1)) + 1)) + 1)) + 1))), (5, cI (W (x14.2 + 1)))] [] id ?_
   cases H
   exact And.intro rfl rfl
  ·refine jf c16 ?_
   refine tl [] [(1, cI x14.1)] [] id ?_
   refine ends_exit ?_
   cases H
   exact And.intro (by simp) (And.intro rfl rfl)
 ·clear h22
  intro e s q
  obtain ⟨rfl, rfl⟩ := q
  change EndsI _ _ _ _ _ _
  refine so [] [] [(4, cI y21)] [] id ?_
  refine ends_ret ?_
  cases H
  exact And.intro (.inl rfl) rfl
def l_markRules_ir : S :=
 (sq [o 2 (.box 7 (.t 0)), o 4 (.mv (iv 0))]
 (sq [o 5 (.fad 0 (.t 2)), o 6 (.load 1 false (.t 5)), om 7 1, o 8 (.call 162 [.t 6, .t 7]), om 1 8]
 (sq [o 9 (.fad 1 (.t 2)), o 10 (.load 1 false (.t 9)), om 11 1, o 12 (.call 163 [.t 10, .t 11]), om 1 12]
 (sq [om 13 1, om 4 13]
 .ret))))
noncomputable def X.l_markRules_L (p0 : TRules) (p1 : Int) : Option Int :=
 ((X.l_markTerrainS_L p0.Terrains p1).bind fun v1 => ((X.l_markKindS_L p0.Kinds v1).bind fun v3 => some v3))
theorem l_markRules_L_ok (p0 : TRules) (p1 : Int) (r : Int) (H : X.l_markRules_L p0 p1 = some r) : FnOk Tryz.prog gl 73 [.agg [.lv (dat 5 eTTerrain zTTerrain p0.Terrains), .lv (dat 6 eTKind zTKind p0.Kinds), .int .i64 p0.Stack, .int .i64 p0.River, .int .i64 p0.Road, .int .i64 p0.Supply, .int .i64 p0.Turns], cI p1] (cI r) := by
 unfold X.l_markRules_L at H
 refine fi Tryz.f73 l_markRules_ir [(4, cI r)] [] glL Tryz.func73 ?_
 refine so [] [] [(1, cI p1), (2, pk 2)] [(2, .var [.lv (dat 5 eTTerrain zTTerrain p0.Terrains), .lv (dat 6 eTKind zTKind p0.Kinds), .int .i64 p0.Stack, .int .i64 p0.River, .int .i64 p0.Road, .int .i64 p0.Supply, .int .i64 p0.Turns] false)] id ?_
 obtain ⟨v1, h2, H⟩ := ofBind H
 refine so [.res (cI v1)] [] [(1, cI v1), (2, pk 2)] [(2, .var [.lv (dat 5 eTTerrain zTTerrain p0.Terrains), .lv (dat 6 eTKind zTKind p0.Kinds), .int .i64 p0.Stack, .int .i64 p0.River, .int .i64 p0.Road, .int .i64 p0.Supply, .int .i64 p0.Turns] false)] (aI (l_markTerrainS_L_ok p0.Terrains p1 v1 h2)) ?_
 obtain ⟨v3, h4, H⟩ := ofBind H
 refine so [.res (cI v3)] [] [(1, cI v3)] [] (aI (l_markKindS_L_ok p0.Kinds v1 v3 h4)) ?_
 refine so [] [] [(4, cI v3)] [] id ?_
 refine ends_ret ?_
 cases H
 exact And.intro (.inl rfl) rfl
def l_markMap_ir : S :=
 (sq [o 2 (.box 5 (.t 0)), o 4 (.mv (iv 0))]
 (sq [o 5 (.fad 2 (.t 2)), o 6 (.load 1 false (.t 5)), om 7 1, o 8 (.call 32 [.t 6, .t 7]), om 1 8]
 (sq [o 9 (.fad 3 (.t 2)), o 10 (.load 1 false (.t 9)), om 11 1, o 12 (.call 32 [.t 10, .t 11]), om 1 12]
 (sq [o 13 (.fad 4 (.t 2)), o 14 (.load 1 false (.t 13)), om 15 1, o 16 (.call 32 [.t 14, .t 15]), om 1 16]
 (sq [om 17 1, om 4 17]
 .ret)))))
noncomputable def X.l_markMap_L (p0 : TMap) (p1 : Int) : Option Int :=
 ((X.l_markIntS_L p0.Terrain p1).bind fun v1 => ((X.l_markIntS_L p0.Rivers v1).bind fun v3 => ((X.l_markIntS_L p0.Roads v3).bind fun v5 => some v5)))
theorem l_markMap_L_ok (p0 : TMap) (p1 : Int) (r : Int) (H : X.l_markMap_L p0 p1 = some r) : FnOk Tryz.prog gl 74 [.agg [.int .i64 p0.Width, .int .i64 p0.Height, .lv (dat 1 eI zI p0.Terrain), .lv (dat 1 eI zI p0.Rivers), .lv (dat 1 eI zI p0.Roads)], cI p1] (cI r) := by
 unfold X.l_markMap_L at H
 refine fi Tryz.f74 l_markMap_ir [(4, cI r)] [] glL Tryz.func74 ?_
 refine so [] [] [(1, cI p1), (2, pk 2)] [(2, .var [.int .i64 p0.Width, .int .i64 p0.Height, .lv (dat 1 eI zI p0.Terrain), .lv (dat 1 eI zI p0.Rivers), .lv (dat 1 eI zI p0.Roads)] false)] id ?_
 obtain ⟨v1, h2, H⟩ := ofBind H
 refine so [.res (cI v1)] [] [(1, cI v1), (2, pk 2)] [(2, .var [.int .i64 p0.Width, .int .i64 p0.Height, .lv (dat 1 eI zI p0.Terrain), .lv (dat 1 eI zI p0.Rivers), .lv (dat 1 eI zI p0.Roads)] false)] (aI (l_markIntS_L_ok p0.Terrain p1 v1 h2)) ?_
 obtain ⟨v3, h4, H⟩ := ofBind H
 refine so [.res (cI v3)] [] [(1, cI v3), (2, pk 2)] [(2, .var [.int .i64 p0.Width, .int .i64 p0.Height, .lv (dat 1 eI zI p0.Terrain), .lv (dat 1 eI zI p0.Rivers), .lv (dat 1 eI zI p0.Roads)] false)] (aI (l_markIntS_L_ok p0.Rivers v1 v3 h4)) ?_
 obtain ⟨v5, h6, H⟩ := ofBind H
 refine so [.res (cI v5)] [] [(1, cI v5)] [] (aI (l_markIntS_L_ok p0.Roads v3 v5 h6)) ?_
 refine so [] [] [(4, cI v5)] [] id ?_
 refine ends_ret ?_
 cases H
 exact And.intro (.inl rfl) rfl
def l_markBoard_ir : S :=
 (sq [o 2 (.box 12 (.t 0)), o 4 (.mv (iv 0))]
 (sq [o 5 (.fad 0 (.t 2)), o 6 (.load 7 true (.t 5)), om 7 1, o 8 (.call 73 [.t 6, .t 7]), om 1 8]
 (sq [o 9 (.fad 7 (.t 2)), o 10 (.load 5 true (.t 9)), om 11 1, o 12 (.call 74 [.t 10, .t 11]), om 1 12]
 (sq [om 13 1, om 4 13]
 .ret))))
noncomputable def X.l_markBoard_L (p0 : TBoard) (p1 : Int) : Option Int :=
 ((X.l_markRules_L p0.Rules p1).bind fun v1 => ((X.l_markMap_L p0.Map v1).bind fun v3 => some v3))
theorem l_markBoard_L_ok (p0 : TBoard) (p1 : Int) (r : Int) (H : X.l_markBoard_L p0 p1 = some r) : FnOk Tryz.prog gl 16 [.agg [.lv (dat 5 eTTerrain zTTerrain p0.Rules.Terrains), .lv (dat 6 eTKind zTKind p0.Rules.Kinds), .int .i64 p0.Rules.Stack, .int .i64 p0.Rules.River, .int .i64 p0.Rules.Road, .int .i64 p0.Rules.Supply, .int .i64 p0.Rules.Turns, .int .i64 p0.Map.Width, .int .i64 p0.Map.Height, .lv (dat 1 eI zI p0.Map.Terrain), .lv (dat 1 eI zI p0.Map.Rivers), .lv (dat 1 eI zI p0.Map.Roads)], cI p1] (cI r) := by
 unfold X.l_markBoard_L at H
 refine fi Tryz.f16 l_markBoard_ir [(4, cI r)] [] glL Tryz.func16 ?_
 refine so [] [] [(1, cI p1), (2, pk 2)] [(2, .var [.lv (dat 5 eTTerrain zTTerrain p0.Rules.Terrains), .lv (dat 6 eTKind zTKind p0.Rules.Kinds), .int .i64 p0.Rules.Stack, .int .i64 p0.Rules.River, .int .i64 p0.Rules.Road, .int .i64 p0.Rules.Supply, .int .i64 p0.Rules.Turns, .int .i64 p0.Map.Width, .int .i64 p0.Map.Height, .lv (dat 1 eI zI p0.Map.Terrain), .lv (dat 1 eI zI p0.Map.Rivers), .lv (dat 1 eI zI p0.Map.Roads)] false)] id ?_
 obtain ⟨v1, h2, H⟩ := ofBind H
 refine so [.res (cI v1)] [] [(1, cI v1), (2, pk 2)] [(2, .var [.lv (dat 5 eTTerrain zTTerrain p0.Rules.Terrains), .lv (dat 6 eTKind zTKind p0.Rules.Kinds), .int .i64 p0.Rules.Stack, .int .i64 p0.Rules.River, .int .i64 p0.Rules.Road, .int .i64 p0.Rules.Supply, .int .i64 p0.Rules.Turns, .int .i64 p0.Map.Width, .int .i64 p0.Map.Height, .lv (dat 1 eI zI p0.Map.Terrain), .lv (dat 1 eI zI p0.Map.Rivers), .lv (dat 1 eI zI p0.Map.Roads)] false)] (aI (l_markRules_L_ok p0.Rules p1 v1 h2)) ?_
 obtain ⟨v3, h4, H⟩ := ofBind H
 refine so [.res (cI v3)] [] [(1, cI v3)] [] (aI (l_markMap_L_ok p0.Map v1 v3 h4)) ?_
 refine so [] [] [(4, cI v3)] [] id ?_
 refine ends_ret ?_
 cases H
 exact And.intro (.inl rfl) rfl
def l_szUnitS_ir : S :=
 (sq [o 4 (.mv (iv 0))]
 (sq [om 5 1, om 6 0, o 7 (.len (.t 6)), o 8 (.bin .sub (.t 5) (.t 7)), om 1 8]
 (.seq (sq [om 9 1, o 10 (.bin .lss (.t 9) (iv 0))]
 (.ite (.t 10) (sq [o 4 (.mv (.v (.int .i64 (-1))))]
  .ret)
 .skip))
 (sq [om 11 1, om 4 11]
 .ret))))
noncomputable def X.l_szUnitS (p0 : (List TUnit)) (p1 : Int) : Option Int :=
 (bif (decide ((W (p1 - (p0.length : Int))) < 0)) then some (-1) else some (W (p1 - (p0.length : Int))))
theorem l_szUnitS_ok (p0 : (List TUnit)) (p1 : Int) (r : Int) (H : X.l_szUnitS p0 p1 = some r) : FnOk Tryz.prog gl 78 [.c (dat 4 eTUnit zTUnit p0), cI p1] (cI r) := by
 unfold X.l_szUnitS at H
 refine fi Tryz.f78 l_szUnitS_ir [(4, cI r)] [] glL Tryz.func78 ?_
 refine so [] [] [(0, dc 4 eTUnit zTUnit p0), (1, cI p1)] [] id ?_
 refine so [] [] [(1, cI (W (p1 - (p0.length : Int))))] [] (fun t => lI p0 (t)) ?_
 refine seq_in ?_
 refine so [] [] [(1, cI (W (p1 - (p0.length : Int)))), (10, cB (decide ((W (p1 - (p0.length : Int))) < 0)))] [] id ?_
 rcases ofCond H with ⟨c1, H⟩ | ⟨c1, H⟩
 ·refine it c1 ?_
  refine so [] [] [(4, cI (-1))] [] id ?_
  refine ends_ret ?_
  cases H
  exact And.intro (.inl rfl) rfl
 ·refine jf c1 ?_
  refine sk ?_
  refine so [] [] [(4, cI (W (p1 - (p0.length : Int))))] [] id ?_
  refine ends_ret ?_
  cases H
  exact And.intro (.inl rfl) rfl
def l_szState_ir : S :=
 (sq [o 2 (.box 3 (.t 0)), o 4 (.mv (iv 0))]
 (sq [o 5 (.fad 2 (.t 2)), o 6 (.load 1 false (.t 5)), om 7 1, o 8 (.call 78 [.t 6, .t 7]), om 1 8]
 (.seq (sq [om 9 1, o 10 (.bin .lss (.t 9) (iv 0))]
 (.ite (.t 10) (sq [o 4 (.mv (.v (.int .i64 (-1))))]
  .ret)
 .skip))
 (sq [om 11 1, om 4 11]
 .ret))))
noncomputable def X.l_szState (p0 : TState) (p1 : Int) : Option Int :=
 ((X.l_szUnitS p0.Units p1).bind fun v1 => (bif (decide (v1 < 0)) then some (-1) else some v1))
theorem l_szState_ok (p0 : TState) (p1 : Int) (r : Int) (H : X.l_szState p0 p1 = some r) : FnOk Tryz.prog gl 19 [.agg (eTState p0), cI p1] (cI r) := by
 unfold X.l_szState at H
 refine fi Tryz.f19 l_szState_ir [(4, cI r)] [] glL Tryz.func19 ?_
 refine so [] [] [(1, cI p1), (2, pk 2)] [(2, va (eTState p0))] id ?_
 obtain ⟨v1, h2, H⟩ := ofBind H
 refine so [.res (cI v1)] [] [(1, cI v1)] [] (aI (l_szUnitS_ok p0.Units p1 v1 h2)) ?_
 refine seq_in ?_
 refine so [] [] [(1, cI v1), (10, cB (decide (v1 < 0)))] [] id ?_
 rcases ofCond H with ⟨c3, H⟩ | ⟨c3, H⟩
 ·refine it c3 ?_
  refine so [] [] [(4, cI (-1))] [] id ?_
  refine ends_ret ?_
  cases H
  exact And.intro (.inl rfl) rfl
 ·refine jf c3 ?_
  refine sk ?_
  refine so [] [] [(4, cI v1)] [] id ?_
  refine ends_ret ?_
  cases H
  exact And.intro (.inl rfl) rfl
def s_l1In_ir : S :=
 (sq [o 6 (.mv (.v (.bool false)))]
 (sq [om 7 0, om 8 1, o 9 (.bin .geq (.t 7) (.t 8)), om 10 9, ⟨some 11, .mv (.t 0), some (10, true)⟩, ⟨some 12, .mv (.t 2), some (10, true)⟩, ⟨some 13, .bin .leq (.t 11) (.t 12), some (10, true)⟩, o 14 (.pick (.t 10) (.t 13) (.v (.bool false))), om 6 14]
 .ret))
noncomputable def X.s_l1In (p0 : Int) (p1 : Int) (p2 : Int) : Option Bool :=
 (bif (decide (p0 ≥ p1)) then some (decide (p0 ≤ p2)) else some false)
theorem s_l1In_ok (p0 : Int) (p1 : Int) (p2 : Int) (r : Bool) (H : X.s_l1In p0 p1 p2 = some r) : FnOk Tryz.prog gl 91 [cI p0, cI p1, cI p2] (cB r) := by
 unfold X.s_l1In at H
 refine fi Tryz.f91 s_l1In_ir [(6, cB r)] [] glL Tryz.func91 ?_
 refine so [] [] [(0, cI p0), (1, cI p1), (2, cI p2)] [] id ?_
 rcases ofCond H with ⟨c1, H⟩ | ⟨c1, H⟩
 ·refine so [.g true, .g true, .g true, .g true] [] [(6, cB (decide (p0 ≤ p2)))] [] (fun t => aI c1 (aI c1 (aI c1 (aI c1 (t))))) ?_
  refine ends_ret ?_
  cases H
  exact And.intro (.inl rfl) rfl
 ·refine so [.g false, .g false, .g false, .g false] [] [(6, cB false)] [] (fun t => aI c1 (aI c1 (aI c1 (aI c1 (t))))) ?_
  refine ends_ret ?_
  cases H
  exact And.intro (.inl rfl) rfl
def s_l1All_ir : S :=
 (sq [o 6 (.mv (.v (.bool false)))]
 (.seq (sq [om 9 0, o 10 (.len (.t 9)), o 11 (.mv (iv 0))]
 (.blk 0 (.loop (sq [o 12 (.bin .lss (.t 11) (.t 10))]
   (.seq (.ite (.t 12) .skip
   (.exit 0))
   (.seq (.blk 1 (sq [o 13 (.iad 1 (.t 9) (.t 11)), o 14 (.load 1 false (.t 13)), om 8 14]
    (sq [om 15 8, om 16 1, om 17 2, o 18 (.call 91 [.t 15, .t 16, .t 17]), o 19 (.not (.t 18))]
    (.ite (.t 19) (sq [o 6 (.mv (.v (.bool false)))]
     .ret)
    .skip))))
   (.ops [o 20 (.bin .add (.t 11) (iv 1)), om 11 20])))))))
 (sq [o 6 (.mv (.v (.bool true)))]
 .ret)))
noncomputable def X.s_l1All (p0 : (List Int)) (p1 : Int) (p2 : Int) : Option Bool :=
 ((loop (fun (x16 : Int) => ((bif (decide (x16 < (p0.length : Int))) then ((at' zI p0 x16).bind fun v19 => ((X.s_l1In v19 p1 p2).bind fun v21 => (bif (!v21) then some (Sum.inr (Sum.inr false)) else some (Sum.inl (W (x16 + 1)))))) else some (Sum.inr (Sum.inl ()))) : Option (Int ⊕ (Unit ⊕ Bool)))) 0).bind fun y24 => (Sum.elim (fun (y26 : Unit) => some true) (fun (y27 : Bool) => some y27) y24))
theorem s_l1All_ok (p0 : (List Int)) (p1 : Int) (p2 : Int) (r : Bool) (H : X.s_l1All p0 p1 p2 = some r) : FnOk Tryz.prog gl 124 [.c (dat 1 eI zI p0), cI p1, cI p2] (cB r) := by
 unfold X.s_l1All at H
 refine fi Tryz.f124 s_l1All_ir [(6, cB r)] [] glL Tryz.func124 ?_
 refine so [] [] [(0, dc 1 eI zI p0), (1, cI p1), (2, cI p2)] [] id ?_
 refine seq_in ?_
 refine so [] [] [(1, cI p1), (2, cI p2), (9, dc 1 eI zI p0), (10, cL p0), (11, cI 0)] [] (fun t => lI p0 (t)) ?_
 refine ends_blk ?_
 obtain ⟨y24, h25, H⟩ := ofBind H
 refine loop_in (fun (x : Int) => lit [(1, cI p1), (2, cI p2), (9, dc 1 eI zI p0), (10, cL p0), (11, cI x)] []) (orJ (fun (z : Unit) => At (.exit 0) (lit [] [])) (fun (z : Bool) => At .ret (lit [(6, cB z)] []))) h25 ?_ ?_
 ·clear H h25
  intro x16 y0 H
  refine so [] [] [(1, cI p1), (2, cI p2), (9, dc 1 eI zI p0), (10, cL p0), (11, cI x16), (12, cB (decide (x16 < (p0.length : Int))))] [] id ?_
  refine seq_in ?_
  rcases ofCond H with ⟨c18, H⟩ | ⟨c18, H⟩
  ·refine it c18 ?_
   refine sk ?_
   refine seq_in ?_
   refine ends_blk ?_
   obtain ⟨v19, h20, H⟩ := ofBind H
   refine so [.cs (eI v19)] [] [(1, cI p1), (2, cI p2), (8, cI v19), (9, dc 1 eI zI p0), (10, cL p0), (11, cI x16)] [] (a2 eI h20) ?_
   obtain ⟨v21, h22, H⟩ := ofBind H
   refine so [.res (cB v21)] [] [(1, cI p1), (2, cI p2), (9, dc 1 eI zI p0), (10, cL p0), (11, cI x16), (19, cB (!v21))] [] (aI (s_l1In_ok v19 p1 p2 v21 h22)) ?_
   rcases ofCond H with ⟨c23, H⟩ | ⟨c23, H⟩
   ·refine it c23 ?_
    refine so [] [] [(6, cB false)] [] id ?_
    refine ends_ret ?_
    cases H
    exact And.intro (by simp) (And.intro rfl rfl)
   ·refine jf c23 ?_
    refine sk ?_
    refine oo [] [] [(1, cI p1), (2, cI p2), (9, dc 1 eI zI p0), (10, cL p0), (11, cI (W (x16 + 1)))] [] id ?_
    cases H
    exact And.intro rfl rfl
  ·refine jf c18 ?_
   refine tl [] [] [] id ?_
   refine ends_exit ?_
   cases H
   exact And.intro (by simp) (And.intro rfl rfl)
 ·clear h25
  cases y24 with
  | inl y26 =>
   replace H := ofInl H
   intro e s q
   obtain ⟨rfl, rfl⟩ := q
   change EndsI _ _ _ _ _ _
   refine so [] [] [(6, cB true)] [] id ?_
   refine ends_ret ?_
   cases H
   exact And.intro (.inl rfl) rfl
  | inr y27 =>
   replace H := ofInr H
   intro e s q
   obtain ⟨rfl, rfl⟩ := q
   cases H
   exact And.intro (.inl rfl) rfl
def s_rKind_ir : S :=
 (sq [o 4 (.mv (iv 0))]
 (.seq (sq [om 7 0, o 8 (.len (.t 7)), o 9 (.mv (iv 0))]
 (.blk 0 (.loop (sq [o 10 (.bin .lss (.t 9) (.t 8))]
   (.seq (.ite (.t 10) .skip
   (.exit 0))
   (.seq (.blk 1 (sq [om 11 9, o 12 (.iad 6 (.t 7) (.t 9)), o 13 (.load 6 true (.t 12)), o 6 (.alloc [.str [], .int .i64 0, .int .i64 0, .int .i64 0, .bool false, .int .i64 0]), om 5 11, ⟨none, .store 6 (.t 6) (.t 13), none⟩]
    (sq [o 14 (.fad 0 (.t 6)), o 15 (.load 1 false (.t 14)), om 16 1, o 17 (.bin .eql (.t 15) (.t 16))]
    (.ite (.t 17) (sq [om 18 5, om 4 18]
     .ret)
    .skip))))
   (.ops [o 19 (.bin .add (.t 9) (iv 1)), om 9 19])))))))
 (sq [o 4 (.mv (.v (.int .i64 (-1))))]
 .ret)))
noncomputable def X.s_rKind (p0 : (List TKind)) (p1 : (List UInt8)) : Option Int :=
 ((loop (fun (x12 : Int) => ((bif (decide (x12 < (p0.length : Int))) then ((at' zTKind p0 x12).bind fun v15 => (bif (v15.Name == p1) then some (Sum.inr (Sum.inr x12)) else some (Sum.inl (W (x12 + 1))))) else some (Sum.inr (Sum.inl ()))) : Option (Int ⊕ (Unit ⊕ Int)))) 0).bind fun y18 => (Sum.elim (fun (y20 : Unit) => some (-1)) (fun (y21 : Int) => some y21) y18))
theorem s_rKind_ok (p0 : (List TKind)) (p1 : (List UInt8)) (r : Int) (H : X.s_rKind p0 p1 = some r) : FnOk Tryz.prog gl 128 [.c (dat 6 eTKind zTKind p0), .c (.str p1)] (cI r) := by
 unfold X.s_rKind at H
 refine fi Tryz.f128 s_rKind_ir [(4, cI r)] [] glL Tryz.func128 ?_
 refine so [] [] [(0, dc 6 eTKind zTKind p0), (1, .c (.str p1))] [] id ?_
 refine seq_in ?_
 refine so [] [] [(1, .c (.str p1)), (7, dc 6 eTKind zTKind p0), (8, cL p0), (9, cI 0)] [] (fun t => lI p0 (t)) ?_
 refine ends_blk ?_
 obtain ⟨y18, h19, H⟩ := ofBind H
 refine loop_in (fun (x : Int) => lit [(1, .c (.str p1)), (7, dc 6 eTKind zTKind p0), (8, cL p0), (9, cI x)] []) (orJ (fun (z : Unit) => At (.exit 0) (lit [] [])) (fun (z : Int) => At .ret (lit [(4, cI z)] []))) h19 ?_ ?_
 ·clear H h19
  intro x12 y0 H
  refine so [] [] [(1, .c (.str p1)), (7, dc 6 eTKind zTKind p0), (8, cL p0), (9, cI x12), (10, cB (decide (x12 < (p0.length : Int))))] [] id ?_
  refine seq_in ?_
  rcases ofCond H with ⟨c14, H⟩ | ⟨c14, H⟩
  ·refine it c14 ?_
   refine sk ?_
   refine seq_in ?_
   refine ends_blk ?_
   obtain ⟨v15, h16, H⟩ := ofBind H
   refine so [.cs (eTKind v15)] [] [(1, .c (.str p1)), (5, cI x12), (6, pk 6), (7, dc 6 eTKind zTKind p0), (8, cL p0), (9, cI x12)] [(6, va (eTKind v15))] (a2 eTKind h16) ?_
   refine so [] [] [(1, .c (.str p1)), (5, cI x12), (7, dc 6 eTKind zTKind p0), (8, cL p0), (9, cI x12), (17, cB (v15.Name == p1))] [] id ?_
   rcases ofCond H with ⟨c17, H⟩ | ⟨c17, H⟩
   ·refine it c17 ?_
    refine so [] [] [(4, cI x12)] [] id ?_
    refine ends_ret ?_
    cases H
    exact And.intro (by simp) (And.intro rfl rfl)
   ·refine jf c17 ?_
    refine sk ?_
    refine oo [] [] [(1, .c (.str p1)), (7, dc 6 eTKind zTKind p0), (8, cL p0), (9, cI (W (x12 + 1)))] [] id ?_
    cases H
    exact And.intro rfl rfl
  ·refine jf c14 ?_
   refine tl [] [] [] id ?_
   refine ends_exit ?_
   cases H
   exact And.intro (by simp) (And.intro rfl rfl)
 ·clear h19
  cases y18 with
  | inl y20 =>
   replace H := ofInl H
   intro e s q
   obtain ⟨rfl, rfl⟩ := q
   change EndsI _ _ _ _ _ _
   refine so [] [] [(4, cI (-1))] [] id ?_
   refine ends_ret ?_
   cases H
   exact And.intro (.inl rfl) rfl
  | inr y21 =>
   replace H := ofInr H
   intro e s q
   obtain ⟨rfl, rfl⟩ := q
   cases H
   exact And.intro (.inl rfl) rfl
def s_rName_ir : S :=
 (sq [o 2 (.mv (.v (.bool false)))]
 (.seq (sq [o 3 (.mv (iv 0))]
 (.blk 0 (.loop (.seq (sq [om 4 3, om 5 0, o 6 (.lens (.t 5)), o 7 (.bin .lss (.t 4) (.t 6))]
   (.ite (.t 7) .skip
   (.exit 0)))
   (.seq (.blk 1 (sq [om 10 0, om 11 3, o 12 (.ixs (.t 10) (.t 11)), o 13 (.bin .lss (.t 12) (.v (.int .u8 97))), om 14 13, ⟨some 15, .mv (.t 0), some (14, false)⟩, ⟨some 16, .mv (.t 3), some (14, false)⟩, ⟨some 17, .ixs (.t 15) (.t 16), some (14, false)⟩, ⟨some 18, .bin .gtr (.t 17) (.v (.int .u8 122)), some (14, false)⟩, o 19 (.pick (.t 14) (.v (.bool true)) (.t 18))]
    (.ite (.t 19) (sq [o 2 (.mv (.v (.bool false)))]
     .ret)
    .skip)))
   (.ops [om 8 3, o 9 (.bin .add (.t 8) (iv 1)), om 3 9]))))))
 (sq [om 20 0, o 21 (.lens (.t 20)), o 22 (.call 91 [.t 21, .v (.int .i64 1), .v (.int .i64 8)]), om 2 22]
 .ret)))
noncomputable def X.s_rName (p0 : (List UInt8)) : Option Bool :=
 ((loop (fun (x14 : Int) => ((bif (decide (x14 < (p0.length : Int))) then (if 0 ≤ x14 ∧ x14 < (p0.length : Int) then (bif (decide ((((p0.getD x14.toNat 0).toNat : Nat) : Int) < 97)) then some (Sum.inr (Sum.inr false)) else (if 0 ≤ x14 ∧ x14 < (p0.length : Int) then (bif (decide ((((p0.getD x14.toNat 0).toNat : Nat) : Int) > 122)) then some (Sum.inr (Sum.inr false)) else some (Sum.inl (W (x14 + 1)))) else none)) else none) else some (Sum.inr (Sum.inl ()))) : Option (Int ⊕ (Unit ⊕ Bool)))) 0).bind fun y21 => (Sum.elim (fun (y23 : Unit) => ((X.s_l1In (p0.length : Int) 1 8).bind fun v25 => some v25)) (fun (y24 : Bool) => some y24) y21))
theorem s_rName_ok (p0 : (List UInt8)) (r : Bool) (H : X.s_rName p0 = some r) : FnOk Tryz.prog gl 195 [.c (.str p0)] (cB r) := by
 unfold X.s_rName at H
 refine fi Tryz.f195 s_rName_ir [(2, cB r)] [] glL Tryz.func195 ?_
 refine so [] [] [(0, .c (.str p0))] [] id ?_
 refine seq_in ?_
 refine so [] [] [(0, .c (.str p0)), (3, cI 0)] [] id ?_
 refine ends_blk ?_
 obtain ⟨y21, h22, H⟩ := ofBind H
 refine loop_in (fun (x : Int) => lit [(0, .c (.str p0)), (3, cI x)] []) (orJ (fun (z : Unit) => At (.exit 0) (lit [(0, .c (.str p0))] [])) (fun (z : Bool) => At .ret (lit [(2, cB z)] []))) h22 ?_ ?_
 ·clear H h22
  intro x14 y0 H
  refine seq_in ?_
  refine so [] [] [(0, .c (.str p0)), (3, cI x14), (7, cB (decide (x14 < (p0.length : Int))))] [] id ?_
  rcases ofCond H with ⟨c16, H⟩ | ⟨c16, H⟩
  ·refine it c16 ?_
   refine sk ?_
   refine seq_in ?_
   refine ends_blk ?_
   obtain ⟨g17, H⟩ := ofIf H
   rcases ofCond H with ⟨c18, H⟩ | ⟨c18, H⟩
   ·refine so [.g true, .g true, .g true, .g true, .g true] [] [(0, .c (.str p0)), (3, cI x14), (19, cB true)] [] (fun t => aI g17 (aI c18 (aI c18 (aI c18 (aI c18 (aI c18 (t))))))) ?_
    refine it (rfl : (true : Bool) = true) ?_
    refine so [] [] [(2, cB false)] [] id ?_
    refine ends_ret ?_
    cases H
    exact And.intro (by simp) (And.intro rfl rfl)
   ·obtain ⟨g19, H⟩ := ofIf H
    refine so [.g false, .g false, .g false, .g false, .g false] [] [(0, .c (.str p0)), (3, cI x14), (19, cB (decide ((((p0.getD x14.toNat 0).toNat : Nat) : Int) > 122)))] [] (fun t => aI g17 (aI c18 (aI c18 (aI c18 (aI g19 (aI c18 (aI c18 (t)))))))) ?_
    rcases ofCond H with ⟨c20, H⟩ | ⟨c20, H⟩
    ·refine it c20 ?_
     refine so [] [] [(2, cB false)] [] id ?_
     refine ends_ret ?_
     cases H
     exact And.intro (by simp) (And.intro rfl rfl)
    ·refine jf c20 ?_
     refine sk ?_
     refine oo [] [] [(0, .c (.str p0)), (3, cI (W (x14 + 1)))] [] id ?_
     cases H
     exact And.intro rfl rfl
  ·refine jf c16 ?_
   refine tl [] [(0, .c (.str p0))] [] id ?_
   refine ends_exit ?_
   cases H
   exact And.intro (by simp) (And.intro rfl rfl)
 ·clear h22
  cases y21 with
  | inl y23 =>
   replace H := ofInl H
   intro e s q
   obtain ⟨rfl, rfl⟩ := q
   change EndsI _ _ _ _ _ _
   obtain ⟨v25, h26, H⟩ := ofBind H
   refine so [.res (cB v25)] [] [(2, cB v25)] [] (aI (s_l1In_ok (p0.length : Int) 1 8 v25 h26)) ?_
   refine ends_ret ?_
   cases H
   exact And.intro (.inl rfl) rfl
  | inr y24 =>
   replace H := ofInr H
   intro e s q
   obtain ⟨rfl, rfl⟩ := q
   cases H
   exact And.intro (.inl rfl) rfl
def s_rTerrain_ir : S :=
 (sq [o 4 (.mv (iv 0))]
 (.seq (sq [om 7 0, o 8 (.len (.t 7)), o 9 (.mv (iv 0))]
 (.blk 0 (.loop (sq [o 10 (.bin .lss (.t 9) (.t 8))]
   (.seq (.ite (.t 10) .skip
   (.exit 0))
   (.seq (.blk 1 (sq [om 11 9, o 12 (.iad 5 (.t 7) (.t 9)), o 13 (.load 5 true (.t 12)), o 6 (.alloc [.str [], .nil, .int .i64 0, .int .i64 0, .bool false]), om 5 11, ⟨none, .store 5 (.t 6) (.t 13), none⟩]
    (sq [o 14 (.fad 0 (.t 6)), o 15 (.load 1 false (.t 14)), om 16 1, o 17 (.bin .eql (.t 15) (.t 16))]
    (.ite (.t 17) (sq [om 18 5, om 4 18]
     .ret)
    .skip))))
   (.ops [o 19 (.bin .add (.t 9) (iv 1)), om 9 19])))))))
 (sq [o 4 (.mv (.v (.int .i64 (-1))))]
 .ret)))
noncomputable def X.s_rTerrain (p0 : (List TTerrain)) (p1 : (List UInt8)) : Option Int :=
 ((loop (fun (x12 : Int) => ((bif (decide (x12 < (p0.length : Int))) then ((at' zTTerrain p0 x12).bind fun v15 => (bif (v15.Name == p1) then some (Sum.inr (Sum.inr x12)) else some (Sum.inl (W (x12 + 1))))) else some (Sum.inr (Sum.inl ()))) : Option (Int ⊕ (Unit ⊕ Int)))) 0).bind fun y18 => (Sum.elim (fun (y20 : Unit) => some (-1)) (fun (y21 : Int) => some y21) y18))
theorem s_rTerrain_ok (p0 : (List TTerrain)) (p1 : (List UInt8)) (r : Int) (H : X.s_rTerrain p0 p1 = some r) : FnOk Tryz.prog gl 196 [.c (dat 5 eTTerrain zTTerrain p0), .c (.str p1)] (cI r) := by
 unfold X.s_rTerrain at H
 refine fi Tryz.f196 s_rTerrain_ir [(4, cI r)] [] glL Tryz.func196 ?_
 refine so [] [] [(0, dc 5 eTTerrain zTTerrain p0), (1, .c (.str p1))] [] id ?_
 refine seq_in ?_
 refine so [] [] [(1, .c (.str p1)), (7, dc 5 eTTerrain zTTerrain p0), (8, cL p0), (9, cI 0)] [] (fun t => lI p0 (t)) ?_
 refine ends_blk ?_
 obtain ⟨y18, h19, H⟩ := ofBind H
 refine loop_in (fun (x : Int) => lit [(1, .c (.str p1)), (7, dc 5 eTTerrain zTTerrain p0), (8, cL p0), (9, cI x)] []) (orJ (fun (z : Unit) => At (.exit 0) (lit [] [])) (fun (z : Int) => At .ret (lit [(4, cI z)] []))) h19 ?_ ?_
 ·clear H h19
  intro x12 y0 H
  refine so [] [] [(1, .c (.str p1)), (7, dc 5 eTTerrain zTTerrain p0), (8, cL p0), (9, cI x12), (10, cB (decide (x12 < (p0.length : Int))))] [] id ?_
  refine seq_in ?_
  rcases ofCond H with ⟨c14, H⟩ | ⟨c14, H⟩
  ·refine it c14 ?_
   refine sk ?_
   refine seq_in ?_
   refine ends_blk ?_
   obtain ⟨v15, h16, H⟩ := ofBind H
   refine so [.cs (eTTerrain v15)] [] [(1, .c (.str p1)), (5, cI x12), (6, pk 6), (7, dc 5 eTTerrain zTTerrain p0), (8, cL p0), (9, cI x12)] [(6, va (eTTerrain v15))] (a2 eTTerrain h16) ?_
   refine so [] [] [(1, .c (.str p1)), (5, cI x12), (7, dc 5 eTTerrain zTTerrain p0), (8, cL p0), (9, cI x12), (17, cB (v15.Name == p1))] [] id ?_
   rcases ofCond H with ⟨c17, H⟩ | ⟨c17, H⟩
   ·refine it c17 ?_
    refine so [] [] [(4, cI x12)] [] id ?_
    refine ends_ret ?_
    cases H
    exact And.intro (by simp) (And.intro rfl rfl)
   ·refine jf c17 ?_
    refine sk ?_
    refine oo [] [] [(1, .c (.str p1)), (7, dc 5 eTTerrain zTTerrain p0), (8, cL p0), (9, cI (W (x12 + 1)))] [] id ?_
    cases H
    exact And.intro rfl rfl
  ·refine jf c14 ?_
   refine tl [] [] [] id ?_
   refine ends_exit ?_
   cases H
   exact And.intro (by simp) (And.intro rfl rfl)
 ·clear h19
  cases y18 with
  | inl y20 =>
   replace H := ofInl H
   intro e s q
   obtain ⟨rfl, rfl⟩ := q
   change EndsI _ _ _ _ _ _
   refine so [] [] [(4, cI (-1))] [] id ?_
   refine ends_ret ?_
   cases H
   exact And.intro (.inl rfl) rfl
  | inr y21 =>
   replace H := ofInr H
   intro e s q
   obtain ⟨rfl, rfl⟩ := q
   cases H
   exact And.intro (.inl rfl) rfl
def s_rGood_ir : S :=
 (sq [o 1 (.box 7 (.t 0)), o 2 (.mv (.v (.bool false)))]
 (.seq (sq [o 7 (.fad 0 (.t 1)), o 8 (.load 1 false (.t 7)), o 9 (.len (.t 8)), o 10 (.call 91 [.t 9, .v (.int .i64 1), .v (.int .i64 6)]), o 11 (.not (.t 10)), om 12 11, ⟨some 13, .fad 1 (.t 1), some (12, false)⟩, ⟨some 14, .load 1 false (.t 13), some (12, false)⟩, ⟨some 15, .len (.t 14), some (12, false)⟩, ⟨some 16, .call 91 [.t 15, .v (.int .i64 1), .v (.int .i64 4)], some (12, false)⟩, ⟨some 17, .not (.t 16), some (12, false)⟩, o 18 (.pick (.t 12) (.v (.bool true)) (.t 17))]
 (.ite (.t 18) (sq [o 2 (.mv (.v (.bool false)))]
  .ret)
 .skip))
 (.seq (sq [o 19 (.fad 0 (.t 1)), o 20 (.load 1 false (.t 19)), o 21 (.len (.t 20)), o 22 (.mv (iv 0))]
 (.blk 0 (.loop (sq [o 23 (.bin .lss (.t 22) (.t 21))]
   (.seq (.ite (.t 23) .skip
   (.exit 0))
   (.seq (.blk 1 (sq [om 24 22, o 25 (.iad 5 (.t 20) (.t 22)), o 26 (.load 5 true (.t 25)), o 4 (.alloc [.str [], .nil, .int .i64 0, .int .i64 0, .bool false]), om 3 24, ⟨none, .store 5 (.t 4) (.t 26), none⟩]
    (sq [o 27 (.fad 0 (.t 4)), o 28 (.load 1 false (.t 27)), o 29 (.call 195 [.t 28]), o 30 (.not (.t 29)), om 31 30, ⟨some 32, .fad 0 (.t 1), some (31, false)⟩, ⟨some 33, .load 1 false (.t 32), some (31, false)⟩, ⟨some 34, .fad 0 (.t 4), some (31, false)⟩, ⟨some 35, .load 1 false (.t 34), some (31, false)⟩, ⟨some 36, .call 196 [.t 33, .t 35], some (31, false)⟩, ⟨some 37, .mv (.t 3), some (31, false)⟩, ⟨some 38, .bin .neq (.t 36) (.t 37), some (31, false)⟩, o 39 (.pick (.t 31) (.v (.bool true)) (.t 38)), om 40 39, ⟨some 41, .fad 1 (.t 4), some (40, false)⟩, ⟨some 42, .load 1 false (.t 41), some (40, false)⟩, ⟨some 43, .len (.t 42), some (40, false)⟩, ⟨some 44, .fad 1 (.t 1), some (40, false)⟩, ⟨some 45, .load 1 false (.t 44), some (40, false)⟩, ⟨some 46, .len (.t 45), some (40, false)⟩, ⟨some 47, .bin .neq (.t 43) (.t 46), some (40, false)⟩, o 48 (.pick (.t 40) (.v (.bool true)) (.t 47)), om 49 48, ⟨some 50, .fad 1 (.t 4), some (49, false)⟩, ⟨some 51, .load 1 false (.t 50), some (49, false)⟩, ⟨some 52, .call 124 [.t 51, .v (.int .i64 0), .v (.int .i64 9)], some (49, false)⟩, ⟨some 53, .not (.t 52), some (49, false)⟩, o 54 (.pick (.t 49) (.v (.bool true)) (.t 53)), om 55 54, ⟨some 56, .fad 2 (.t 4), some (55, false)⟩, ⟨some 57, .load 1 false (.t 56), some (55, false)⟩, ⟨some 58, .call 91 [.t 57, .v (.int .i64 (-3)), .v (.int .i64 3)], some (55, false)⟩, ⟨some 59, .not (.t 58), some (55, false)⟩, o 60 (.pick (.t 55) (.v (.bool true)) (.t 59)), om 61 60, ⟨some 62, .fad 3 (.t 4), some (61, false)⟩, ⟨some 63, .load 1 false (.t 62), some (61, false)⟩, ⟨some 64, .call 91 [.t 63, .v (.int .i64 0), .v (.int .i64 3)], some (61, false)⟩, ⟨some 65, .not (.t 64), some (61, false)⟩, o 66 (.pick (.t 61) (.v (.bool true)) (.t 65))]
    (.ite (.t 66) (sq [o 2 (.mv (.v (.bool false)))]
     .ret)
    .skip))))
   (.ops [o 67 (.bin .add (.t 22) (iv 1)), om 22 67])))))))
 (.seq (sq [o 68 (.fad 1 (.t 1)), o 69 (.load 1 false (.t 68)), o 70 (.len (.t 69)), o 71 (.mv (iv 0))]
 (.blk 2 (.loop (sq [o 72 (.bin .lss (.t 71) (.t 70))]
   (.seq (.ite (.t 72) .skip
   (.exit 2))
   (.seq (.blk 3 (sq [om 73 71, o 74 (.iad 6 (.t 69) (.t 71)), o 75 (.load 6 true (.t 74)), o 6 (.alloc [.str [], .int .i64 0, .int .i64 0, .int .i64 0, .bool false, .int .i64 0]), om 5 73, ⟨none, .store 6 (.t 6) (.t 75), none⟩]
    (sq [o 76 (.fad 0 (.t 6)), o 77 (.load 1 false (.t 76)), o 78 (.call 195 [.t 77]), o 79 (.not (.t 78)), om 80 79, ⟨some 81, .fad 1 (.t 1), some (80, false)⟩, ⟨some 82, .load 1 false (.t 81), some (80, false)⟩, ⟨some 83, .fad 0 (.t 6), some (80, false)⟩, ⟨some 84, .load 1 false (.t 83), some (80, false)⟩, ⟨some 85, .call 128 [.t 82, .t 84], some (80, false)⟩, ⟨some 86, .mv (.t 5), some (80, false)⟩, ⟨some 87, .bin .neq (.t 85) (.t 86), some (80, false)⟩, o 88 (.pick (.t 80) (.v (.bool true)) (.t 87)), om 89 88, ⟨some 90, .fad 1 (.t 6), some (89, false)⟩, ⟨some 91, .load 1 false (.t 90), some (89, false)⟩, ⟨some 92, .call 91 [.t 91, .v (.int .i64 1), .v (.int .i64 9)], some (89, false)⟩, ⟨some 93, .not (.t 92), some (89, false)⟩, o 94 (.pick (.t 89) (.v (.bool true)) (.t 93)), om 95 94, ⟨some 96, .fad 2 (.t 6), some (95, false)⟩, ⟨some 97, .load 1 false (.t 96), some (95, false)⟩, ⟨some 98, .call 91 [.t 97, .v (.int .i64 0), .v (.int .i64 9)], some (95, false)⟩, ⟨some 99, .not (.t 98), some (95, false)⟩, o 100 (.pick (.t 95) (.v (.bool true)) (.t 99)), om 101 100, ⟨some 102, .fad 3 (.t 6), some (101, false)⟩, ⟨some 103, .load 1 false (.t 102), some (101, false)⟩, ⟨some 104, .call 91 [.t 103, .v (.int .i64 1), .v (.int .i64 4)], some (101, false)⟩, ⟨some 105, .not (.t 104), some (101, false)⟩, o 106 (.pick (.t 101) (.v (.bool true)) (.t 105)), om 107 106, ⟨some 108, .fad 5 (.t 6), some (107, false)⟩, ⟨some 109, .load 1 false (.t 108), some (107, false)⟩, ⟨some 110, .call 91 [.t 109, .v (.int .i64 0), .v (.int .i64 4)], some (107, false)⟩, ⟨some 111, .not (.t 110), some (107, false)⟩, o 112 (.pick (.t 107) (.v (.bool true)) (.t 111))]
    (.ite (.t 112) (sq [o 2 (.mv (.v (.bool false)))]
     .ret)
    .skip))))
   (.ops [o 113 (.bin .add (.t 71) (iv 1)), om 71 113])))))))
 (sq [o 114 (.fad 2 (.t 1)), o 115 (.load 1 false (.t 114)), o 116 (.call 91 [.t 115, .v (.int .i64 1), .v (.int .i64 4)]), om 117 116, ⟨some 118, .fad 3 (.t 1), some (117, true)⟩, ⟨some 119, .load 1 false (.t 118), some (117, true)⟩, ⟨some 120, .call 91 [.t 119, .v (.int .i64 0), .v (.int .i64 9)], some (117, true)⟩, o 121 (.pick (.t 117) (.t 120) (.v (.bool false))), om 122 121, ⟨some 123, .fad 4 (.t 1), some (122, true)⟩, ⟨some 124, .load 1 false (.t 123), some (122, true)⟩, ⟨some 125, .call 91 [.t 124, .v (.int .i64 1), .v (.int .i64 9)], some (122, true)⟩, o 126 (.pick (.t 122) (.t 125) (.v (.bool false))), om 127 126, ⟨some 128, .fad 5 (.t 1), some (127, true)⟩, ⟨some 129, .load 1 false (.t 128), some (127, true)⟩, ⟨some 130, .call 91 [.t 129, .v (.int .i64 0), .v (.int .i64 20)], some (127, true)⟩, o 131 (.pick (.t 127) (.t 130) (.v (.bool false))), om 132 131, ⟨some 133, .fad 6 (.t 1), some (132, true)⟩, ⟨some 134, .load 1 false (.t 133), some (132, true)⟩, ⟨some 135, .call 91 [.t 134, .v (.int .i64 1), .v (.int .i64 30)], some (132, true)⟩, o 136 (.pick (.t 132) (.t 135) (.v (.bool false))), om 2 136]
 .ret)))))
noncomputable def X.s_rGood (p0 : TRules) : Option Bool :=
 ((X.s_l1In (p0.Terrains.length : Int) 1 6).bind fun v7 => (bif (!v7) then some false else ((X.s_l1In (p0.Kinds.length : Int) 1 4).bind fun v10 => (bif (!v10) then some false else ((loop (fun (x120 : Int) => ((bif (decide (x120 < (p0.Terrains.length : Int))) then ((at' zTTerrain p0.Terrains x120).bind fun v123 => ((X.s_rName v123.Name).bind fun v125 => (bif (!v125) then some (Sum.inr (Sum.inr false)) else ((X.s_rTerrain p0.Terrains v123.Name).bind fun v128 => (bif (v128 != x120) then some (Sum.inr (Sum.inr false)) else (bif ((v123.Cost.length : Int) != (p0.Kinds.length : Int)) then some (Sum.inr (Sum.inr false)) else ((X.s_l1All v123.Cost 0 9).bind fun v132 => (bif (!v132) then some (Sum.inr (Sum.inr false)) else ((X.s_l1In v123.Shift (-3) 3).bind fun v135 => (bif (!v135) then some (Sum.inr (Sum.inr false)) else ((X.s_l1In v123.Height 0 3).bind fun v138 => (bif (!v138) then some (Sum.inr (Sum.inr false)) else some (Sum.inl (W (x120 + 1))))))))))))))) else some (Sum.inr (Sum.inl ()))) : Option (Int ⊕ (Unit ⊕ Bool)))) 0).bind fun y141 => (Sum.elim (fun (y143 : Unit) => ((loop (fun (x262 : Int) => ((bif (decide (x262 < (p0.Kinds.length : Int))) then ((at' zTKind p0.Kinds x262).bind fun v265 => ((X.s_rName v265.Name).bind fun v267 => (bif (!v267) then some (Sum.inr (Sum.inr false)) else ((X.s_rKind p0.Kinds v265.Name).bind fun v270 => (bif (v270 != x262) then some (Sum.inr (Sum.inr false)) else ((X.s_l1In v265.Strength 1 9).bind fun v273 => (bif (!v273) then some (Sum.inr (Sum.inr false)) else ((X.s_l1In v265.Moves 0 9).bind fun v276 => (bif (!v276) then some (Sum.inr (Sum.inr false)) else ((X.s_l1In v265.Steps 1 4).bind fun v279 => (bif (!v279) then some (Sum.inr (Sum.inr false)) else ((X.s_l1In v265.View 0 4).bind fun v282 => (bif (!v282) then some (Sum.inr (Sum.inr false)) else some (Sum.inl (W (x262 + 1)))))))))))))))) else some (Sum.inr (Sum.inl ()))) : Option (Int ⊕ (Unit ⊕ Bool)))) 0).bind fun y285 => (Sum.elim (fun (y287 : Unit) => ((X.s_l1In p0.Stack 1 4).bind fun v289 => (bif v289 then ((X.s_l1In p0.River 0 9).bind fun v292 => (bif v292 then ((X.s_l1In p0.Road 1 9).bind fun v295 => (bif v295 then ((X.s_l1In p0.Supply 0 20).bind fun v298 => (bif v298 then ((X.s_l1In p0.Turns 1 30).bind fun v301 => some v301) else some false)) else some false)) else some false)) else some false))) (fun (y288 : Bool) => some y288) y285))) (fun (y144 : Bool) => some y144) y141))))))
theorem s_rGood_ok (p0 : TRules) (r : Bool) (H : X.s_rGood p0 = some r) : FnOk Tryz.prog gl 122 [.agg (eTRules p0)] (cB r) := by
 unfold X.s_rGood at H
 refine fi Tryz.f122 s_rGood_ir [(2, cB r)] [] glL Tryz.func122 ?_
 refine so [] [] [(1, pk 1)] [(1, va (eTRules p0))] id ?_
 refine seq_in ?_
 obtain ⟨v7, h8, H⟩ := ofBind H
 rcases ofCond H with ⟨c9, H⟩ | ⟨c9, H⟩
 ·refine so [.res (cB v7), .g true, .g true, .g true, .g true, .g true, .g true] [] [(1, pk 1), (18, cB true)] [(1, va (eTRules p0))] (fun t => lI p0.Terrains (aI (s_l1In_ok (p0.Terrains.length : Int) 1 6 v7 h8) (aI c9 (aI c9 (aI c9 (aI c9 (aI c9 (aI c9 (t))))))))) ?_
  refine it (rfl : (true : Bool) = true) ?_
  refine so [] [] [(2, cB false)] [] id ?_
  refine ends_ret ?_
  cases H
  exact And.intro (.inl rfl) rfl
 ·obtain ⟨v10, h11, H⟩ := ofBind H
  refine so [.res (cB v7), .g false, .g false, .g false, .g false, .res (cB v10), .g false, .g false] [] [(1, pk 1), (18, cB (!v10))] [(1, va (eTRules p0))] (fun t => lI p0.Terrains (aI (s_l1In_ok (p0.Terrains.length : Int) 1 6 v7 h8) (aI c9 (aI c9 (aI c9 (lI p0.Kinds (aI c9 (aI (s_l1In_ok (p0.Kinds.length : Int) 1 4 v10 h11) (aI c9 (aI c9 (t))))))))))) ?_
  rcases ofCond H with ⟨c12, H⟩ | ⟨c12, H⟩
  ·refine it c12 ?_
   refine so [] [] [(2, cB false)] [] id ?_
   refine ends_ret ?_
   cases H
   exact And.intro (.inl rfl) rfl
  ·refine jf c12 ?_
   refine sk ?_
   refine seq_in ?_
   refine so [] [] [(1, pk 1), (20, dc 5 eTTerrain zTTerrain p0.Terrains), (21, cL p0.Terrains), (22, cI 0)] [(1, va (eTRules p0))] (fun t => lI p0.Terrains (t)) ?_
   refine ends_blk ?_
   obtain ⟨y141, h142, H⟩ := ofBind H
   refine loop_in (fun (x : Int) => lit [(1, pk 1), (20, dc 5 eTTerrain zTTerrain p0.Terrains), (21, cL p0.Terrains), (22, cI x)] [(1, va (eTRules p0))]) (orJ (fun (z : Unit) => At (.exit 0) (lit [(1, pk 1)] [(1, va (eTRules p0))])) (fun (z : Bool) => At .ret (lit [(2, cB z)] []))) h142 ?_ ?_
   ·clear H h142
    intro x120 y0 H
    refine so [] [] [(1, pk 1), (20, dc 5 eTTerrain zTTerrain p0.Terrains), (21, cL p0.Terrains), (22, cI x120), (23, cB (decide (x120 < (p0.Terrains.length : Int))))] [(1, va (eTRules p0))] id ?_
    refine seq_in ?_
    rcases ofCond H with ⟨c122, H⟩ | ⟨c122, H⟩
    ·refine it c122 ?_
     refine sk ?_
     refine seq_in ?_
     refine ends_blk ?_
     obtain ⟨v123, h124, H⟩ := ofBind H
     refine so [.cs (eTTerrain v123)] [] [(1, pk 1), (3, cI x120), (4, pk 4), (20, dc 5 eTTerrain zTTerrain p0.Terrains), (21, cL p0.Terrains), (22, cI x120)] [(1, va (eTRules p0)), (4, va (eTTerrain v123))] (a2 eTTerrain h124) ?_
     obtain ⟨v125, h126, H⟩ := ofBind H
     rcases ofCond H with ⟨c127, H⟩ | ⟨c127, H⟩
     ·refine so [.res (cB v125), .g true, .g true, .g true, .g true, .g true, .g true, .g true, .g true, .g true, .g true, .g true, .g true, .g true, .g true, .g true, .g true, .g true, .g true, .g true, .g true, .g true, .g true, .g true, .g true, .g true, .g true, .g true, .g true, .g true, .g true, .g true] [] [(1, pk 1), (20, dc 5 eTTerrain zTTerrain p0.Terrains), (21, cL p0.Terrains), (22, cI x120), (66, cB true)] [(1, va (eTRules p0))] (fun t => aI (s_rName_ok v123.Name v125 h126) (aI c127 (aI c127 (aI c127 (aI c127 (aI c127 (aI c127 (aI c127 (aI c127 (aI (rfl : (true : Bool) = true) (aI (rfl : (true : Bool) = true) (aI (rfl : (true : Bool) = true) (aI (rfl : (true : Bool) = true) (aI (rfl : (true : Bool) = true) (aI (rfl : (true : Bool) = true) (aI (rfl : (true : Bool) = true) (aI (rfl : (true : Bool) = true) (aI (rfl : (true : Bool) = true) (aI (rfl : (true : Bool) = true) (aI (rfl : (true : Bool) = true) (aI (rfl : (true : Bool) = true) (aI (rfl : (true : Bool) = true) (aI (rfl : (true : Bool) = true) (aI (rfl : (true : Bool) = true) (aI (rfl : (true : Bool) = true) (aI (rfl : (true : Bool) = true) (aI (rfl : (true : Bool) = true) (aI (rfl : (true : Bool) = true) (aI (rfl : (true : Bool) = true) (aI (rfl : (true : Bool) = true) (aI (rfl : (true : Bool) = true) (aI (rfl : (true : Bool) = true) (t))))))))))))))))))))))))))))))))) ?_
      refine it (rfl : (true : Bool) = true) ?_
      refine so [] [] [(2, cB false)] [] id ?_
      refine ends_ret ?_
      cases H
      exact And.intro (by simp) (And.intro rfl rfl)
     ·obtain ⟨v128, h129, H⟩ := ofBind H
      rcases ofCond H with ⟨c130, H⟩ | ⟨c130, H⟩
      ·refine so [.res (cB v125), .g false, .g false, .g false, .g false, .g false, .res (cI v128), .g false, .g false, .g false, .g true, .g true, .g true, .g true, .g true, .g true, .g true, .g true, .g true, .g true, .g true, .g true, .g true, .g true, .g true, .g true, .g true, .g true, .g true, .g true, .g true, .g true, .g true] [] [(1, pk 1), (20, dc 5 eTTerrain zTTerrain p0.Terrains), (21, cL p0.Terrains), (22, cI x120), (66, cB true)] [(1, va (eTRules p0))] (fun t => aI (s_rName_ok v123.Name v125 h126) (aI c127 (aI c127 (aI c127 (aI c127 (aI c127 (aI (s_rTerrain_ok p0.Terrains v123.Name v128 h129) (aI c127 (aI c127 (aI c127 (aI c130 (aI c130 (aI c130 (aI c130 (aI c130 (aI c130 (aI c130 (aI c130 (aI (rfl : (true : Bool) = true) (aI (rfl : (true : Bool) = true) (aI (rfl : (true : Bool) = true) (aI (rfl : (true : Bool) = true) (aI (rfl : (true : Bool) = true) (aI (rfl : (true : Bool) = true) (aI (rfl : (true : Bool) = true) (aI (rfl : (true : Bool) = true) (aI (rfl : (true : Bool) = true) (aI (rfl : (true : Bool) = true) (aI (rfl : (true : Bool) = true) (aI (rfl : (true : Bool) = true) (aI (rfl : (true : Bool) = true) (aI (rfl : (true : Bool) = true) (aI (rfl : (true : Bool) = true) (t)))))))))))))))))))))))))))))))))) ?_
       refine it (rfl : (true : Bool) = true) ?_
       refine so [] [] [(2, cB false)] [] id ?_
       refine ends_ret ?_
       cases H
       exact And.intro (by simp) (And.intro rfl rfl)
      ·rcases ofCond H with ⟨c131, H⟩ | ⟨c131, H⟩
       ·refine so [.res (cB v125), .g false, .g false, .g false, .g false, .g false, .res (cI v128), .g false, .g false, .g false, .g false, .g false, .g false, .g false, .g false, .g false, .g false, .g false, .g true, .g true, .g true, .g true, .g true, .g true, .g true, .g true, .g true, .g true, .g true, .g true, .g true, .g true, .g true] [] [(1, pk 1), (20, dc 5 eTTerrain zTTerrain p0.Terrains), (21, cL p0.Terrains), (22, cI x120), (66, cB true)] [(1, va (eTRules p0))] (fun t => aI (s_rName_ok v123.Name v125 h126) (aI c127 (aI c127 (aI c127 (aI c127 (aI c127 (aI (s_rTerrain_ok p0.Terrains v123.Name v128 h129) (aI c127 (aI c127 (aI c127 (aI c130 (aI c130 (aI c130 (lI v123.Cost (aI c130 (aI c130 (aI c130 (lI p0.Kinds (aI c130 (aI c130 (aI c131 (aI c131 (aI c131 (aI c131 (aI c131 (aI (rfl : (true : Bool) = true) (aI (rfl : (true : Bool) = true) (aI (rfl : (true : Bool) = true) (aI (rfl : (true : Bool) = true) (aI (rfl : (true : Bool) = true) (aI (rfl : (true : Bool) = true) (aI (rfl : (true : Bool) = true) (aI (rfl : (true : Bool) = true) (aI (rfl : (true : Bool) = true) (aI (rfl : (true : Bool) = true) (t)))))))))))))))))))))))))))))))))))) ?_
        refine it (rfl : (true : Bool) = true) ?_
        refine so [] [] [(2, cB false)] [] id ?_
        refine ends_ret ?_
        cases H
        exact And.intro (by simp) (And.intro rfl rfl)
       ·obtain ⟨v132, h133, H⟩ := ofBind H
        rcases ofCond H with ⟨c134, H⟩ | ⟨c134, H⟩
        ·refine so [.res (cB v125), .g false, .g false, .g false, .g false, .g false, .res (cI v128), .g false, .g false, .g false, .g false, .g false, .g false, .g false, .g false, .g false, .g false, .g false, .g false, .g false, .g false, .res (cB v132), .g false, .g false, .g true, .g true, .g true, .g true, .g true, .g true, .g true, .g true, .g true, .g true] [] [(1, pk 1), (20, dc 5 eTTerrain zTTerrain p0.Terrains), (21, cL p0.Terrains), (22, cI x120), (66, cB true)] [(1, va (eTRules p0))] (fun t => aI (s_rName_ok v123.Name v125 h126) (aI c127 (aI c127 (aI c127 (aI c127 (aI c127 (aI (s_rTerrain_ok p0.Terrains v123.Name v128 h129) (aI c127 (aI c127 (aI c127 (aI c130 (aI c130 (aI c130 (lI v123.Cost (aI c130 (aI c130 (aI c130 (lI p0.Kinds (aI c130 (aI c130 (aI c131 (aI c131 (aI c131 (aI (s_l1All_ok v123.Cost 0 9 v132 h133) (aI c131 (aI c131 (aI c134 (aI c134 (aI c134 (aI c134 (aI c134 (aI (rfl : (true : Bool) = true) (aI (rfl : (true : Bool) = true) (aI (rfl : (true : Bool) = true) (aI (rfl : (true : Bool) = true) (aI (rfl : (true : Bool) = true) (t))))))))))))))))))))))))))))))))))))) ?_
         refine it (rfl : (true : Bool) = true) ?_
         refine so [] [] [(2, cB false)] [] id ?_
         refine ends_ret ?_
         cases H
         exact And.intro (by simp) (And.intro rfl rfl)
        ·obtain ⟨v135, h136, H⟩ := ofBind H
         rcases ofCond H with ⟨c137, H⟩ | ⟨c137, H⟩
         ·refine so [.res (cB v125), .g false, .g false, .g false, .g false, .g false, .res (cI v128), .g false, .g false, .g false, .g false, .g false, .g false, .g false, .g false, .g false, .g false, .g false, .g false, .g false, .g false, .res (cB v132), .g false, .g false, .g false, .g false, .g false, .res (cB v135), .g false, .g false, .g true, .g true, .g true, .g true, .g true] [] [(1, pk 1), (20, dc 5 eTTerrain zTTerrain p0.Terrains), (21, cL p0.Terrains), (22, cI x120), (66, cB true)] [(1, va (eTRules p0))] (fun t => aI (s_rName_ok v123.Name v125 h126) (aI c127 (aI c127 (aI c127 (aI c127 (aI c127 (aI (s_rTerrain_ok p0.Terrains v123.Name v128 h129) (aI c127 (aI c127 (aI c127 (aI c130 (aI c130 (aI c130 (lI v123.Cost (aI c130 (aI c130 (aI c130 (lI p0.Kinds (aI c130 (aI c130 (aI c131 (aI c131 (aI c131 (aI (s_l1All_ok v123.Cost 0 9 v132 h133) (aI c131 (aI c131 (aI c134 (aI c134 (aI c134 (aI (s_l1In_ok v123.Shift (-3) 3 v135 h136) (aI c134 (aI c134 (aI c137 (aI c137 (aI c137 (aI c137 (aI c137 (t)))))))))))))))))))))))))))))))))))))) ?_
          refine it (rfl : (true : Bool) = true) ?_
          refine so [] [] [(2, cB false)] [] id ?_
          refine ends_ret ?_
          cases H
          exact And.intro (by simp) (And.intro rfl rfl)
         ·obtain ⟨v138, h139, H⟩ := ofBind H
          refine so [.res (cB v125), .g false, .g false, .g false, .g false, .g false, .res (cI v128), .g false, .g false, .g false, .g false, .g false, .g false, .g false, .g false, .g false, .g false, .g false, .g false, .g false, .g false, .res (cB v132), .g false, .g false, .g false, .g false, .g false, .res (cB v135), .g false, .g false, .g false, .g false, .g false, .res (cB v138), .g false, .g false] [] [(1, pk 1), (20, dc 5 eTTerrain zTTerrain p0.Terrains), (21, cL p0.Terrains), (22, cI x120), (66, cB (!v138))] [(1, va (eTRules p0))] (fun t => aI (s_rName_ok v123.Name v125 h126) (aI c127 (aI c127 (aI c127 (aI c127 (aI c127 (aI (s_rTerrain_ok p0.Terrains v123.Name v128 h129) (aI c127 (aI c127 (aI c127 (aI c130 (aI c130 (aI c130 (lI v123.Cost (aI c130 (aI c130 (aI c130 (lI p0.Kinds (aI c130 (aI c130 (aI c131 (aI c131 (aI c131 (aI (s_l1All_ok v123.Cost 0 9 v132 h133) (aI c131 (aI c131 (aI c134 (aI c134 (aI c134 (aI (s_l1In_ok v123.Shift (-3) 3 v135 h136) (aI c134 (aI c134 (aI c137 (aI c137 (aI c137 (aI (s_l1In_ok v123.Height 0 3 v138 h139) (aI c137 (aI c137 (t))))))))))))))))))))))))))))))))))))))) ?_
          rcases ofCond H with ⟨c140, H⟩ | ⟨c140, H⟩
          ·refine it c140 ?_
           refine so [] [] [(2, cB false)] [] id ?_
           refine ends_ret ?_
           cases H
           exact And.intro (by simp) (And.intro rfl rfl)
          ·refine jf c140 ?_
           refine sk ?_
           refine oo [] [] [(1, pk 1), (20, dc 5 eTTerrain zTTerrain p0.Terrains), (21, cL p0.Terrains), (22, cI (W (x120 + 1)))] [(1, va (eTRules p0))] id ?_
           cases H
           exact And.intro rfl rfl
    ·refine jf c122 ?_
     refine tl [] [(1, pk 1)] [(1, va (eTRules p0))] id ?_
     refine ends_exit ?_
     cases H
     exact And.intro (by simp) (And.intro rfl rfl)
   ·clear h142
    cases y141 with
    | inl y143 =>
     replace H := ofInl H
     intro e s q
     obtain ⟨rfl, rfl⟩ := q
     change EndsI _ _ _ _ _ _
     refine seq_in ?_
     refine so [] [] [(1, pk 1), (69, dc 6 eTKind zTKind p0.Kinds), (70, cL p0.Kinds), (71, cI 0)] [(1, va (eTRules p0))] (fun t => lI p0.Kinds (t)) ?_
     refine ends_blk ?_
     obtain ⟨y285, h286, H⟩ := ofBind H
     refine loop_in (fun (x : Int) => lit [(1, pk 1), (69, dc 6 eTKind zTKind p0.Kinds), (70, cL p0.Kinds), (71, cI x)] [(1, va (eTRules p0))]) (orJ (fun (z : Unit) => At (.exit 2) (lit [(1, pk 1)] [(1, va (eTRules p0))])) (fun (z : Bool) => At .ret (lit [(2, cB z)] []))) h286 ?_ ?_
     ·clear H h286
      intro x262 y0 H
      refine so [] [] [(1, pk 1), (69, dc 6 eTKind zTKind p0.Kinds), (70, cL p0.Kinds), (71, cI x262), (72, cB (decide (x262 < (p0.Kinds.length : Int))))] [(1, va (eTRules p0))] id ?_
      refine seq_in ?_
      rcases ofCond H with ⟨c264, H⟩ | ⟨c264, H⟩
      ·refine it c264 ?_
       refine sk ?_
       refine seq_in ?_
       refine ends_blk ?_
       obtain ⟨v265, h266, H⟩ := ofBind H
       refine so [.cs (eTKind v265)] [] [(1, pk 1), (5, cI x262), (6, pk 6), (69, dc 6 eTKind zTKind p0.Kinds), (70, cL p0.Kinds), (71, cI x262)] [(1, va (eTRules p0)), (6, va (eTKind v265))] (a2 eTKind h266) ?_
       obtain ⟨v267, h268, H⟩ := ofBind H
       rcases ofCond H with ⟨c269, H⟩ | ⟨c269, H⟩
       ·refine so [.res (cB v267), .g true, .g true, .g true, .g true, .g true, .g true, .g true, .g true, .g true, .g true, .g true, .g true, .g true, .g true, .g true, .g true, .g true, .g true, .g true, .g true, .g true, .g true, .g true, .g true, .g true, .g true, .g true, .g true] [] [(1, pk 1), (69, dc 6 eTKind zTKind p0.Kinds), (70, cL p0.Kinds), (71, cI x262), (112, cB true)] [(1, va (eTRules p0))] (fun t => aI (s_rName_ok v265.Name v267 h268) (aI c269 (aI c269 (aI c269 (aI c269 (aI c269 (aI c269 (aI c269 (aI c269 (aI (rfl : (true : Bool) = true) (aI (rfl : (true : Bool) = true) (aI (rfl : (true : Bool) = true) (aI (rfl : (true : Bool) = true) (aI (rfl : (true : Bool) = true) (aI (rfl : (true : Bool) = true) (aI (rfl : (true : Bool) = true) (aI (rfl : (true : Bool) = true) (aI (rfl : (true : Bool) = true) (aI (rfl : (true : Bool) = true) (aI (rfl : (true : Bool) = true) (aI (rfl : (true : Bool) = true) (aI (rfl : (true : Bool) = true) (aI (rfl : (true : Bool) = true) (aI (rfl : (true : Bool) = true) (aI (rfl : (true : Bool) = true) (aI (rfl : (true : Bool) = true) (aI (rfl : (true : Bool) = true) (aI (rfl : (true : Bool) = true) (aI (rfl : (true : Bool) = true) (t)))))))))))))))))))))))))))))) ?_
        refine it (rfl : (true : Bool) = true) ?_
        refine so [] [] [(2, cB false)] [] id ?_
        refine ends_ret ?_
        cases H
        exact And.intro (by simp) (And.intro rfl rfl)
       ·obtain ⟨v270, h271, H⟩ := ofBind H
        rcases ofCond H with ⟨c272, H⟩ | ⟨c272, H⟩
        ·refine so [.res (cB v267), .g false, .g false, .g false, .g false, .g false, .res (cI v270), .g false, .g false, .g false, .g true, .g true, .g true, .g true, .g true, .g true, .g true, .g true, .g true, .g true, .g true, .g true, .g true, .g true, .g true, .g true, .g true, .g true, .g true, .g true] [] [(1, pk 1), (69, dc 6 eTKind zTKind p0.Kinds), (70, cL p0.Kinds), (71, cI x262), (112, cB true)] [(1, va (eTRules p0))] (fun t => aI (s_rName_ok v265.Name v267 h268) (aI c269 (aI c269 (aI c269 (aI c269 (aI c269 (aI (s_rKind_ok p0.Kinds v265.Name v270 h271) (aI c269 (aI c269 (aI c269 (aI c272 (aI c272 (aI c272 (aI c272 (aI c272 (aI (rfl : (true : Bool) = true) (aI (rfl : (true : Bool) = true) (aI (rfl : (true : Bool) = true) (aI (rfl : (true : Bool) = true) (aI (rfl : (true : Bool) = true) (aI (rfl : (true : Bool) = true) (aI (rfl : (true : Bool) = true) (aI (rfl : (true : Bool) = true) (aI (rfl : (true : Bool) = true) (aI (rfl : (true : Bool) = true) (aI (rfl : (true : Bool) = true) (aI (rfl : (true : Bool) = true) (aI (rfl : (true : Bool) = true) (aI (rfl : (true : Bool) = true) (aI (rfl : (true : Bool) = true) (t))))))))))))))))))))))))))))))) ?_
         refine it (rfl : (true : Bool) = true) ?_
         refine so [] [] [(2, cB false)] [] id ?_
         refine ends_ret ?_
         cases H
         exact And.intro (by simp) (And.intro rfl rfl)
        ·obtain ⟨v273, h274, H⟩ := ofBind H
         rcases ofCond H with ⟨c275, H⟩ | ⟨c275, H⟩
         ·refine so [.res (cB v267), .g false, .g false, .g false, .g false, .g false, .res (cI v270), .g false, .g false, .g false, .g false, .g false, .g false, .res (cB v273), .g false, .g false, .g true, .g true, .g true, .g true, .g true, .g true, .g true, .g true, .g true, .g true, .g true, .g true, .g true, .g true, .g true] [] [(1, pk 1), (69, dc 6 eTKind zTKind p0.Kinds), (70, cL p0.Kinds), (71, cI x262), (112, cB true)] [(1, va (eTRules p0))] (fun t => aI (s_rName_ok v265.Name v267 h268) (aI c269 (aI c269 (aI c269 (aI c269 (aI c269 (aI (s_rKind_ok p0.Kinds v265.Name v270 h271) (aI c269 (aI c269 (aI c269 (aI c272 (aI c272 (aI c272 (aI (s_l1In_ok v265.Strength 1 9 v273 h274) (aI c272 (aI c272 (aI c275 (aI c275 (aI c275 (aI c275 (aI c275 (aI (rfl : (true : Bool) = true) (aI (rfl : (true : Bool) = true) (aI (rfl : (true : Bool) = true) (aI (rfl : (true : Bool) = true) (aI (rfl : (true : Bool) = true) (aI (rfl : (true : Bool) = true) (aI (rfl : (true : Bool) = true) (aI (rfl : (true : Bool) = true) (aI (rfl : (true : Bool) = true) (aI (rfl : (true : Bool) = true) (t)))))))))))))))))))))))))))))))) ?_
          refine it (rfl : (true : Bool) = true) ?_
          refine so [] [] [(2, cB false)] [] id ?_
          refine ends_ret ?_
          cases H
          exact And.intro (by simp) (And.intro rfl rfl)
         ·obtain ⟨v276, h277, H⟩ := ofBind H
          rcases ofCond H with ⟨c278, H⟩ | ⟨c278, H⟩
          ·refine so [.res (cB v267), .g false, .g false, .g false, .g false, .g false, .res (cI v270), .g false, .g false, .g false, .g false, .g false, .g false, .res (cB v273), .g false, .g false, .g false, .g false, .g false, .res (cB v276), .g false, .g false, .g true, .g true, .g true, .g true, .g true, .g true, .g true, .g true, .g true, .g true] [] [(1, pk 1), (69, dc 6 eTKind zTKind p0.Kinds), (70, cL p0.Kinds), (71, cI x262), (112, cB true)] [(1, va (eTRules p0))] (fun t => aI (s_rName_ok v265.Name v267 h268) (aI c269 (aI c269 (aI c269 (aI c269 (aI c269 (aI (s_rKind_ok p0.Kinds v265.Name v270 h271) (aI c269 (aI c269 (aI c269 (aI c272 (aI c272 (aI c272 (aI (s_l1In_ok v265.Strength 1 9 v273 h274) (aI c272 (aI c272 (aI c275 (aI c275 (aI c275 (aI (s_l1In_ok v265.Moves 0 9 v276 h277) (aI c275 (aI c275 (aI c278 (aI c278 (aI c278 (aI c278 (aI c278 (aI (rfl : (true : Bool) = true) (aI (rfl : (true : Bool) = true) (aI (rfl : (true : Bool) = true) (aI (rfl : (true : Bool) = true) (aI (rfl : (true : Bool) = true) (t))))))))))))))))))))))))))))))))) ?_
           refine it (rfl : (true : Bool) = true) ?_
           refine so [] [] [(2, cB false)] [] id ?_
           refine ends_ret ?_
           cases H
           exact And.intro (by simp) (And.intro rfl rfl)
          ·obtain ⟨v279, h280, H⟩ := ofBind H
           rcases ofCond H with ⟨c281, H⟩ | ⟨c281, H⟩
           ·refine so [.res (cB v267), .g false, .g false, .g false, .g false, .g false, .res (cI v270), .g false, .g false, .g false, .g false, .g false, .g false, .res (cB v273), .g false, .g false, .g false, .g false, .g false, .res (cB v276), .g false, .g false, .g false, .g false, .g false, .res (cB v279), .g false, .g false, .g true, .g true, .g true, .g true, .g true] [] [(1, pk 1), (69, dc 6 eTKind zTKind p0.Kinds), (70, cL p0.Kinds), (71, cI x262), (112, cB true)] [(1, va (eTRules p0))] (fun t => aI (s_rName_ok v265.Name v267 h268) (aI c269 (aI c269 (aI c269 (aI c269 (aI c269 (aI (s_rKind_ok p0.Kinds v265.Name v270 h271) (aI c269 (aI c269 (aI c269 (aI c272 (aI c272 (aI c272 (aI (s_l1In_ok v265.Strength 1 9 v273 h274) (aI c272 (aI c272 (aI c275 (aI c275 (aI c275 (aI (s_l1In_ok v265.Moves 0 9 v276 h277) (aI c275 (aI c275 (aI c278 (aI c278 (aI c278 (aI (s_l1In_ok v265.Steps 1 4 v279 h280) (aI c278 (aI c278 (aI c281 (aI c281 (aI c281 (aI c281 (aI c281 (t)))))))))))))))))))))))))))))))))) ?_
            refine it (rfl : (true : Bool) = true) ?_
            refine so [] [] [(2, cB false)] [] id ?_
            refine ends_ret ?_
            cases H
            exact And.intro (by simp) (And.intro rfl rfl)
           ·obtain ⟨v282, h283, H⟩ := ofBind H
            refine so [.res (cB v267), .g false, .g false, .g false, .g false, .g false, .res (cI v270), .g false, .g false, .g false, .g false, .g false, .g false, .res (cB v273), .g false, .g false, .g false, .g false, .g false, .res (cB v276), .g false, .g false, .g false, .g false, .g false, .res (cB v279), .g false, .g false, .g false, .g false, .g false, .res (cB v282), .g false, .g false] [] [(1, pk 1), (69, dc 6 eTKind zTKind p0.Kinds), (70, cL p0.Kinds), (71, cI x262), (112, cB (!v282))] [(1, va (eTRules p0))] (fun t => aI (s_rName_ok v265.Name v267 h268) (aI c269 (aI c269 (aI c269 (aI c269 (aI c269 (aI (s_rKind_ok p0.Kinds v265.Name v270 h271) (aI c269 (aI c269 (aI c269 (aI c272 (aI c272 (aI c272 (aI (s_l1In_ok v265.Strength 1 9 v273 h274) (aI c272 (aI c272 (aI c275 (aI c275 (aI c275 (aI (s_l1In_ok v265.Moves 0 9 v276 h277) (aI c275 (aI c275 (aI c278 (aI c278 (aI c278 (aI (s_l1In_ok v265.Steps 1 4 v279 h280) (aI c278 (aI c278 (aI c281 (aI c281 (aI c281 (aI (s_l1In_ok v265.View 0 4 v282 h283) (aI c281 (aI c281 (t))))))))))))))))))))))))))))))))))) ?_
            rcases ofCond H with ⟨c284, H⟩ | ⟨c284, H⟩
            ·refine it c284 ?_
             refine so [] [] [(2, cB false)] [] id ?_
             refine ends_ret ?_
             cases H
             exact And.intro (by simp) (And.intro rfl rfl)
            ·refine jf c284 ?_
             refine sk ?_
             refine oo [] [] [(1, pk 1), (69, dc 6 eTKind zTKind p0.Kinds), (70, cL p0.Kinds), (71, cI (W (x262 + 1)))] [(1, va (eTRules p0))] id ?_
             cases H
             exact And.intro rfl rfl
      ·refine jf c264 ?_
       refine tl [] [(1, pk 1)] [(1, va (eTRules p0))] id ?_
       refine ends_exit ?_
       cases H
       exact And.intro (by simp) (And.intro rfl rfl)
     ·clear h286
      cases y285 with
      | inl y287 =>
       replace H := ofInl H
       intro e s q
       obtain ⟨rfl, rfl⟩ := q
       change EndsI _ _ _ _ _ _
       obtain ⟨v289, h290, H⟩ := ofBind H
       rcases ofCond H with ⟨c291, H⟩ | ⟨c291, H⟩
       ·obtain ⟨v292, h293, H⟩ := ofBind H
        rcases ofCond H with ⟨c294, H⟩ | ⟨c294, H⟩
        ·obtain ⟨v295, h296, H⟩ := ofBind H
         rcases ofCond H with ⟨c297, H⟩ | ⟨c297, H⟩
         ·obtain ⟨v298, h299, H⟩ := ofBind H
          rcases ofCond H with ⟨c300, H⟩ | ⟨c300, H⟩
          ·obtain ⟨v301, h302, H⟩ := ofBind H
           refine so [.res (cB v289), .g true, .g true, .g true, .res (cB v292), .g true, .g true, .g true, .g true, .res (cB v295), .g true, .g true, .g true, .g true, .res (cB v298), .g true, .g true, .g true, .g true, .res (cB v301), .g true] [] [(2, cB v301)] [] (fun t => aI (s_l1In_ok p0.Stack 1 4 v289 h290) (aI c291 (aI c291 (aI c291 (aI (s_l1In_ok p0.River 0 9 v292 h293) (aI c291 (aI c294 (aI c294 (aI c294 (aI (s_l1In_ok p0.Road 1 9 v295 h296) (aI c294 (aI c297 (aI c297 (aI c297 (aI (s_l1In_ok p0.Supply 0 20 v298 h299) (aI c297 (aI c300 (aI c300 (aI c300 (aI (s_l1In_ok p0.Turns 1 30 v301 h302) (aI c300 (t)))))))))))))))))))))) ?_
           refine ends_ret ?_
           cases H
           exact And.intro (.inl rfl) rfl
          ·refine so [.res (cB v289), .g true, .g true, .g true, .res (cB v292), .g true, .g true, .g true, .g true, .res (cB v295), .g true, .g true, .g true, .g true, .res (cB v298), .g true, .g false, .g false, .g false, .g false] [] [(2, cB false)] [] (fun t => aI (s_l1In_ok p0.Stack 1 4 v289 h290) (aI c291 (aI c291 (aI c291 (aI (s_l1In_ok p0.River 0 9 v292 h293) (aI c291 (aI c294 (aI c294 (aI c294 (aI (s_l1In_ok p0.Road 1 9 v295 h296) (aI c294 (aI c297 (aI c297 (aI c297 (aI (s_l1In_ok p0.Supply 0 20 v298 h299) (aI c297 (aI c300 (aI c300 (aI c300 (aI c300 (t))))))))))))))))))))) ?_
           refine ends_ret ?_
           cases H
           exact And.intro (.inl rfl) rfl
         ·refine so [.res (cB v289), .g true, .g true, .g true, .res (cB v292), .g true, .g true, .g true, .g true, .res (cB v295), .g true, .g false, .g false, .g false, .g false, .g false, .g false, .g false, .g false] [] [(2, cB false)] [] (fun t => aI (s_l1In_ok p0.Stack 1 4 v289 h290) (aI c291 (aI c291 (aI c291 (aI (s_l1In_ok p0.River 0 9 v292 h293) (aI c291 (aI c294 (aI c294 (aI c294 (aI (s_l1In_ok p0.Road 1 9 v295 h296) (aI c294 (aI c297 (aI c297 (aI c297 (aI c297 (aI (rfl : (false : Bool) = false) (aI (rfl : (false : Bool) = false) (aI (rfl : (false : Bool) = false) (aI (rfl : (false : Bool) = false) (t)))))))))))))))))))) ?_
          refine ends_ret ?_
          cases H
          exact And.intro (.inl rfl) rfl
        ·refine so [.res (cB v289), .g true, .g true, .g true, .res (cB v292), .g true, .g false, .g false, .g false, .g false, .g false, .g false, .g false, .g false, .g false, .g false, .g false, .g false] [] [(2, cB false)] [] (fun t => aI (s_l1In_ok p0.Stack 1 4 v289 h290) (aI c291 (aI c291 (aI c291 (aI (s_l1In_ok p0.River 0 9 v292 h293) (aI c291 (aI c294 (aI c294 (aI c294 (aI c294 (aI (rfl : (false : Bool) = false) (aI (rfl : (false : Bool) = false) (aI (rfl : (false : Bool) = false) (aI (rfl : (false : Bool) = false) (aI (rfl : (false : Bool) = false) (aI (rfl : (false : Bool) = false) (aI (rfl : (false : Bool) = false) (aI (rfl : (false : Bool) = false) (t))))))))))))))))))) ?_
         refine ends_ret ?_
         cases H
         exact And.intro (.inl rfl) rfl
       ·refine so [.res (cB v289), .g false, .g false, .g false, .g false, .g false, .g false, .g false, .g false, .g false, .g false, .g false, .g false, .g false, .g false, .g false, .g false] [] [(2, cB false)] [] (fun t => aI (s_l1In_ok p0.Stack 1 4 v289 h290) (aI c291 (aI c291 (aI c291 (aI c291 (aI (rfl : (false : Bool) = false) (aI (rfl : (false : Bool) = false) (aI (rfl : (false : Bool) = false) (aI (rfl : (false : Bool) = false) (aI (rfl : (false : Bool) = false) (aI (rfl : (false : Bool) = false) (aI (rfl : (false : Bool) = false) (aI (rfl : (false : Bool) = false) (aI (rfl : (false : Bool) = false) (aI (rfl : (false : Bool) = false) (aI (rfl : (false : Bool) = false) (aI (rfl : (false : Bool) = false) (t)))))))))))))))))) ?_
        refine ends_ret ?_
        cases H
        exact And.intro (.inl rfl) rfl
      | inr y288 =>
       replace H := ofInr H
       intro e s q
       obtain ⟨rfl, rfl⟩ := q
       cases H
       exact And.intro (.inl rfl) rfl
    | inr y144 =>
     replace H := ofInr H
     intro e s q
     obtain ⟨rfl, rfl⟩ := q
     cases H
     exact And.intro (.inl rfl) rfl
def s_mSize_ir : S :=
 (sq [o 1 (.box 5 (.t 0)), o 2 (.mv (iv 0))]
 (sq [o 3 (.fad 0 (.t 1)), o 4 (.load 1 false (.t 3)), o 5 (.fad 1 (.t 1)), o 6 (.load 1 false (.t 5)), o 7 (.bin .mul (.t 4) (.t 6)), om 2 7]
 .ret))
noncomputable def X.s_mSize (p0 : TMap) : Option Int :=
 some (W (p0.Width * p0.Height))
theorem s_mSize_ok (p0 : TMap) (r : Int) (H : X.s_mSize p0 = some r) : FnOk Tryz.prog gl 130 [.agg (eTMap p0)] (cI r) := by
 unfold X.s_mSize at H
 refine fi Tryz.f130 s_mSize_ir [(2, cI r)] [] glL Tryz.func130 ?_
 refine so [] [] [(1, pk 1)] [(1, va (eTMap p0))] id ?_
 refine so [] [] [(2, cI (W (p0.Width * p0.Height)))] [] id ?_
 refine ends_ret ?_
 cases H
 exact And.intro (.inl rfl) rfl
def s_l1Rising_ir : S :=
 (sq [o 6 (.mv (.v (.bool false)))]
 (.seq (sq [om 9 0, o 10 (.len (.t 9)), o 11 (.mv (iv 0))]
 (.blk 0 (.loop (sq [o 12 (.bin .lss (.t 11) (.t 10))]
   (.seq (.ite (.t 12) .skip
   (.exit 0))
   (.seq (.blk 1 (sq [om 13 11, o 14 (.iad 1 (.t 9) (.t 11)), o 15 (.load 1 false (.t 14)), om 7 13, om 8 15]
    (sq [om 16 8, om 17 1, om 18 2, o 19 (.call 91 [.t 16, .t 17, .t 18]), o 20 (.not (.t 19)), om 21 20, ⟨some 22, .mv (.t 7), some (21, false)⟩, ⟨some 23, .bin .gtr (.t 22) (iv 0), some (21, false)⟩, ⟨some 24, .mv (.t 23), some (21, false)⟩, ⟨some 25, .mv (.t 0), some (24, true)⟩, ⟨some 26, .mv (.t 7), some (24, true)⟩, ⟨some 27, .bin .sub (.t 26) (iv 1), some (24, true)⟩, ⟨some 28, .iad 1 (.t 25) (.t 27), some (24, true)⟩, ⟨some 29, .load 1 false (.t 28), some (24, true)⟩, ⟨some 30, .mv (.t 8), some (24, true)⟩, ⟨some 31, .bin .geq (.t 29) (.t 30), some (24, true)⟩, ⟨some 32, .pick (.t 24) (.t 31) (.v (.bool false)), some (21, false)⟩, o 33 (.pick (.t 21) (.v (.bool true)) (.t 32))]
    (.ite (.t 33) (sq [o 6 (.mv (.v (.bool false)))]
     .ret)
    .skip))))
   (.ops [o 34 (.bin .add (.t 11) (iv 1)), om 11 34])))))))
 (sq [o 6 (.mv (.v (.bool true)))]
 .ret)))
noncomputable def X.s_l1Rising (p0 : (List Int)) (p1 : Int) (p2 : Int) : Option Bool :=
 ((loop (fun (x24 : Int) => ((bif (decide (x24 < (p0.length : Int))) then ((at' zI p0 x24).bind fun v27 => ((X.s_l1In v27 p1 p2).bind fun v29 => (bif (!v29) then some (Sum.inr (Sum.inr false)) else (bif (decide (x24 > 0)) then ((at' zI p0 (W (x24 - 1))).bind fun v33 => (bif (decide (v33 ≥ v27)) then some (Sum.inr (Sum.inr false)) else some (Sum.inl (W (x24 + 1))))) else some (Sum.inl (W (x24 + 1))))))) else some (Sum.inr (Sum.inl ()))) : Option (Int ⊕ (Unit ⊕ Bool)))) 0).bind fun y36 => (Sum.elim (fun (y38 : Unit) => some true) (fun (y39 : Bool) => some y39) y36))
theorem s_l1Rising_ok (p0 : (List Int)) (p1 : Int) (p2 : Int) (r : Bool) (H : X.s_l1Rising p0 p1 p2 = some r) : FnOk Tryz.prog gl 129 [.c (dat 1 eI zI p0), cI p1, cI p2] (cB r) := by
 unfold X.s_l1Rising at H
 refine fi Tryz.f129 s_l1Rising_ir [(6, cB r)] [] glL Tryz.func129 ?_
 refine so [] [] [(0, dc 1 eI zI p0), (1, cI p1), (2, cI p2)] [] id ?_
 refine seq_in ?_
 refine so [] [] [(0, dc 1 eI zI p0), (1, cI p1), (2, cI p2), (9, dc 1 eI zI p0), (10, cL p0), (11, cI 0)] [] (fun t => lI p0 (t)) ?_
 refine ends_blk ?_
 obtain ⟨y36, h37, H⟩ := ofBind H
 refine loop_in (fun (x : Int) => lit [(0, dc 1 eI zI p0), (1, cI p1), (2, cI p2), (9, dc 1 eI zI p0), (10, cL p0), (11, cI x)] []) (orJ (fun (z : Unit) => At (.exit 0) (lit [] [])) (fun (z : Bool) => At .ret (lit [(6, cB z)] []))) h37 ?_ ?_
 ·clear H h37
  intro x24 y0 H
  refine so [] [] [(0, dc 1 eI zI p0), (1, cI p1), (2, cI p2), (9, dc 1 eI zI p0), (10, cL p0), (11, cI x24), (12, cB (decide (x24 < (p0.length : Int))))] [] id ?_
  refine seq_in ?_
  rcases ofCond H with ⟨c26, H⟩ | ⟨c26, H⟩
  ·refine it c26 ?_
   refine sk ?_
   refine seq_in ?_
   refine ends_blk ?_
   obtain ⟨v27, h28, H⟩ := ofBind H
   refine so [.cs (eI v27)] [] [(0, dc 1 eI zI p0), (1, cI p1), (2, cI p2), (7, cI x24), (8, cI v27), (9, dc 1 eI zI p0), (10, cL p0), (11, cI x24)] [] (a2 eI h28) ?_
   obtain ⟨v29, h30, H⟩ := ofBind H
   rcases ofCond H with ⟨c31, H⟩ | ⟨c31, H⟩
   ·refine so [.res (cB v29), .g true, .g true, .g true, .g true, .g true] [] [(0, dc 1 eI zI p0), (1, cI p1), (2, cI p2), (9, dc 1 eI zI p0), (10, cL p0), (11, cI x24), (33, cB true)] [] (fun t => aI (s_l1In_ok v27 p1 p2 v29 h30) (aI c31 (aI c31 (aI c31 (aI c31 (aI c31 (t))))))) ?_
    refine it (rfl : (true : Bool) = true) ?_
    refine so [] [] [(6, cB false)] [] id ?_
    refine ends_ret ?_
    cases H
    exact And.intro (by simp) (And.intro rfl rfl)
   ·rcases ofCond H with ⟨c32, H⟩ | ⟨c32, H⟩
    ·obtain ⟨v33, h34, H⟩ := ofBind H
     refine so [.res (cB v29), .g false, .g false, .g false, .g true, .g true, .g true, .g true, .cs (eI v33), .g true, .g true, .g true, .g false, .g true, .g false] [] [(0, dc 1 eI zI p0), (1, cI p1), (2, cI p2), (9, dc 1 eI zI p0), (10, cL p0), (11, cI x24), (33, cB (decide (v33 ≥ v27)))] [] (fun t => aI (s_l1In_ok v27 p1 p2 v29 h30) (aI c31 (aI c31 (aI c31 (aI c32 (aI c32 (aI c32 (aI c32 ((a2 eI h34 (aI c32 (aI c32 (aI c32 (aI c31 (aI c32 (aI c31 (t))))))))))))))))) ?_
     rcases ofCond H with ⟨c35, H⟩ | ⟨c35, H⟩
     ·refine it c35 ?_
      refine so [] [] [(6, cB false)] [] id ?_
      refine ends_ret ?_
      cases H
      exact And.intro (by simp) (And.intro rfl rfl)
     ·refine jf c35 ?_
      refine sk ?_
      refine oo [] [] [(0, dc 1 eI zI p0), (1, cI p1), (2, cI p2), (9, dc 1 eI zI p0), (10, cL p0), (11, cI (W (x24 + 1)))] [] id ?_
      cases H
      exact And.intro rfl rfl
    ·refine so [.res (cB v29), .g false, .g false, .g false, .g false, .g false, .g false, .g false, .g false, .g false, .g false, .g false, .g false, .g false] [] [(0, dc 1 eI zI p0), (1, cI p1), (2, cI p2), (9, dc 1 eI zI p0), (10, cL p0), (11, cI x24), (33, cB false)] [] (fun t => aI (s_l1In_ok v27 p1 p2 v29 h30) (aI c31 (aI c31 (aI c31 (aI c32 (aI c32 (aI c32 (aI c32 (aI c32 (aI c32 (aI c32 (aI c31 (aI c32 (aI c31 (t))))))))))))))) ?_
     refine jf (rfl : (false : Bool) = false) ?_
     refine sk ?_
     refine oo [] [] [(0, dc 1 eI zI p0), (1, cI p1), (2, cI p2), (9, dc 1 eI zI p0), (10, cL p0), (11, cI (W (x24 + 1)))] [] id ?_
     cases H
     exact And.intro rfl rfl
  ·refine jf c26 ?_
   refine tl [] [] [] id ?_
   refine ends_exit ?_
   cases H
   exact And.intro (by simp) (And.intro rfl rfl)
 ·clear h37
  cases y36 with
  | inl y38 =>
   replace H := ofInl H
   intro e s q
   obtain ⟨rfl, rfl⟩ := q
   change EndsI _ _ _ _ _ _
   refine so [] [] [(6, cB true)] [] id ?_
   refine ends_ret ?_
   cases H
   exact And.intro (.inl rfl) rfl
  | inr y39 =>
   replace H := ofInr H
   intro e s q
   obtain ⟨rfl, rfl⟩ := q
   cases H
   exact And.intro (.inl rfl) rfl
def s_mHex_ir : S :=
 (sq [o 2 (.box 5 (.t 0)), o 4 (.alloc [.int .i64 0, .int .i64 0])]
 (.seq (.draw 9 [om 5 1, o 6 (.fad 0 (.t 2)), o 7 (.load 1 false (.t 6)), o 8 (.bin .rem (.t 5) (.t 7)), om 9 1, o 10 (.fad 0 (.t 2)), o 11 (.load 1 false (.t 10)), o 12 (.bin .quo (.t 9) (.t 11)), o 13 (.build [.int .i64 0, .int .i64 0] [(0, 1, .t 8), (1, 1, .t 12)]), ⟨none, .store 2 (.t 4) (.t 13), none⟩])
 .ret))
noncomputable def X.s_mHex (p0 : TMap) (p1 : Int) : Option THex :=
 (if p0.Width ≠ 0 then (if p0.Width ≠ 0 then some (THex.mk (Int.tmod p1 p0.Width) (W (Int.tdiv p1 p0.Width))) else none) else none)
theorem s_mHex_ok (p0 : TMap) (p1 : Int) (r : THex) (H : X.s_mHex p0 p1 = some r) : FnOk Tryz.prog gl 233 [.agg (eTMap p0), cI p1] (.agg (eTHex r)) := by
 unfold X.s_mHex at H
 refine fi Tryz.f233 s_mHex_ir [(4, pk 4)] [(4, va (eTHex r))] glL Tryz.func233 ?_
 refine so [] [] [(1, cI p1), (2, pk 2), (4, pk 4)] [(2, va (eTMap p0)), (4, .var [.int .i64 0, .int .i64 0] false)] id ?_
 obtain ⟨g1, H⟩ := ofIf H
 obtain ⟨g2, H⟩ := ofIf H
 refine sd [] [] [(4, pk 4)] [(4, .var [.int .i64 (Int.tmod p1 p0.Width), .int .i64 (W (Int.tdiv p1 p0.Width))] false)] (fun t => aI g1 (aI g2 (t))) ?_
 refine ends_ret ?_
 cases H
 exact And.intro (.inl rfl) rfl
def s_mIndex_ir : S :=
 (sq [o 2 (.box 5 (.t 0)), o 3 (.box 2 (.t 1)), o 4 (.mv (iv 0))]
 (.seq (sq [o 5 (.fad 0 (.t 3)), o 6 (.load 1 false (.t 5)), o 7 (.fad 0 (.t 2)), o 8 (.load 1 false (.t 7)), o 9 (.bin .sub (.t 8) (iv 1)), o 10 (.call 91 [.t 6, .v (.int .i64 0), .t 9]), o 11 (.not (.t 10)), om 12 11, ⟨some 13, .fad 1 (.t 3), some (12, false)⟩, ⟨some 14, .load 1 false (.t 13), some (12, false)⟩, ⟨some 15, .fad 1 (.t 2), some (12, false)⟩, ⟨some 16, .load 1 false (.t 15), some (12, false)⟩, ⟨some 17, .bin .sub (.t 16) (iv 1), some (12, false)⟩, ⟨some 18, .call 91 [.t 14, .v (.int .i64 0), .t 17], some (12, false)⟩, ⟨some 19, .not (.t 18), some (12, false)⟩, o 20 (.pick (.t 12) (.v (.bool true)) (.t 19))]
 (.ite (.t 20) (sq [o 4 (.mv (.v (.int .i64 (-1))))]
  .ret)
 .skip))
 (sq [o 21 (.fad 1 (.t 3)), o 22 (.load 1 false (.t 21)), o 23 (.fad 0 (.t 2)), o 24 (.load 1 false (.t 23)), o 25 (.bin .mul (.t 22) (.t 24)), o 26 (.fad 0 (.t 3)), o 27 (.load 1 false (.t 26)), o 28 (.bin .add (.t 25) (.t 27)), om 4 28]
 .ret)))
noncomputable def X.s_mIndex (p0 : TMap) (p1 : THex) : Option Int :=
 ((X.s_l1In p1.Q 0 (W (p0.Width - 1))).bind fun v7 => (bif (!v7) then some (-1) else ((X.s_l1In p1.R 0 (W (p0.Height - 1))).bind fun v10 => (bif (!v10) then some (-1) else some (W ((W (p1.R * p0.Width)) + p1.Q))))))
theorem s_mIndex_ok (p0 : TMap) (p1 : THex) (r : Int) (H : X.s_mIndex p0 p1 = some r) : FnOk Tryz.prog gl 275 [.agg (eTMap p0), .agg (eTHex p1)] (cI r) := by
 unfold X.s_mIndex at H
 refine fi Tryz.f275 s_mIndex_ir [(4, cI r)] [] glL Tryz.func275 ?_
 refine so [] [] [(2, pk 2), (3, pk 3)] [(2, va (eTMap p0)), (3, va (eTHex p1))] id ?_
 refine seq_in ?_
 obtain ⟨v7, h8, H⟩ := ofBind H
 rcases ofCond H with ⟨c9, H⟩ | ⟨c9, H⟩
 ·refine so [.res (cB v7), .g true, .g true, .g true, .g true, .g true, .g true, .g true, .g true] [] [(2, pk 2), (3, pk 3), (20, cB true)] [(2, va (eTMap p0)), (3, va (eTHex p1))] (fun t => aI (s_l1In_ok p1.Q 0 (W (p0.Width - 1)) v7 h8) (aI c9 (aI c9 (aI c9 (aI c9 (aI c9 (aI c9 (aI c9 (aI c9 (t)))))))))) ?_
  refine it (rfl : (true : Bool) = true) ?_
  refine so [] [] [(4, cI (-1))] [] id ?_
  refine ends_ret ?_
  cases H
  exact And.intro (.inl rfl) rfl
 ·obtain ⟨v10, h11, H⟩ := ofBind H
  refine so [.res (cB v7), .g false, .g false, .g false, .g false, .g false, .g false, .res (cB v10), .g false, .g false] [] [(2, pk 2), (3, pk 3), (20, cB (!v10))] [(2, va (eTMap p0)), (3, va (eTHex p1))] (fun t => aI (s_l1In_ok p1.Q 0 (W (p0.Width - 1)) v7 h8) (aI c9 (aI c9 (aI c9 (aI c9 (aI c9 (aI c9 (aI (s_l1In_ok p1.R 0 (W (p0.Height - 1)) v10 h11) (aI c9 (aI c9 (t))))))))))) ?_
  rcases ofCond H with ⟨c12, H⟩ | ⟨c12, H⟩
  ·refine it c12 ?_
   refine so [] [] [(4, cI (-1))] [] id ?_
   refine ends_ret ?_
   cases H
   exact And.intro (.inl rfl) rfl
  ·refine jf c12 ?_
   refine sk ?_
   refine so [] [] [(4, cI (W ((W (p1.R * p0.Width)) + p1.Q)))] [] id ?_
   refine ends_ret ?_
   cases H
   exact And.intro (.inl rfl) rfl
def s_hStep_ir : S :=
 (sq [o 2 (.box 2 (.t 0)), o 4 (.alloc [.int .i64 0, .int .i64 0])]
 (.seq (.draw 15 [o 5 (.fad 0 (.t 2)), o 6 (.load 1 false (.t 5)), o 7 (.bsl 1 [.v (.int .i64 1), .v (.int .i64 1), .v (.int .i64 0), .v (.int .i64 (-1)), .v (.int .i64 (-1)), .v (.int .i64 0)]), om 8 1, o 9 (.iad 1 (.t 7) (.t 8)), o 10 (.load 1 false (.t 9)), o 11 (.bin .add (.t 6) (.t 10)), o 12 (.fad 1 (.t 2)), o 13 (.load 1 false (.t 12)), o 14 (.bsl 1 [.v (.int .i64 0), .v (.int .i64 (-1)), .v (.int .i64 (-1)), .v (.int .i64 0), .v (.int .i64 1), .v (.int .i64 1)]), om 15 1, o 16 (.iad 1 (.t 14) (.t 15)), o 17 (.load 1 false (.t 16)), o 18 (.bin .add (.t 13) (.t 17)), o 19 (.build [.int .i64 0, .int .i64 0] [(0, 1, .t 11), (1, 1, .t 18)]), ⟨none, .store 2 (.t 4) (.t 19), none⟩])
 .ret))
noncomputable def X.s_hStep (p0 : THex) (p1 : Int) : Option THex :=
 (if 0 ≤ p1 ∧ p1 < (([1, 1, 0, -1, -1, 0] : List Int).length : Int) then (if 0 ≤ p1 ∧ p1 < (([0, -1, -1, 0, 1, 1] : List Int).length : Int) then some (THex.mk (W (p0.Q + (([1, 1, 0, -1, -1, 0] : List Int).getD p1.toNat zI))) (W (p0.R + (([0, -1, -1, 0, 1, 1] : List Int).getD p1.toNat zI)))) else none) else none)
theorem s_hStep_ok (p0 : THex) (p1 : Int) (r : THex) (H : X.s_hStep p0 p1 = some r) : FnOk Tryz.prog gl 276 [.agg (eTHex p0), cI p1] (.agg (eTHex r)) := by
 unfold X.s_hStep at H
 refine fi Tryz.f276 s_hStep_ir [(4, pk 4)] [(4, va (eTHex r))] glL Tryz.func276 ?_
 refine so [] [] [(1, cI p1), (2, pk 2), (4, pk 4)] [(2, va (eTHex p0)), (4, .var [.int .i64 0, .int .i64 0] false)] id ?_
 obtain ⟨g1, H⟩ := ofIf H
 obtain ⟨g2, H⟩ := ofIf H
 refine sd [.no, fh eI zI ([1, 1, 0, -1, -1, 0] : List Int), .no, .no, fh eI zI ([0, -1, -1, 0, 1, 1] : List Int), .no] [] [(4, pk 4)] [(4, .var [.int .i64 (W (p0.Q + (([1, 1, 0, -1, -1, 0] : List Int).getD p1.toNat zI))), .int .i64 (W (p0.R + (([0, -1, -1, 0, 1, 1] : List Int).getD p1.toNat zI)))] false)] (fun t => aI (rfl : ([1, 1, 0, -1, -1, 0] : List Int).length = 6) (aI (rfl : true = true) (aI (fF_lit eI zI ([1, 1, 0, -1, -1, 0] : List Int)) (aI g1 (aI (nat_lt g1) (aI (rfl : ([] : List Nat) = []) (aI (rfl : ([0, -1, -1, 0, 1, 1] : List Int).length = 6) (aI (rfl : true = true) (aI (fF_lit eI zI ([0, -1, -1, 0, 1, 1] : List Int)) (aI g2 (aI (nat_lt g2) (aI (rfl : ([] : List Nat) = []) (t))))))))))))) ?_
 refine ends_ret ?_
 cases H
 exact And.intro (.inl rfl) rfl
def s_mNext_ir : S :=
 (sq [o 3 (.box 5 (.t 0)), o 6 (.mv (iv 0))]
 (.seq (.draw 8 [o 7 (.load 5 true (.t 3)), o 8 (.load 5 true (.t 3)), om 9 1, o 10 (.call 233 [.t 8, .t 9]), om 11 2, o 12 (.call 276 [.t 10, .t 11]), o 13 (.call 275 [.t 7, .t 12]), om 6 13])
 .ret))
noncomputable def X.s_mNext (p0 : TMap) (p1 : Int) (p2 : Int) : Option Int :=
 ((X.s_mHex p0 p1).bind fun v1 => ((X.s_hStep v1 p2).bind fun v3 => ((X.s_mIndex p0 v3).bind fun v5 => some v5)))
theorem s_mNext_ok (p0 : TMap) (p1 : Int) (p2 : Int) (r : Int) (H : X.s_mNext p0 p1 p2 = some r) : FnOk Tryz.prog gl 224 [.agg (eTMap p0), cI p1, cI p2] (cI r) := by
 unfold X.s_mNext at H
 refine fi Tryz.f224 s_mNext_ir [(6, cI r)] [] glL Tryz.func224 ?_
 refine so [] [] [(1, cI p1), (2, cI p2), (3, pk 3)] [(3, va (eTMap p0))] id ?_
 obtain ⟨v1, h2, H⟩ := ofBind H
 obtain ⟨v3, h4, H⟩ := ofBind H
 obtain ⟨v5, h6, H⟩ := ofBind H
 refine sd [.res (.agg (eTHex v1)), .res (.agg (eTHex v3)), .res (cI v5)] [] [(6, cI v5)] [] (fun t => aI (s_mHex_ok p0 p1 v1 h2) (aI trivial (aI (rfl : ([] : List Nat) = []) (aI (s_hStep_ok v1 p2 v3 h4) (aI trivial (aI (rfl : ([] : List Nat) = []) (aI (s_mIndex_ok p0 v3 v5 h6) (aI trivial (aI (rfl : ([] : List Nat) = []) (t)))))))))) ?_
 refine ends_ret ?_
 cases H
 exact And.intro (.inl rfl) rfl
def s_mEdges_ir : S :=
 (sq [o 2 (.box 5 (.t 0)), o 4 (.mv (.v (.bool false)))]
 (.seq (sq [om 7 1, o 8 (.len (.t 7)), o 9 (.mv (iv 0))]
 (.blk 0 (.loop (sq [o 10 (.bin .lss (.t 9) (.t 8))]
   (.seq (.ite (.t 10) .skip
   (.exit 0))
   (.seq (.blk 1 (sq [o 11 (.iad 1 (.t 7) (.t 9)), o 12 (.load 1 false (.t 11)), om 6 12]
    (sq [om 13 6, o 14 (.load 5 true (.t 2)), o 15 (.call 130 [.t 14]), o 16 (.bin .mul (iv 3) (.t 15)), o 17 (.bin .sub (.t 16) (iv 1)), o 18 (.call 91 [.t 13, .v (.int .i64 0), .t 17]), o 19 (.not (.t 18)), om 20 19, ⟨some 21, .load 5 true (.t 2), some (20, false)⟩, ⟨some 22, .mv (.t 6), some (20, false)⟩, ⟨some 23, .bin .quo (.t 22) (iv 3), some (20, false)⟩, ⟨some 24, .mv (.t 6), some (20, false)⟩, ⟨some 25, .bin .rem (.t 24) (iv 3), some (20, false)⟩, ⟨some 26, .call 224 [.t 21, .t 23, .t 25], some (20, false)⟩, ⟨some 27, .bin .lss (.t 26) (iv 0), some (20, false)⟩, o 28 (.pick (.t 20) (.v (.bool true)) (.t 27))]
    (.ite (.t 28) (sq [o 4 (.mv (.v (.bool false)))]
     .ret)
    .skip))))
   (.ops [o 29 (.bin .add (.t 9) (iv 1)), om 9 29])))))))
 (sq [om 30 1, o 31 (.load 5 true (.t 2)), o 32 (.call 130 [.t 31]), o 33 (.bin .mul (iv 3) (.t 32)), o 34 (.bin .sub (.t 33) (iv 1)), o 35 (.call 129 [.t 30, .v (.int .i64 0), .t 34]), om 4 35]
 .ret)))
noncomputable def X.s_mEdges (p0 : TMap) (p1 : (List Int)) : Option Bool :=
 ((loop (fun (x68 : Int) => ((bif (decide (x68 < (p1.length : Int))) then ((at' zI p1 x68).bind fun v71 => ((X.s_mSize p0).bind fun v73 => ((X.s_l1In v71 0 (W ((W (3 * v73)) - 1))).bind fun v75 => (bif (!v75) then some (Sum.inr (Sum.inr false)) else ((X.s_mNext p0 (W (Int.tdiv v71 3)) (Int.tmod v71 3)).bind fun v78 => (bif (decide (v78 < 0)) then some (Sum.inr (Sum.inr false)) else some (Sum.inl (W (x68 + 1))))))))) else some (Sum.inr (Sum.inl ()))) : Option (Int ⊕ (Unit ⊕ Bool)))) 0).bind fun y81 => (Sum.elim (fun (y83 : Unit) => ((X.s_mSize p0).bind fun v85 => ((X.s_l1Rising p1 0 (W ((W (3 * v85)) - 1))).bind fun v87 => some v87))) (fun (y84 : Bool) => some y84) y81))
theorem s_mEdges_ok (p0 : TMap) (p1 : (List Int)) (r : Bool) (H : X.s_mEdges p0 p1 = some r) : FnOk Tryz.prog gl 197 [.agg (eTMap p0), .c (dat 1 eI zI p1)] (cB r) := by
 unfold X.s_mEdges at H
 refine fi Tryz.f197 s_mEdges_ir [(4, cB r)] [] glL Tryz.func197 ?_
 refine so [] [] [(1, dc 1 eI zI p1), (2, pk 2)] [(2, va (eTMap p0))] id ?_
 refine seq_in ?_
 refine so [] [] [(1, dc 1 eI zI p1), (2, pk 2), (7, dc 1 eI zI p1), (8, cL p1), (9, cI 0)] [(2, va (eTMap p0))] (fun t => lI p1 (t)) ?_
 refine ends_blk ?_
 obtain ⟨y81, h82, H⟩ := ofBind H
 refine loop_in (fun (x : Int) => lit [(1, dc 1 eI zI p1), (2, pk 2), (7, dc 1 eI zI p1), (8, cL p1), (9, cI x)] [(2, va (eTMap p0))]) (orJ (fun (z : Unit) => At (.exit 0) (lit [(1, dc 1 eI zI p1), (2, pk 2)] [(2, va (eTMap p0))])) (fun (z : Bool) => At .ret (lit [(4, cB z)] []))) h82 ?_ ?_
 ·clear H h82
  intro x68 y0 H
  refine so [] [] [(1, dc 1 eI zI p1), (2, pk 2), (7, dc 1 eI zI p1), (8, cL p1), (9, cI x68), (10, cB (decide (x68 < (p1.length : Int))))] [(2, va (eTMap p0))] id ?_
  refine seq_in ?_
  rcases ofCond H with ⟨c70, H⟩ | ⟨c70, H⟩
  ·refine it c70 ?_
   refine sk ?_
   refine seq_in ?_
   refine ends_blk ?_
   obtain ⟨v71, h72, H⟩ := ofBind H
   refine so [.cs (eI v71)] [] [(1, dc 1 eI zI p1), (2, pk 2), (6, cI v71), (7, dc 1 eI zI p1), (8, cL p1), (9, cI x68)] [(2, va (eTMap p0))] (a2 eI h72) ?_
   obtain ⟨v73, h74, H⟩ := ofBind H
   obtain ⟨v75, h76, H⟩ := ofBind H
   rcases ofCond H with ⟨c77, H⟩ | ⟨c77, H⟩
   ·refine so [.res (cI v73), .res (cB v75), .g true, .g true, .g true, .g true, .g true, .g true, .g true, .g true] [] [(1, dc 1 eI zI p1), (2, pk 2), (7, dc 1 eI zI p1), (8, cL p1), (9, cI x68), (28, cB true)] [(2, va (eTMap p0))] (fun t => aI (s_mSize_ok p0 v73 h74) (aI (s_l1In_ok v71 0 (W ((W (3 * v73)) - 1)) v75 h76) (aI c77 (aI c77 (aI c77 (aI c77 (aI c77 (aI c77 (aI c77 (aI c77 (t))))))))))) ?_
    refine it (rfl : (true : Bool) = true) ?_
    refine so [] [] [(4, cB false)] [] id ?_
    refine ends_ret ?_
    cases H
    exact And.intro (by simp) (And.intro rfl rfl)
   ·obtain ⟨v78, h79, H⟩ := ofBind H
    refine so [.res (cI v73), .res (cB v75), .g false, .g false, .g false, .g false, .g false, .g false, .res (cI v78), .g false, .g false] [] [(1, dc 1 eI zI p1), (2, pk 2), (7, dc 1 eI zI p1), (8, cL p1), (9, cI x68), (28, cB (decide (v78 < 0)))] [(2, va (eTMap p0))] (fun t => aI (s_mSize_ok p0 v73 h74) (aI (s_l1In_ok v71 0 (W ((W (3 * v73)) - 1)) v75 h76) (aI c77 (aI c77 (aI c77 (aI (by decide : (3 : Int) ≠ 0) (aI c77 (aI c77 (aI (by decide : (3 : Int) ≠ 0) (aI c77 (aI (s_mNext_ok p0 (W (Int.tdiv v71 3)) (Int.tmod v71 3) v78 h79) (aI c77 (aI c77 (t)))))))))))))) ?_
    rcases ofCond H with ⟨c80, H⟩ | ⟨c80, H⟩
    ·refine it c80 ?_
     refine so [] [] [(4, cB false)] [] id ?_
     refine ends_ret ?_
     cases H
     exact And.intro (by simp) (And.intro rfl rfl)
    ·refine jf c80 ?_
     refine sk ?_
     refine oo [] [] [(1, dc 1 eI zI p1), (2, pk 2), (7, dc 1 eI zI p1), (8, cL p1), (9, cI (W (x68 + 1)))] [(2, va (eTMap p0))] id ?_
     cases H
     exact And.intro rfl rfl
  ·refine jf c70 ?_
   refine tl [] [(1, dc 1 eI zI p1), (2, pk 2)] [(2, va (eTMap p0))] id ?_
   refine ends_exit ?_
   cases H
   exact And.intro (by simp) (And.intro rfl rfl)
 ·clear h82
  cases y81 with
  | inl y83 =>
   replace H := ofInl H
   intro e s q
   obtain ⟨rfl, rfl⟩ := q
   change EndsI _ _ _ _ _ _
   obtain ⟨v85, h86, H⟩ := ofBind H
   obtain ⟨v87, h88, H⟩ := ofBind H
   refine so [.res (cI v85), .res (cB v87)] [] [(4, cB v87)] [] (fun t => aI (s_mSize_ok p0 v85 h86) (aI (s_l1Rising_ok p1 0 (W ((W (3 * v85)) - 1)) v87 h88) (t))) ?_
   refine ends_ret ?_
   cases H
   exact And.intro (.inl rfl) rfl
  | inr y84 =>
   replace H := ofInr H
   intro e s q
   obtain ⟨rfl, rfl⟩ := q
   cases H
   exact And.intro (.inl rfl) rfl
def s_mGood_ir : S :=
 (sq [o 1 (.box 5 (.t 0)), o 2 (.mv (.v (.bool false)))]
 (.seq (.draw 34 [o 3 (.fad 0 (.t 1)), o 4 (.load 1 false (.t 3)), o 5 (.call 91 [.t 4, .v (.int .i64 1), .v (.int .i64 10)]), om 6 5, ⟨some 7, .fad 1 (.t 1), some (6, true)⟩, ⟨some 8, .load 1 false (.t 7), some (6, true)⟩, ⟨some 9, .call 91 [.t 8, .v (.int .i64 1), .v (.int .i64 10)], some (6, true)⟩, o 10 (.pick (.t 6) (.t 9) (.v (.bool false))), om 11 10, ⟨some 12, .fad 2 (.t 1), some (11, true)⟩, ⟨some 13, .load 1 false (.t 12), some (11, true)⟩, ⟨some 14, .len (.t 13), some (11, true)⟩, ⟨some 15, .load 5 true (.t 1), some (11, true)⟩, ⟨some 16, .call 130 [.t 15], some (11, true)⟩, ⟨some 17, .bin .eql (.t 14) (.t 16), some (11, true)⟩, o 18 (.pick (.t 11) (.t 17) (.v (.bool false))), om 19 18, ⟨some 20, .fad 2 (.t 1), some (19, true)⟩, ⟨some 21, .load 1 false (.t 20), some (19, true)⟩, ⟨some 22, .call 124 [.t 21, .v (.int .i64 0), .v (.int .i64 5)], some (19, true)⟩, o 23 (.pick (.t 19) (.t 22) (.v (.bool false))), om 24 23, ⟨some 25, .load 5 true (.t 1), some (24, true)⟩, ⟨some 26, .fad 3 (.t 1), some (24, true)⟩, ⟨some 27, .load 1 false (.t 26), some (24, true)⟩, ⟨some 28, .call 197 [.t 25, .t 27], some (24, true)⟩, o 29 (.pick (.t 24) (.t 28) (.v (.bool false))), om 30 29, ⟨some 31, .load 5 true (.t 1), some (30, true)⟩, ⟨some 32, .fad 4 (.t 1), some (30, true)⟩, ⟨some 33, .load 1 false (.t 32), some (30, true)⟩, ⟨some 34, .call 197 [.t 31, .t 33], some (30, true)⟩, o 35 (.pick (.t 30) (.t 34) (.v (.bool false))), om 2 35])
 .ret))
noncomputable def X.s_mGood (p0 : TMap) : Option Bool :=
 ((X.s_l1In p0.Width 1 10).bind fun v1 => (bif v1 then ((X.s_l1In p0.Height 1 10).bind fun v4 => (bif v4 then ((X.s_mSize p0).bind fun v7 => (bif ((p0.Terrain.length : Int) == v7) then ((X.s_l1All p0.Terrain 0 5).bind fun v10 => (bif v10 then ((X.s_mEdges p0 p0.Rivers).bind fun v13 => (bif v13 then ((X.s_mEdges p0 p0.Roads).bind fun v16 => some v16) else some false)) else some false)) else some false)) else some false)) else some false))
theorem s_mGood_ok (p0 : TMap) (r : Bool) (H : X.s_mGood p0 = some r) : FnOk Tryz.prog gl 123 [.agg (eTMap p0)] (cB r) := by
 unfold X.s_mGood at H
 refine fi Tryz.f123 s_mGood_ir [(2, cB r)] [] glL Tryz.func123 ?_
 refine so [] [] [(1, pk 1)] [(1, va (eTMap p0))] id ?_
 obtain ⟨v1, h2, H⟩ := ofBind H
 rcases ofCond H with ⟨c3, H⟩ | ⟨c3, H⟩
 ·obtain ⟨v4, h5, H⟩ := ofBind H
  rcases ofCond H with ⟨c6, H⟩ | ⟨c6, H⟩
  ·obtain ⟨v7, h8, H⟩ := ofBind H
   rcases ofCond H with ⟨c9, H⟩ | ⟨c9, H⟩
   ·obtain ⟨v10, h11, H⟩ := ofBind H
    rcases ofCond H with ⟨c12, H⟩ | ⟨c12, H⟩
    ·obtain ⟨v13, h14, H⟩ := ofBind H
     rcases ofCond H with ⟨c15, H⟩ | ⟨c15, H⟩
     ·obtain ⟨v16, h17, H⟩ := ofBind H
      refine sd [.res (cB v1), .g true, .g true, .g true, .res (cB v4), .g true, .g true, .g true, .g true, .g true, .g true, .res (cI v7), .g true, .g true, .g true, .g true, .g true, .res (cB v10), .g true, .g true, .g true, .g true, .g true, .res (cB v13), .g true, .g true, .g true, .g true, .g true, .res (cB v16), .g true] [] [(2, cB v16)] [] (fun t => aI (s_l1In_ok p0.Width 1 10 v1 h2) (aI trivial (aI (rfl : ([] : List Nat) = []) (aI c3 (aI c3 (aI c3 (aI (s_l1In_ok p0.Height 1 10 v4 h5) (aI trivial (aI (rfl : ([] : List Nat) = []) (aI c3 (aI c6 (aI c6 (aI c6 (aI c6 (aI c6 (aI (s_mSize_ok p0 v7 h8) (aI trivial (aI (rfl : ([] : List Nat) = []) (aI c6 (aI c6 (aI c9 (aI c9 (aI c9 (aI (s_l1All_ok p0.Terrain 0 5 v10 h11) (aI trivial (aI (rfl : ([] : List Nat) = []) (aI c9 (aI c12 (aI c12 (aI c12 (aI c12 (aI (s_mEdges_ok p0 p0.Rivers v13 h14) (aI trivial (aI (rfl : ([] : List Nat) = []) (aI c12 (aI c15 (aI c15 (aI c15 (aI c15 (aI (s_mEdges_ok p0 p0.Roads v16 h17) (aI trivial (aI (rfl : ([] : List Nat) = []) (aI c15 (t)))))))))))))))))))))))))))))))))))))))))))) ?_
      refine ends_ret ?_
      cases H
      exact And.intro (.inl rfl) rfl
     ·refine sd [.res (cB v1), .g true, .g true, .g true, .res (cB v4), .g true, .g true, .g true, .g true, .g true, .g true, .res (cI v7), .g true, .g true, .g true, .g true, .g true, .res (cB v10), .g true, .g true, .g true, .g true, .g true, .res (cB v13), .g true, .g false, .g false, .g false, .g false, .g false] [] [(2, cB false)] [] (fun t => aI (s_l1In_ok p0.Width 1 10 v1 h2) (aI trivial (aI (rfl : ([] : List Nat) = []) (aI c3 (aI c3 (aI c3 (aI (s_l1In_ok p0.Height 1 10 v4 h5) (aI trivial (aI (rfl : ([] : List Nat) = []) (aI c3 (aI c6 (aI c6 (aI c6 (aI c6 (aI c6 (aI (s_mSize_ok p0 v7 h8) (aI trivial (aI (rfl : ([] : List Nat) = []) (aI c6 (aI c6 (aI c9 (aI c9 (aI c9 (aI (s_l1All_ok p0.Terrain 0 5 v10 h11) (aI trivial (aI (rfl : ([] : List Nat) = []) (aI c9 (aI c12 (aI c12 (aI c12 (aI c12 (aI (s_mEdges_ok p0 p0.Rivers v13 h14) (aI trivial (aI (rfl : ([] : List Nat) = []) (aI c12 (aI c15 (aI c15 (aI c15 (aI c15 (aI c15 (t))))))))))))))))))))))))))))))))))))))))) ?_
      refine ends_ret ?_
      cases H
      exact And.intro (.inl rfl) rfl
    ·refine sd [.res (cB v1), .g true, .g true, .g true, .res (cB v4), .g true, .g true, .g true, .g true, .g true, .g true, .res (cI v7), .g true, .g true, .g true, .g true, .g true, .res (cB v10), .g true, .g false, .g false, .g false, .g false, .g false, .g false, .g false, .g false, .g false, .g false] [] [(2, cB false)] [] (fun t => aI (s_l1In_ok p0.Width 1 10 v1 h2) (aI trivial (aI (rfl : ([] : List Nat) = []) (aI c3 (aI c3 (aI c3 (aI (s_l1In_ok p0.Height 1 10 v4 h5) (aI trivial (aI (rfl : ([] : List Nat) = []) (aI c3 (aI c6 (aI c6 (aI c6 (aI c6 (aI c6 (aI (s_mSize_ok p0 v7 h8) (aI trivial (aI (rfl : ([] : List Nat) = []) (aI c6 (aI c6 (aI c9 (aI c9 (aI c9 (aI (s_l1All_ok p0.Terrain 0 5 v10 h11) (aI trivial (aI (rfl : ([] : List Nat) = []) (aI c9 (aI c12 (aI c12 (aI c12 (aI c12 (aI c12 (aI (rfl : (false : Bool) = false) (aI (rfl : (false : Bool) = false) (aI (rfl : (false : Bool) = false) (aI (rfl : (false : Bool) = false) (aI (rfl : (false : Bool) = false) (t)))))))))))))))))))))))))))))))))))))) ?_
     refine ends_ret ?_
     cases H
     exact And.intro (.inl rfl) rfl
   ·refine sd [.res (cB v1), .g true, .g true, .g true, .res (cB v4), .g true, .g true, .g true, .g true, .g true, .g true, .res (cI v7), .g true, .g true, .g false, .g false, .g false, .g false, .g false, .g false, .g false, .g false, .g false, .g false, .g false, .g false, .g false, .g false] [] [(2, cB false)] [] (fun t => aI (s_l1In_ok p0.Width 1 10 v1 h2) (aI trivial (aI (rfl : ([] : List Nat) = []) (aI c3 (aI c3 (aI c3 (aI (s_l1In_ok p0.Height 1 10 v4 h5) (aI trivial (aI (rfl : ([] : List Nat) = []) (aI c3 (aI c6 (aI c6 (aI c6 (aI c6 (aI c6 (aI (s_mSize_ok p0 v7 h8) (aI trivial (aI (rfl : ([] : List Nat) = []) (aI c6 (aI c6 (aI c9 (aI c9 (aI c9 (aI c9 (aI (rfl : (false : Bool) = false) (aI (rfl : (false : Bool) = false) (aI (rfl : (false : Bool) = false) (aI (rfl : (false : Bool) = false) (aI (rfl : (false : Bool) = false) (aI (rfl : (false : Bool) = false) (aI (rfl : (false : Bool) = false) (aI (rfl : (false : Bool) = false) (aI (rfl : (false : Bool) = false) (aI (rfl : (false : Bool) = false) (t))))))))))))))))))))))))))))))))))) ?_
    refine ends_ret ?_
    cases H
    exact And.intro (.inl rfl) rfl
  ·refine sd [.res (cB v1), .g true, .g true, .g true, .res (cB v4), .g true, .g false, .g false, .g false, .g false, .g false, .g false, .g false, .g false, .g false, .g false, .g false, .g false, .g false, .g false, .g false, .g false, .g false, .g false, .g false, .g false, .g false] [] [(2, cB false)] [] (fun t => aI (s_l1In_ok p0.Width 1 10 v1 h2) (aI trivial (aI (rfl : ([] : List Nat) = []) (aI c3 (aI c3 (aI c3 (aI (s_l1In_ok p0.Height 1 10 v4 h5) (aI trivial (aI (rfl : ([] : List Nat) = []) (aI c3 (aI c6 (aI c6 (aI c6 (aI c6 (aI c6 (aI c6 (aI c6 (aI (rfl : (false : Bool) = false) (aI (rfl : (false : Bool) = false) (aI (rfl : (false : Bool) = false) (aI (rfl : (false : Bool) = false) (aI (rfl : (false : Bool) = false) (aI (rfl : (false : Bool) = false) (aI (rfl : (false : Bool) = false) (aI (rfl : (false : Bool) = false) (aI (rfl : (false : Bool) = false) (aI (rfl : (false : Bool) = false) (aI (rfl : (false : Bool) = false) (aI (rfl : (false : Bool) = false) (aI (rfl : (false : Bool) = false) (aI (rfl : (false : Bool) = false) (t)))))))))))))))))))))))))))))))) ?_
   refine ends_ret ?_
   cases H
   exact And.intro (.inl rfl) rfl
 ·refine sd [.res (cB v1), .g false, .g false, .g false, .g false, .g false, .g false, .g false, .g false, .g false, .g false, .g false, .g false, .g false, .g false, .g false, .g false, .g false, .g false, .g false, .g false, .g false, .g false, .g false, .g false, .g false] [] [(2, cB false)] [] (fun t => aI (s_l1In_ok p0.Width 1 10 v1 h2) (aI trivial (aI (rfl : ([] : List Nat) = []) (aI c3 (aI c3 (aI c3 (aI c3 (aI (rfl : (false : Bool) = false) (aI (rfl : (false : Bool) = false) (aI (rfl : (false : Bool) = false) (aI (rfl : (false : Bool) = false) (aI (rfl : (false : Bool) = false) (aI (rfl : (false : Bool) = false) (aI (rfl : (false : Bool) = false) (aI (rfl : (false : Bool) = false) (aI (rfl : (false : Bool) = false) (aI (rfl : (false : Bool) = false) (aI (rfl : (false : Bool) = false) (aI (rfl : (false : Bool) = false) (aI (rfl : (false : Bool) = false) (aI (rfl : (false : Bool) = false) (aI (rfl : (false : Bool) = false) (aI (rfl : (false : Bool) = false) (aI (rfl : (false : Bool) = false) (aI (rfl : (false : Bool) = false) (aI (rfl : (false : Bool) = false) (aI (rfl : (false : Bool) = false) (aI (rfl : (false : Bool) = false) (t))))))))))))))))))))))))))))) ?_
  refine ends_ret ?_
  cases H
  exact And.intro (.inl rfl) rfl
def s_bGood_ir : S :=
 (sq [o 1 (.box 12 (.t 0)), o 2 (.mv (.v (.bool false)))]
 (sq [o 3 (.fad 0 (.t 1)), o 4 (.load 7 true (.t 3)), o 5 (.call 122 [.t 4]), om 6 5, ⟨some 7, .fad 7 (.t 1), some (6, true)⟩, ⟨some 8, .load 5 true (.t 7), some (6, true)⟩, ⟨some 9, .call 123 [.t 8], some (6, true)⟩, o 10 (.pick (.t 6) (.t 9) (.v (.bool false))), om 11 10, ⟨some 12, .fad 7 (.t 1), some (11, true)⟩, ⟨some 13, .fad 2 (.t 12), some (11, true)⟩, ⟨some 14, .load 1 false (.t 13), some (11, true)⟩, ⟨some 15, .fad 0 (.t 1), some (11, true)⟩, ⟨some 16, .fad 0 (.t 15), some (11, true)⟩, ⟨some 17, .load 1 false (.t 16), some (11, true)⟩, ⟨some 18, .len (.t 17), some (11, true)⟩, ⟨some 19, .bin .sub (.t 18) (iv 1), some (11, true)⟩, ⟨some 20, .call 124 [.t 14, .v (.int .i64 0), .t 19], some (11, true)⟩, o 21 (.pick (.t 11) (.t 20) (.v (.bool false))), om 2 21]
 .ret))
noncomputable def X.s_bGood (p0 : TBoard) : Option Bool :=
 ((X.s_rGood p0.Rules).bind fun v1 => (bif v1 then ((X.s_mGood p0.Map).bind fun v4 => (bif v4 then ((X.s_l1All p0.Map.Terrain 0 (W ((p0.Rules.Terrains.length : Int) - 1))).bind fun v7 => some v7) else some false)) else some false))
theorem s_bGood_ok (p0 : TBoard) (r : Bool) (H : X.s_bGood p0 = some r) : FnOk Tryz.prog gl 55 [.agg (eTBoard p0)] (cB r) := by
 unfold X.s_bGood at H
 refine fi Tryz.f55 s_bGood_ir [(2, cB r)] [] glL Tryz.func55 ?_
 refine so [] [] [(1, pk 1)] [(1, va (eTBoard p0))] id ?_
 obtain ⟨v1, h2, H⟩ := ofBind H
 rcases ofCond H with ⟨c3, H⟩ | ⟨c3, H⟩
 ·obtain ⟨v4, h5, H⟩ := ofBind H
  rcases ofCond H with ⟨c6, H⟩ | ⟨c6, H⟩
  ·obtain ⟨v7, h8, H⟩ := ofBind H
   refine so [.res (cB v1), .g true, .g true, .g true, .res (cB v4), .g true, .g true, .g true, .g true, .g true, .g true, .g true, .g true, .g true, .g true, .res (cB v7), .g true] [] [(2, cB v7)] [] (fun t => aI (s_rGood_ok p0.Rules v1 h2) (aI c3 (aI c3 (aI c3 (aI (s_mGood_ok p0.Map v4 h5) (aI c3 (aI c6 (aI c6 (aI c6 (aI c6 (aI c6 (aI c6 (aI c6 (lI p0.Rules.Terrains (aI c6 (aI c6 (aI (s_l1All_ok p0.Map.Terrain 0 (W ((p0.Rules.Terrains.length : Int) - 1)) v7 h8) (aI c6 (t))))))))))))))))))) ?_
   refine ends_ret ?_
   cases H
   exact And.intro (.inl rfl) rfl
  ·refine so [.res (cB v1), .g true, .g true, .g true, .res (cB v4), .g true, .g false, .g false, .g false, .g false, .g false, .g false, .g false, .g false, .g false, .g false] [] [(2, cB false)] [] (fun t => aI (s_rGood_ok p0.Rules v1 h2) (aI c3 (aI c3 (aI c3 (aI (s_mGood_ok p0.Map v4 h5) (aI c3 (aI c6 (aI c6 (aI c6 (aI c6 (aI c6 (aI c6 (aI c6 (aI c6 (aI c6 (aI c6 (t))))))))))))))))) ?_
   refine ends_ret ?_
   cases H
   exact And.intro (.inl rfl) rfl
 ·refine so [.res (cB v1), .g false, .g false, .g false, .g false, .g false, .g false, .g false, .g false, .g false, .g false, .g false, .g false, .g false, .g false] [] [(2, cB false)] [] (fun t => aI (s_rGood_ok p0.Rules v1 h2) (aI c3 (aI c3 (aI c3 (aI c3 (aI (rfl : (false : Bool) = false) (aI (rfl : (false : Bool) = false) (aI (rfl : (false : Bool) = false) (aI (rfl : (false : Bool) = false) (aI (rfl : (false : Bool) = false) (aI (rfl : (false : Bool) = false) (aI (rfl : (false : Bool) = false) (aI (rfl : (false : Bool) = false) (aI (rfl : (false : Bool) = false) (aI (rfl : (false : Bool) = false) (t)))))))))))))))) ?_
  refine ends_ret ?_
  cases H
  exact And.intro (.inl rfl) rfl
def s_sAt_ir : S :=
 (sq [o 3 (.box 3 (.t 0)), o 6 (.mv (.v (.nil)))]
 (sq [o 7 (.mv (.v (.nil)))]
 (.seq (sq [o 10 (.fad 2 (.t 3)), o 11 (.load 1 false (.t 10)), o 12 (.len (.t 11)), o 13 (.mv (iv 0))]
 (.blk 0 (.loop (sq [o 14 (.bin .lss (.t 13) (.t 12))]
   (.seq (.ite (.t 14) .skip
   (.exit 0))
   (.seq (.blk 1 (sq [om 15 13, o 16 (.iad 4 (.t 11) (.t 13)), o 17 (.load 4 true (.t 16)), o 9 (.alloc [.int .i64 0, .int .i64 0, .int .i64 0, .int .i64 0]), om 8 15, ⟨none, .store 4 (.t 9) (.t 17), none⟩]
    (sq [o 18 (.fad 2 (.t 9)), o 19 (.load 1 false (.t 18)), om 20 1, o 21 (.bin .eql (.t 19) (.t 20)), om 22 21, ⟨some 23, .fad 0 (.t 9), some (22, true)⟩, ⟨some 24, .load 1 false (.t 23), some (22, true)⟩, ⟨some 25, .mv (.t 2), some (22, true)⟩, ⟨some 26, .bin .eql (.t 24) (.t 25), some (22, true)⟩, o 27 (.pick (.t 22) (.t 26) (.v (.bool false)))]
    (.ite (.t 27) (.ops [om 28 7, om 29 8, o 30 (.bsl 1 [.t 29]), o 31 (.app 1 8 (.t 28) (.t 30)), om 7 31])
    .skip))))
   (.ops [o 32 (.bin .add (.t 13) (iv 1)), om 13 32])))))))
 (sq [om 33 7, om 6 33]
 .ret))))
noncomputable def X.s_sAt (p0 : TState) (p1 : Int) (p2 : Int) : Option (List Int) :=
 ((loop (fun (x16 : (Int × (List Int))) => ((bif (decide (x16.1 < (p0.Units.length : Int))) then ((at' zTUnit p0.Units x16.1).bind fun v19 => (bif (v19.At == p1) then (bif (v19.Side == p2) then (if (x16.2 ++ ([x16.1] : List Int)).length ≤ LIM then some (Sum.inl ((W (x16.1 + 1)), (x16.2 ++ ([x16.1] : List Int)))) else none) else some (Sum.inl ((W (x16.1 + 1)), x16.2))) else some (Sum.inl ((W (x16.1 + 1)), x16.2)))) else some (Sum.inr x16.2)) : Option ((Int × (List Int)) ⊕ (List Int)))) (0, ([] : List Int))).bind fun y24 => some y24)
theorem s_sAt_ok (p0 : TState) (p1 : Int) (p2 : Int) (r : (List Int)) (H : X.s_sAt p0 p1 p2 = some r) : FnOk Tryz.prog gl 176 [.agg (eTState p0), cI p1, cI p2] (.c (dat 1 eI zI r)) := by
 unfold X.s_sAt at H
 refine fi Tryz.f176 s_sAt_ir [(6, dc 1 eI zI r)] [] glL Tryz.func176 ?_
 refine so [] [] [(1, cI p1), (2, cI p2), (3, pk 3)] [(3, va (eTState p0))] id ?_
 refine so [] [] [(1, cI p1), (2, cI p2), (3, pk 3), (7, .c (.nil))] [(3, va (eTState p0))] id ?_
 refine seq_in ?_
 refine so [] [] [(1, cI p1), (2, cI p2), (7, .c (.nil)), (11, dc 4 eTUnit zTUnit p0.Units), (12, cL p0.Units), (13, cI 0)] [] (fun t => lI p0.Units (t)) ?_
 refine ends_blk ?_
 obtain ⟨y24, h25, H⟩ := ofBind H
 refine tl [.nlo 7 1001 1 (fF eI zI ([] : List Int))] [(1, cI p1), (2, cI p2), (7, ow 1001 1 ([] : List Int)), (11, dc 4 eTUnit zTUnit p0.Units), (12, cL p0.Units), (13, cI 0)] [(1001, ar 1 eI zI ([] : List Int))] (aI (by decide : 0 < 1)) ?_
 refine loop_in (fun (x : (Int × (List Int))) => lit [(1, cI p1), (2, cI p2), (7, ow 1001 1 x.2), (11, dc 4 eTUnit zTUnit p0.Units), (12, cL p0.Units), (13, cI x.1)] [(1001, ar 1 eI zI x.2)]) (fun (z : (List Int)) => At (.exit 0) (lit [(7, ow 1001 1 z)] [(1001, ar 1 eI zI z)])) h25 ?_ ?_
 ·clear H h25
  intro x16 y0 H
  refine so [] [] [(1, cI p1), (2, cI p2), (7, ow 1001 1 x16.2), (11, dc 4 eTUnit zTUnit p0.Units), (12, cL p0.Units), (13, cI x16.1), (14, cB (decide (x16.1 < (p0.Units.length : Int))))] [(1001, ar 1 eI zI x16.2)] id ?_
  refine seq_in ?_
  rcases ofCond H with ⟨c18, H⟩ | ⟨c18, H⟩
  ·refine it c18 ?_
   refine sk ?_
   refine seq_in ?_
   refine ends_blk ?_
   obtain ⟨v19, h20, H⟩ := ofBind H
   refine so [.cs (eTUnit v19)] [] [(1, cI p1), (2, cI p2), (7, ow 1001 1 x16.2), (8, cI x16.1), (9, pk 9), (11, dc 4 eTUnit zTUnit p0.Units), (12, cL p0.Units), (13, cI x16.1)] [(9, va (eTUnit v19)), (1001, ar 1 eI zI x16.2)] (a2 eTUnit h20) ?_
   rcases ofCond H with ⟨c21, H⟩ | ⟨c21, H⟩
   ·refine so [.g true, .g true, .g true, .g true, .g true] [] [(1, cI p1), (2, cI p2), (7, ow 1001 1 x16.2), (8, cI x16.1), (11, dc 4 eTUnit zTUnit p0.Units), (12, cL p0.Units), (13, cI x16.1), (27, cB (v19.Side == p2))] [(1001, ar 1 eI zI x16.2)] (fun t => aI c21 (aI c21 (aI c21 (aI c21 (aI c21 (t)))))) ?_
    rcases ofCond H with ⟨c22, H⟩ | ⟨c22, H⟩
    ·refine it c22 ?_
     obtain ⟨g23, H⟩ := ofIf H
     refine oo [fh eI zI ([x16.1] : List Int), fh eI zI (x16.2 ++ ([x16.1] : List Int))] [] [(1, cI p1), (2, cI p2), (7, ow 31 1 (x16.2 ++ ([x16.1] : List Int))), (11, dc 4 eTUnit zTUnit p0.Units), (12, cL p0.Units), (13, cI x16.1)] [(31, ar 1 eI zI (x16.2 ++ ([x16.1] : List Int)))] (fun t => aI (rfl : ([x16.1] : List Int).length = 1) (aI (fF_lit eI zI ([x16.1] : List Int)) (aI (And.intro (Nat.le_refl x16.2.length) (And.intro (@List.length_append _ x16.2 ([x16.1] : List Int)) g23)) (aI (fF_appL eI zI x16.2 ([x16.1] : List Int)) (aI (fF_appR eI zI x16.2 ([x16.1] : List Int)) (t)))))) ?_
     change EndsI _ _ _ _ _ _
     refine oo [] [.ren 31 1001] [(1, cI p1), (2, cI p2), (7, ow 1001 1 (x16.2 ++ ([x16.1] : List Int))), (11, dc 4 eTUnit zTUnit p0.Units), (12, cL p0.Units), (13, cI (W (x16.1 + 1)))] [(1001, ar 1 eI zI (x16.2 ++ ([x16.1] : List Int)))] id ?_
     cases H
     exact And.intro rfl rfl
    ·refine jf c22 ?_
     refine sk ?_
     refine oo [] [] [(1, cI p1), (2, cI p2), (7, ow 1001 1 x16.2), (11, dc 4 eTUnit zTUnit p0.Units), (12, cL p0.Units), (13, cI (W (x16.1 + 1)))] [(1001, ar 1 eI zI x16.2)] id ?_
     cases H
     exact And.intro rfl rfl
   ·refine so [.g false, .g false, .g false, .g false, .g false] [] [(1, cI p1), (2, cI p2), (7, ow 1001 1 x16.2), (8, cI x16.1), (11, dc 4 eTUnit zTUnit p0.Units), (12, cL p0.Units), (13, cI x16.1), (27, cB false)] [(1001, ar 1 eI zI x16.2)] (fun t => aI c21 (aI c21 (aI c21 (aI c21 (aI c21 (t)))))) ?_
    refine jf (rfl : (false : Bool) = false) ?_
    refine sk ?_
    refine oo [] [] [(1, cI p1), (2, cI p2), (7, ow 1001 1 x16.2), (11, dc 4 eTUnit zTUnit p0.Units), (12, cL p0.Units), (13, cI (W (x16.1 + 1)))] [(1001, ar 1 eI zI x16.2)] id ?_
    cases H
    exact And.intro rfl rfl
  ·refine jf c18 ?_
   refine tl [] [(7, ow 1001 1 x16.2)] [(1001, ar 1 eI zI x16.2)] id ?_
   refine ends_exit ?_
   cases H
   exact And.intro (by simp) (And.intro rfl rfl)
 ·clear h25
  intro e s q
  obtain ⟨rfl, rfl⟩ := q
  change EndsI _ _ _ _ _ _
  refine so [] [] [(6, ow 1001 1 y24)] [(1001, ar 1 eI zI y24)] id ?_
  refine tl [.frz 6] [(6, dc 1 eI zI y24)] [] (aI (Nat.le_refl y24.length)) ?_
  refine ends_ret ?_
  cases H
  exact And.intro (.inl rfl) rfl
def s_bTerrain_ir : S :=
 (sq [o 2 (.box 12 (.t 0)), o 4 (.alloc [.str [], .nil, .int .i64 0, .int .i64 0, .bool false])]
 (.seq (.draw 11 [o 5 (.fad 0 (.t 2)), o 6 (.fad 0 (.t 5)), o 7 (.load 1 false (.t 6)), o 8 (.fad 7 (.t 2)), o 9 (.fad 2 (.t 8)), o 10 (.load 1 false (.t 9)), om 11 1, o 12 (.iad 1 (.t 10) (.t 11)), o 13 (.load 1 false (.t 12)), o 14 (.iad 5 (.t 7) (.t 13)), o 15 (.load 5 true (.t 14)), ⟨none, .store 5 (.t 4) (.t 15), none⟩])
 .ret))
noncomputable def X.s_bTerrain (p0 : TBoard) (p1 : Int) : Option TTerrain :=
 ((at' zI p0.Map.Terrain p1).bind fun v1 => ((at' zTTerrain p0.Rules.Terrains v1).bind fun v3 => some v3))
theorem s_bTerrain_ok (p0 : TBoard) (p1 : Int) (r : TTerrain) (H : X.s_bTerrain p0 p1 = some r) : FnOk Tryz.prog gl 293 [.agg (eTBoard p0), cI p1] (.agg (eTTerrain r)) := by
 unfold X.s_bTerrain at H
 refine fi Tryz.f293 s_bTerrain_ir [(4, pk 4)] [(4, va (eTTerrain r))] glL Tryz.func293 ?_
 refine so [] [] [(1, cI p1), (2, pk 2), (4, pk 4)] [(2, va (eTBoard p0)), (4, .var [.str [], .nil, .int .i64 0, .int .i64 0, .bool false] false)] id ?_
 obtain ⟨v1, h2, H⟩ := ofBind H
 obtain ⟨v3, h4, H⟩ := ofBind H
 refine sd [.cs (eI v1), .cs (eTTerrain v3)] [] [(4, pk 4)] [(4, va (eTTerrain v3))] (fun t => (a2 eI h2 (aI (rfl : ([] : List Nat) = []) ((a2 eTTerrain h4 (aI (rfl : ([] : List Nat) = []) (t))))))) ?_
 refine ends_ret ?_
 cases H
 exact And.intro (.inl rfl) rfl
def s_bCost_ir : S :=
 (sq [o 3 (.box 12 (.t 0)), o 6 (.mv (iv 0))]
 (sq [o 7 (.load 12 true (.t 3)), om 8 2, o 9 (.call 293 [.t 7, .t 8]), o 10 (.fld 1 1 false (.t 9)), om 11 1, o 12 (.iad 1 (.t 10) (.t 11)), o 13 (.load 1 false (.t 12)), om 6 13]
 .ret))
noncomputable def X.s_bCost (p0 : TBoard) (p1 : Int) (p2 : Int) : Option Int :=
 ((X.s_bTerrain p0 p2).bind fun v1 => ((at' zI v1.Cost p1).bind fun v3 => some v3))
theorem s_bCost_ok (p0 : TBoard) (p1 : Int) (p2 : Int) (r : Int) (H : X.s_bCost p0 p1 p2 = some r) : FnOk Tryz.prog gl 248 [.agg (eTBoard p0), cI p1, cI p2] (cI r) := by
 unfold X.s_bCost at H
 refine fi Tryz.f248 s_bCost_ir [(6, cI r)] [] glL Tryz.func248 ?_
 refine so [] [] [(1, cI p1), (2, cI p2), (3, pk 3)] [(3, va (eTBoard p0))] id ?_
 obtain ⟨v1, h2, H⟩ := ofBind H
 obtain ⟨v3, h4, H⟩ := ofBind H
 refine so [.res (.agg (eTTerrain v1)), .cs (eI v3)] [] [(6, cI v3)] [] (fun t => aI (s_bTerrain_ok p0 p2 v1 h2) ((a2 eI h4 (t)))) ?_
 refine ends_ret ?_
 cases H
 exact And.intro (.inl rfl) rfl
def s_sUnit_ir : S :=
 (sq [o 2 (.box 12 (.t 0)), o 3 (.box 4 (.t 1)), o 4 (.mv (.v (.bool false)))]
 (.seq (.seq (.draw 29 [o 5 (.fad 0 (.t 3)), o 6 (.load 1 false (.t 5)), o 7 (.call 91 [.t 6, .v (.int .i64 0), .v (.int .i64 1)]), o 8 (.not (.t 7)), om 9 8, ⟨some 10, .fad 1 (.t 3), some (9, false)⟩, ⟨some 11, .load 1 false (.t 10), some (9, false)⟩, ⟨some 12, .fad 0 (.t 2), some (9, false)⟩, ⟨some 13, .fad 1 (.t 12), some (9, false)⟩, ⟨some 14, .load 1 false (.t 13), some (9, false)⟩, ⟨some 15, .len (.t 14), some (9, false)⟩, ⟨some 16, .bin .sub (.t 15) (iv 1), some (9, false)⟩, ⟨some 17, .call 91 [.t 11, .v (.int .i64 0), .t 16], some (9, false)⟩, ⟨some 18, .not (.t 17), some (9, false)⟩, o 19 (.pick (.t 9) (.v (.bool true)) (.t 18)), om 20 19, ⟨some 21, .fad 3 (.t 3), some (20, false)⟩, ⟨some 22, .load 1 false (.t 21), some (20, false)⟩, ⟨some 23, .fad 0 (.t 2), some (20, false)⟩, ⟨some 24, .fad 1 (.t 23), some (20, false)⟩, ⟨some 25, .load 1 false (.t 24), some (20, false)⟩, ⟨some 26, .fad 1 (.t 3), some (20, false)⟩, ⟨some 27, .load 1 false (.t 26), some (20, false)⟩, ⟨some 28, .iad 6 (.t 25) (.t 27), some (20, false)⟩, ⟨some 29, .fad 3 (.t 28), some (20, false)⟩, ⟨some 30, .load 1 false (.t 29), some (20, false)⟩, ⟨some 31, .call 91 [.t 22, .v (.int .i64 0), .t 30], some (20, false)⟩, ⟨some 32, .not (.t 31), some (20, false)⟩, o 33 (.pick (.t 20) (.v (.bool true)) (.t 32))])
 (.ite (.t 33) (sq [o 4 (.mv (.v (.bool false)))]
  .ret)
 .skip))
 (.seq (.draw 27 [o 34 (.fad 2 (.t 3)), o 35 (.load 1 false (.t 34)), o 36 (.bin .eql (.t 35) (.v (.int .i64 (-1)))), om 37 36, ⟨some 38, .fad 3 (.t 3), some (37, false)⟩, ⟨some 39, .load 1 false (.t 38), some (37, false)⟩, ⟨some 40, .bin .gtr (.t 39) (iv 0), some (37, false)⟩, ⟨some 41, .mv (.t 40), some (37, false)⟩, ⟨some 42, .fad 2 (.t 3), some (41, true)⟩, ⟨some 43, .load 1 false (.t 42), some (41, true)⟩, ⟨some 44, .fad 7 (.t 2), some (41, true)⟩, ⟨some 45, .load 5 true (.t 44), some (41, true)⟩, ⟨some 46, .call 130 [.t 45], some (41, true)⟩, ⟨some 47, .bin .sub (.t 46) (iv 1), some (41, true)⟩, ⟨some 48, .call 91 [.t 43, .v (.int .i64 0), .t 47], some (41, true)⟩, ⟨some 49, .pick (.t 41) (.t 48) (.v (.bool false)), some (37, false)⟩, ⟨some 50, .mv (.t 49), some (37, false)⟩, ⟨some 51, .load 12 true (.t 2), some (50, true)⟩, ⟨some 52, .fad 1 (.t 3), some (50, true)⟩, ⟨some 53, .load 1 false (.t 52), some (50, true)⟩, ⟨some 54, .fad 2 (.t 3), some (50, true)⟩, ⟨some 55, .load 1 false (.t 54), some (50, true)⟩, ⟨some 56, .call 248 [.t 51, .t 53, .t 55], some (50, true)⟩, ⟨some 57, .bin .gtr (.t 56) (iv 0), some (50, true)⟩, ⟨some 58, .pick (.t 50) (.t 57) (.v (.bool false)), some (37, false)⟩, o 59 (.pick (.t 37) (.v (.bool true)) (.t 58)), om 4 59])
 .ret)))
noncomputable def X.s_sUnit (p0 : TBoard) (p1 : TUnit) : Option Bool :=
 ((X.s_l1In p1.Side 0 1).bind fun v12 => (bif (!v12) then some false else ((X.s_l1In p1.Kind 0 (W ((p0.Rules.Kinds.length : Int) - 1))).bind fun v15 => (bif (!v15) then some false else ((at' zTKind p0.Rules.Kinds p1.Kind).bind fun v18 => ((X.s_l1In p1.Steps 0 v18.Steps).bind fun v20 => (bif (!v20) then some false else (bif (p1.At == (-1)) then some true else (bif (decide (p1.Steps > 0)) then ((X.s_mSize p0.Map).bind fun v25 => ((X.s_l1In p1.At 0 (W (v25 - 1))).bind fun v27 => (bif v27 then ((X.s_bCost p0 p1.Kind p1.At).bind fun v30 => some (decide (v30 > 0))) else some false))) else some false)))))))))
theorem s_sUnit_ok (p0 : TBoard) (p1 : TUnit) (r : Bool) (H : X.s_sUnit p0 p1 = some r) : FnOk Tryz.prog gl 198 [.agg (eTBoard p0), .agg (eTUnit p1)] (cB r) := by
 unfold X.s_sUnit at H
 refine fi Tryz.f198 s_sUnit_ir [(4, cB r)] [] glL Tryz.func198 ?_
 refine so [] [] [(2, pk 2), (3, pk 3)] [(2, va (eTBoard p0)), (3, va (eTUnit p1))] id ?_
 refine seq_in ?_
 obtain ⟨v12, h13, H⟩ := ofBind H
 rcases ofCond H with ⟨c14, H⟩ | ⟨c14, H⟩
 ·refine sd [.res (cB v12), .g true, .g true, .g true, .g true, .g true, .g true, .g true, .g true, .g true, .g true, .g true, .g true, .g true, .g true, .g true, .g true, .g true, .g true, .g true, .g true, .g true, .g true, .g true] [] [(2, pk 2), (3, pk 3), (33, cB true)] [(2, va (eTBoard p0)), (3, va (eTUnit p1))] (fun t => aI (s_l1In_ok p1.Side 0 1 v12 h13) (aI trivial (aI (rfl : ([] : List Nat) = []) (aI c14 (aI c14 (aI c14 (aI c14 (aI c14 (aI c14 (aI c14 (aI c14 (aI c14 (aI c14 (aI (rfl : (true : Bool) = true) (aI (rfl : (true : Bool) = true) (aI (rfl : (true : Bool) = true) (aI (rfl : (true : Bool) = true) (aI (rfl : (true : Bool) = true) (aI (rfl : (true : Bool) = true) (aI (rfl : (true : Bool) = true) (aI (rfl : (true : Bool) = true) (aI (rfl : (true : Bool) = true) (aI (rfl : (true : Bool) = true) (aI (rfl : (true : Bool) = true) (aI (rfl : (true : Bool) = true) (aI (rfl : (true : Bool) = true) (t))))))))))))))))))))))))))) ?_
  refine it (rfl : (true : Bool) = true) ?_
  refine so [] [] [(4, cB false)] [] id ?_
  refine ends_ret ?_
  cases H
  exact And.intro (.inl rfl) rfl
 ·obtain ⟨v15, h16, H⟩ := ofBind H
  rcases ofCond H with ⟨c17, H⟩ | ⟨c17, H⟩
  ·refine sd [.res (cB v12), .g false, .g false, .g false, .g false, .g false, .g false, .g false, .g false, .res (cB v15), .g false, .g false, .g true, .g true, .g true, .g true, .g true, .g true, .g true, .g true, .g true, .g true, .g true, .g true, .g true] [] [(2, pk 2), (3, pk 3), (33, cB true)] [(2, va (eTBoard p0)), (3, va (eTUnit p1))] (fun t => aI (s_l1In_ok p1.Side 0 1 v12 h13) (aI trivial (aI (rfl : ([] : List Nat) = []) (aI c14 (aI c14 (aI c14 (aI c14 (aI c14 (aI c14 (aI c14 (aI c14 (aI (s_l1In_ok p1.Kind 0 (W ((p0.Rules.Kinds.length : Int) - 1)) v15 h16) (aI trivial (aI (rfl : ([] : List Nat) = []) (aI c14 (aI c14 (aI c17 (aI c17 (aI c17 (aI c17 (aI c17 (aI c17 (aI c17 (aI c17 (aI c17 (aI c17 (aI c17 (aI c17 (aI c17 (t)))))))))))))))))))))))))))))) ?_
   refine it (rfl : (true : Bool) = true) ?_
   refine so [] [] [(4, cB false)] [] id ?_
   refine ends_ret ?_
   cases H
   exact And.intro (.inl rfl) rfl
  ·obtain ⟨v18, h19, H⟩ := ofBind H
   obtain ⟨v20, h21, H⟩ := ofBind H
   refine sd [.res (cB v12), .g false, .g false, .g false, .g false, .g false, .g false, .g false, .g false, .res (cB v15), .g false, .g false, .g false, .g false, .g false, .g false, .g false, .g false, .g false, .g false, .cs (eTKind v18), .g false, .g false, .g false, .res (cB v20), .g false, .g false] [] [(2, pk 2), (3, pk 3), (33, cB (!v20))] [(2, va (eTBoard p0)), (3, va (eTUnit p1))] (fun t => aI (s_l1In_ok p1.Side 0 1 v12 h13) (aI trivial (aI (rfl : ([] : List Nat) = []) (aI c14 (aI c14 (aI c14 (aI c14 (aI c14 (aI c14 (aI c14 (aI c14 (aI (s_l1In_ok p1.Kind 0 (W ((p0.Rules.Kinds.length : Int) - 1)) v15 h16) (aI trivial (aI (rfl : ([] : List Nat) = []) (aI c14 (aI c14 (aI c17 (aI c17 (aI c17 (aI c17 (aI c17 (aI c17 (aI c17 (aI c17 ((a2 eTKind h19 (aI c17 (aI c17 (aI (rfl : ([] : List Nat) = []) (aI c17 (aI (s_l1In_ok p1.Steps 0 v18.Steps v20 h21) (aI trivial (aI (rfl : ([] : List Nat) = []) (aI c17 (aI c17 (t)))))))))))))))))))))))))))))))))))) ?_
   rcases ofCond H with ⟨c22, H⟩ | ⟨c22, H⟩
   ·refine it c22 ?_
    refine so [] [] [(4, cB false)] [] id ?_
    refine ends_ret ?_
    cases H
    exact And.intro (.inl rfl) rfl
   ·refine jf c22 ?_
    refine sk ?_
    rcases ofCond H with ⟨c23, H⟩ | ⟨c23, H⟩
    ·refine sd [.g true, .g true, .g true, .g true, .g true, .g true, .g true, .g true] [] [(4, cB true)] [] (fun t => aI c23 (aI c23 (aI c23 (aI c23 (aI c23 (aI c23 (aI c23 (aI c23 (t))))))))) ?_
     refine ends_ret ?_
     cases H
     exact And.intro (.inl rfl) rfl
    ·rcases ofCond H with ⟨c24, H⟩ | ⟨c24, H⟩
     ·obtain ⟨v25, h26, H⟩ := ofBind H
      obtain ⟨v27, h28, H⟩ := ofBind H
      rcases ofCond H with ⟨c29, H⟩ | ⟨c29, H⟩
      ·obtain ⟨v30, h31, H⟩ := ofBind H
       refine sd [.g false, .g false, .g false, .g false, .g true, .g true, .g true, .g true, .g true, .res (cI v25), .g true, .g true, .res (cB v27), .g false, .g true, .g false, .g true, .g true, .g true, .g true, .g true, .g true, .res (cI v30), .g true, .g false, .g true, .g false] [] [(4, cB (decide (v30 > 0)))] [] (fun t => aI c23 (aI c23 (aI c23 (aI c23 (aI c24 (aI c24 (aI c24 (aI c24 (aI c24 (aI (s_mSize_ok p0.Map v25 h26) (aI trivial (aI (rfl : ([] : List Nat) = []) (aI c24 (aI c24 (aI (s_l1In_ok p1.At 0 (W (v25 - 1)) v27 h28) (aI trivial (aI (rfl : ([] : List Nat) = []) (aI c23 (aI c24 (aI c23 (aI c29 (aI c29 (aI c29 (aI c29 (aI c29 (aI c29 (aI (s_bCost_ok p0 p1.Kind p1.At v30 h31) (aI trivial (aI (rfl : ([] : List Nat) = []) (aI c29 (aI c23 (aI c29 (aI c23 (t)))))))))))))))))))))))))))))))))) ?_
       refine ends_ret ?_
       cases H
       exact And.intro (.inl rfl) rfl
      ·refine sd [.g false, .g false, .g false, .g false, .g true, .g true, .g true, .g true, .g true, .res (cI v25), .g true, .g true, .res (cB v27), .g false, .g true, .g false, .g false, .g false, .g false, .g false, .g false, .g false, .g false, .g false, .g false, .g false] [] [(4, cB false)] [] (fun t => aI c23 (aI c23 (aI c23 (aI c23 (aI c24 (aI c24 (aI c24 (aI c24 (aI c24 (aI (s_mSize_ok p0.Map v25 h26) (aI trivial (aI (rfl : ([] : List Nat) = []) (aI c24 (aI c24 (aI (s_l1In_ok p1.At 0 (W (v25 - 1)) v27 h28) (aI trivial (aI (rfl : ([] : List Nat) = []) (aI c23 (aI c24 (aI c23 (aI c29 (aI c29 (aI c29 (aI c29 (aI c29 (aI c29 (aI c29 (aI c23 (aI c29 (aI c23 (t))))))))))))))))))))))))))))))) ?_
       refine ends_ret ?_
       cases H
       exact And.intro (.inl rfl) rfl
     ·refine sd [.g false, .g false, .g false, .g false, .g false, .g false, .g false, .g false, .g false, .g false, .g false, .g false, .g false, .g false, .g false, .g false, .g false, .g false, .g false, .g false, .g false, .g false, .g false, .g false] [] [(4, cB false)] [] (fun t => aI c23 (aI c23 (aI c23 (aI c23 (aI c24 (aI c24 (aI c24 (aI c24 (aI c24 (aI c24 (aI c24 (aI c23 (aI c24 (aI c23 (aI (rfl : (false : Bool) = false) (aI (rfl : (false : Bool) = false) (aI (rfl : (false : Bool) = false) (aI (rfl : (false : Bool) = false) (aI (rfl : (false : Bool) = false) (aI (rfl : (false : Bool) = false) (aI (rfl : (false : Bool) = false) (aI c23 (aI (rfl : (false : Bool) = false) (aI c23 (t))))))))))))))))))))))))) ?_
      refine ends_ret ?_
      cases H
      exact And.intro (.inl rfl) rfl
def s_sGood_ir : S :=
 (sq [o 2 (.box 12 (.t 0)), o 3 (.box 3 (.t 1)), o 4 (.mv (.v (.bool false)))]
 (.seq (sq [o 9 (.load 12 true (.t 2)), o 10 (.call 55 [.t 9]), o 11 (.not (.t 10)), om 12 11, ⟨some 13, .fad 0 (.t 3), some (12, false)⟩, ⟨some 14, .load 1 false (.t 13), some (12, false)⟩, ⟨some 15, .fad 0 (.t 2), some (12, false)⟩, ⟨some 16, .fad 6 (.t 15), some (12, false)⟩, ⟨some 17, .load 1 false (.t 16), some (12, false)⟩, ⟨some 18, .call 91 [.t 14, .v (.int .i64 0), .t 17], some (12, false)⟩, ⟨some 19, .not (.t 18), some (12, false)⟩, o 20 (.pick (.t 12) (.v (.bool true)) (.t 19)), om 21 20, ⟨some 22, .fad 1 (.t 3), some (21, false)⟩, ⟨some 23, .load 1 false (.t 22), some (21, false)⟩, ⟨some 24, .call 91 [.t 23, .v (.int .i64 0), .v (.int .i64 2)], some (21, false)⟩, ⟨some 25, .not (.t 24), some (21, false)⟩, o 26 (.pick (.t 21) (.v (.bool true)) (.t 25)), om 27 26, ⟨some 28, .fad 2 (.t 3), some (27, false)⟩, ⟨some 29, .load 1 false (.t 28), some (27, false)⟩, ⟨some 30, .len (.t 29), some (27, false)⟩, ⟨some 31, .bin .gtr (.t 30) (iv 12), some (27, false)⟩, o 32 (.pick (.t 27) (.v (.bool true)) (.t 31))]
 (.ite (.t 32) (sq [o 4 (.mv (.v (.bool false)))]
  .ret)
 .skip))
 (.seq (sq [o 33 (.fad 2 (.t 3)), o 34 (.load 1 false (.t 33)), o 35 (.len (.t 34)), o 36 (.mv (iv 0))]
 (.blk 0 (.loop (sq [o 37 (.bin .lss (.t 36) (.t 35))]
   (.seq (.ite (.t 37) .skip
   (.exit 0))
   (.seq (.blk 1 (sq [o 38 (.iad 4 (.t 34) (.t 36)), o 39 (.load 4 true (.t 38)), o 6 (.alloc [.int .i64 0, .int .i64 0, .int .i64 0, .int .i64 0]), ⟨none, .store 4 (.t 6) (.t 39), none⟩]
    (sq [o 40 (.load 12 true (.t 2)), o 41 (.load 4 true (.t 6)), o 42 (.call 198 [.t 40, .t 41]), o 43 (.not (.t 42))]
    (.ite (.t 43) (sq [o 4 (.mv (.v (.bool false)))]
     .ret)
    .skip))))
   (.ops [o 44 (.bin .add (.t 36) (iv 1)), om 36 44])))))))
 (.seq (sq [o 45 (.fad 2 (.t 3)), o 46 (.load 1 false (.t 45)), o 47 (.len (.t 46)), o 48 (.mv (iv 0))]
 (.blk 2 (.loop (sq [o 49 (.bin .lss (.t 48) (.t 47))]
   (.seq (.ite (.t 49) .skip
   (.exit 2))
   (.seq (.blk 3 (sq [o 50 (.iad 4 (.t 46) (.t 48)), o 51 (.load 4 true (.t 50)), o 8 (.alloc [.int .i64 0, .int .i64 0, .int .i64 0, .int .i64 0]), ⟨none, .store 4 (.t 8) (.t 51), none⟩]
    (.seq (.draw 27 [o 52 (.fad 2 (.t 8)), o 53 (.load 1 false (.t 52)), o 54 (.bin .geq (.t 53) (iv 0)), om 55 54, ⟨some 56, .load 3 true (.t 3), some (55, true)⟩, ⟨some 57, .fad 2 (.t 8), some (55, true)⟩, ⟨some 58, .load 1 false (.t 57), some (55, true)⟩, ⟨some 59, .fad 0 (.t 8), some (55, true)⟩, ⟨some 60, .load 1 false (.t 59), some (55, true)⟩, ⟨some 61, .bin .sub (iv 1) (.t 60), some (55, true)⟩, ⟨some 62, .call 176 [.t 56, .t 58, .t 61], some (55, true)⟩, ⟨some 63, .len (.t 62), some (55, true)⟩, ⟨some 64, .bin .gtr (.t 63) (iv 0), some (55, true)⟩, ⟨some 65, .mv (.t 64), some (55, true)⟩, ⟨some 66, .load 3 true (.t 3), some (65, false)⟩, ⟨some 67, .fad 2 (.t 8), some (65, false)⟩, ⟨some 68, .load 1 false (.t 67), some (65, false)⟩, ⟨some 69, .fad 0 (.t 8), some (65, false)⟩, ⟨some 70, .load 1 false (.t 69), some (65, false)⟩, ⟨some 71, .call 176 [.t 66, .t 68, .t 70], some (65, false)⟩, ⟨some 72, .len (.t 71), some (65, false)⟩, ⟨some 73, .fad 0 (.t 2), some (65, false)⟩, ⟨some 74, .fad 2 (.t 73), some (65, false)⟩, ⟨some 75, .load 1 false (.t 74), some (65, false)⟩, ⟨some 76, .bin .gtr (.t 72) (.t 75), some (65, false)⟩, ⟨some 77, .pick (.t 65) (.v (.bool true)) (.t 76), some (55, true)⟩, o 78 (.pick (.t 55) (.t 77) (.v (.bool false)))])
    (.ite (.t 78) (sq [o 4 (.mv (.v (.bool false)))]
     .ret)
    .skip))))
   (.ops [o 79 (.bin .add (.t 48) (iv 1)), om 48 79])))))))
 (sq [o 4 (.mv (.v (.bool true)))]
 .ret)))))
noncomputable def X.s_sGood (p0 : TBoard) (p1 : TState) : Option Bool :=
 ((X.s_bGood p0).bind fun v11 => (bif (!v11) then some false else ((X.s_l1In p1.Turn 0 p0.Rules.Turns).bind fun v14 => (bif (!v14) then some false else ((X.s_l1In p1.Weather 0 2).bind fun v17 => (bif (!v17) then some false else (bif (decide ((p1.Units.length : Int) > 12)) then some false else ((loop (fun (x63 : Int) => ((bif (decide (x63 < (p1.Units.length : Int))) then ((at' zTUnit p1.Units x63).bind fun v66 => ((X.s_sUnit p0 v66).bind fun v68 => (bif (!v68) then some (Sum.inr (Sum.inr false)) else some (Sum.inl (W (x63 + 1)))))) else some (Sum.inr (Sum.inl ()))) : Option (Int ⊕ (Unit ⊕ Bool)))) 0).bind fun y71 => (Sum.elim (fun (y73 : Unit) => ((loop (fun (x98 : Int) => ((bif (decide (x98 < (p1.Units.length : Int))) then ((at' zTUnit p1.Units x98).bind fun v101 => (bif (decide (v101.At ≥ 0)) then ((X.s_sAt p1 v101.At (W (1 - v101.Side))).bind fun v104 => (bif (decide ((v104.length : Int) > 0)) then some (Sum.inr (Sum.inr false)) else ((X.s_sAt p1 v101.At v101.Side).bind fun v107 => (bif (decide ((v107.length : Int) > p0.Rules.Stack)) then some (Sum.inr (Sum.inr false)) else some (Sum.inl (W (x98 + 1))))))) else some (Sum.inl (W (x98 + 1))))) else some (Sum.inr (Sum.inl ()))) : Option (Int ⊕ (Unit ⊕ Bool)))) 0).bind fun y110 => (Sum.elim (fun (y112 : Unit) => some true) (fun (y113 : Bool) => some y113) y110))) (fun (y74 : Bool) => some y74) y71)))))))))
theorem s_sGood_ok (p0 : TBoard) (p1 : TState) (r : Bool) (H : X.s_sGood p0 p1 = some r) : FnOk Tryz.prog gl 164 [.agg (eTBoard p0), .agg (eTState p1)] (cB r) := by
 unfold X.s_sGood at H
 refine fi Tryz.f164 s_sGood_ir [(4, cB r)] [] glL Tryz.func164 ?_
 refine so [] [] [(2, pk 2), (3, pk 3)] [(2, va (eTBoard p0)), (3, va (eTState p1))] id ?_
 refine seq_in ?_
 obtain ⟨v11, h12, H⟩ := ofBind H
 rcases ofCond H with ⟨c13, H⟩ | ⟨c13, H⟩
 ·refine so [.res (cB v11), .g true, .g true, .g true, .g true, .g true, .g true, .g true, .g true, .g true, .g true, .g true, .g true, .g true, .g true, .g true, .g true, .g true, .g true] [] [(2, pk 2), (3, pk 3), (32, cB true)] [(2, va (eTBoard p0)), (3, va (eTState p1))] (fun t => aI (s_bGood_ok p0 v11 h12) (aI c13 (aI c13 (aI c13 (aI c13 (aI c13 (aI c13 (aI c13 (aI c13 (aI (rfl : (true : Bool) = true) (aI (rfl : (true : Bool) = true) (aI (rfl : (true : Bool) = true) (aI (rfl : (true : Bool) = true) (aI (rfl : (true : Bool) = true) (aI (rfl : (true : Bool) = true) (aI (rfl : (true : Bool) = true) (aI (rfl : (true : Bool) = true) (aI (rfl : (true : Bool) = true) (aI (rfl : (true : Bool) = true) (t)))))))))))))))))))) ?_
  refine it (rfl : (true : Bool) = true) ?_
  refine so [] [] [(4, cB false)] [] id ?_
  refine ends_ret ?_
  cases H
  exact And.intro (.inl rfl) rfl
 ·obtain ⟨v14, h15, H⟩ := ofBind H
  rcases ofCond H with ⟨c16, H⟩ | ⟨c16, H⟩
  ·refine so [.res (cB v11), .g false, .g false, .g false, .g false, .g false, .g false, .res (cB v14), .g false, .g false, .g true, .g true, .g true, .g true, .g true, .g true, .g true, .g true, .g true, .g true] [] [(2, pk 2), (3, pk 3), (32, cB true)] [(2, va (eTBoard p0)), (3, va (eTState p1))] (fun t => aI (s_bGood_ok p0 v11 h12) (aI c13 (aI c13 (aI c13 (aI c13 (aI c13 (aI c13 (aI (s_l1In_ok p1.Turn 0 p0.Rules.Turns v14 h15) (aI c13 (aI c13 (aI c16 (aI c16 (aI c16 (aI c16 (aI c16 (aI (rfl : (true : Bool) = true) (aI (rfl : (true : Bool) = true) (aI (rfl : (true : Bool) = true) (aI (rfl : (true : Bool) = true) (aI (rfl : (true : Bool) = true) (t))))))))))))))))))))) ?_
   refine it (rfl : (true : Bool) = true) ?_
   refine so [] [] [(4, cB false)] [] id ?_
   refine ends_ret ?_
   cases H
   exact And.intro (.inl rfl) rfl
  ·obtain ⟨v17, h18, H⟩ := ofBind H
   rcases ofCond H with ⟨c19, H⟩ | ⟨c19, H⟩
   ·refine so [.res (cB v11), .g false, .g false, .g false, .g false, .g false, .g false, .res (cB v14), .g false, .g false, .g false, .g false, .g false, .res (cB v17), .g false, .g false, .g true, .g true, .g true, .g true, .g true] [] [(2, pk 2), (3, pk 3), (32, cB true)] [(2, va (eTBoard p0)), (3, va (eTState p1))] (fun t => aI (s_bGood_ok p0 v11 h12) (aI c13 (aI c13 (aI c13 (aI c13 (aI c13 (aI c13 (aI (s_l1In_ok p1.Turn 0 p0.Rules.Turns v14 h15) (aI c13 (aI c13 (aI c16 (aI c16 (aI c16 (aI (s_l1In_ok p1.Weather 0 2 v17 h18) (aI c16 (aI c16 (aI c19 (aI c19 (aI c19 (aI c19 (aI c19 (t)))))))))))))))))))))) ?_
    refine it (rfl : (true : Bool) = true) ?_
    refine so [] [] [(4, cB false)] [] id ?_
    refine ends_ret ?_
    cases H
    exact And.intro (.inl rfl) rfl
   ·refine so [.res (cB v11), .g false, .g false, .g false, .g false, .g false, .g false, .res (cB v14), .g false, .g false, .g false, .g false, .g false, .res (cB v17), .g false, .g false, .g false, .g false, .g false, .g false, .g false] [] [(2, pk 2), (3, pk 3), (32, cB (decide ((p1.Units.length : Int) > 12)))] [(2, va (eTBoard p0)), (3, va (eTState p1))] (fun t => aI (s_bGood_ok p0 v11 h12) (aI c13 (aI c13 (aI c13 (aI c13 (aI c13 (aI c13 (aI (s_l1In_ok p1.Turn 0 p0.Rules.Turns v14 h15) (aI c13 (aI c13 (aI c16 (aI c16 (aI c16 (aI (s_l1In_ok p1.Weather 0 2 v17 h18) (aI c16 (aI c16 (aI c19 (aI c19 (aI c19 (lI p1.Units (aI c19 (aI c19 (t))))))))))))))))))))))) ?_
    rcases ofCond H with ⟨c20, H⟩ | ⟨c20, H⟩
    ·refine it c20 ?_
     refine so [] [] [(4, cB false)] [] id ?_
     refine ends_ret ?_
     cases H
     exact And.intro (.inl rfl) rfl
    ·refine jf c20 ?_
     refine sk ?_
     refine seq_in ?_
     refine so [] [] [(2, pk 2), (3, pk 3), (34, dc 4 eTUnit zTUnit p1.Units), (35, cL p1.Units), (36, cI 0)] [(2, va (eTBoard p0)), (3, va (eTState p1))] (fun t => lI p1.Units (t)) ?_
     refine ends_blk ?_
     obtain ⟨y71, h72, H⟩ := ofBind H
     refine loop_in (fun (x : Int) => lit [(2, pk 2), (3, pk 3), (34, dc 4 eTUnit zTUnit p1.Units), (35, cL p1.Units), (36, cI x)] [(2, va (eTBoard p0)), (3, va (eTState p1))]) (orJ (fun (z : Unit) => At (.exit 0) (lit [(2, pk 2), (3, pk 3)] [(2, va (eTBoard p0)), (3, va (eTState p1))])) (fun (z : Bool) => At .ret (lit [(4, cB z)] []))) h72 ?_ ?_
     ·clear H h72
      intro x63 y0 H
      refine so [] [] [(2, pk 2), (3, pk 3), (34, dc 4 eTUnit zTUnit p1.Units), (35, cL p1.Units), (36, cI x63), (37, cB (decide (x63 < (p1.Units.length : Int))))] [(2, va (eTBoard p0)), (3, va (eTState p1))] id ?_
      refine seq_in ?_
      rcases ofCond H with ⟨c65, H⟩ | ⟨c65, H⟩
      ·refine it c65 ?_
       refine sk ?_
       refine seq_in ?_
       refine ends_blk ?_
       obtain ⟨v66, h67, H⟩ := ofBind H
       refine so [.cs (eTUnit v66)] [] [(2, pk 2), (3, pk 3), (6, pk 6), (34, dc 4 eTUnit zTUnit p1.Units), (35, cL p1.Units), (36, cI x63)] [(2, va (eTBoard p0)), (3, va (eTState p1)), (6, va (eTUnit v66))] (a2 eTUnit h67) ?_
       obtain ⟨v68, h69, H⟩ := ofBind H
       refine so [.res (cB v68)] [] [(2, pk 2), (3, pk 3), (34, dc 4 eTUnit zTUnit p1.Units), (35, cL p1.Units), (36, cI x63), (43, cB (!v68))] [(2, va (eTBoard p0)), (3, va (eTState p1))] (aI (s_sUnit_ok p0 v66 v68 h69)) ?_
       rcases ofCond H with ⟨c70, H⟩ | ⟨c70, H⟩
       ·refine it c70 ?_
        refine so [] [] [(4, cB false)] [] id ?_
        refine ends_ret ?_
        cases H
        exact And.intro (by simp) (And.intro rfl rfl)
       ·refine jf c70 ?_
        refine sk ?_
        refine oo [] [] [(2, pk 2), (3, pk 3), (34, dc 4 eTUnit zTUnit p1.Units), (35, cL p1.Units), (36, cI (W (x63 + 1)))] [(2, va (eTBoard p0)), (3, va (eTState p1))] id ?_
        cases H
        exact And.intro rfl rfl
      ·refine jf c65 ?_
       refine tl [] [(2, pk 2), (3, pk 3)] [(2, va (eTBoard p0)), (3, va (eTState p1))] id ?_
       refine ends_exit ?_
       cases H
       exact And.intro (by simp) (And.intro rfl rfl)
     ·clear h72
      cases y71 with
      | inl y73 =>
       replace H := ofInl H
       intro e s q
       obtain ⟨rfl, rfl⟩ := q
       change EndsI _ _ _ _ _ _
       refine seq_in ?_
       refine so [] [] [(2, pk 2), (3, pk 3), (46, dc 4 eTUnit zTUnit p1.Units), (47, cL p1.Units), (48, cI 0)] [(2, va (eTBoard p0)), (3, va (eTState p1))] (fun t => lI p1.Units (t)) ?_
       refine ends_blk ?_
       obtain ⟨y110, h111, H⟩ := ofBind H
       refine loop_in (fun (x : Int) => lit [(2, pk 2), (3, pk 3), (46, dc 4 eTUnit zTUnit p1.Units), (47, cL p1.Units), (48, cI x)] [(2, va (eTBoard p0)), (3, va (eTState p1))]) (orJ (fun (z : Unit) => At (.exit 2) (lit [] [])) (fun (z : Bool) => At .ret (lit [(4, cB z)] []))) h111 ?_ ?_
       ·clear H h111
        intro x98 y0 H
        refine so [] [] [(2, pk 2), (3, pk 3), (46, dc 4 eTUnit zTUnit p1.Units), (47, cL p1.Units), (48, cI x98), (49, cB (decide (x98 < (p1.Units.length : Int))))] [(2, va (eTBoard p0)), (3, va (eTState p1))] id ?_
        refine seq_in ?_
        rcases ofCond H with ⟨c100, H⟩ | ⟨c100, H⟩
        ·refine it c100 ?_
         refine sk ?_
         refine seq_in ?_
         refine ends_blk ?_
         obtain ⟨v101, h102, H⟩ := ofBind H
         refine so [.cs (eTUnit v101)] [] [(2, pk 2), (3, pk 3), (8, pk 8), (46, dc 4 eTUnit zTUnit p1.Units), (47, cL p1.Units), (48, cI x98)] [(2, va (eTBoard p0)), (3, va (eTState p1)), (8, va (eTUnit v101))] (a2 eTUnit h102) ?_
         rcases ofCond H with ⟨c103, H⟩ | ⟨c103, H⟩
         ·obtain ⟨v104, h105, H⟩ := ofBind H
          rcases ofCond H with ⟨c106, H⟩ | ⟨c106, H⟩
          ·refine sd [.g true, .g true, .g true, .g true, .g true, .g true, .g true, .res (dc 1 eI zI v104), .g true, .g true, .g true, .g true, .g true, .g true, .g true, .g true, .g true, .g true, .g true, .g true, .g true, .g true, .g true, .g true, .g true] [] [(2, pk 2), (3, pk 3), (46, dc 4 eTUnit zTUnit p1.Units), (47, cL p1.Units), (48, cI x98), (78, cB true)] [(2, va (eTBoard p0)), (3, va (eTState p1))] (fun t => aI c103 (aI c103 (aI c103 (aI c103 (aI c103 (aI c103 (aI c103 (aI (s_sAt_ok p1 v101.At (W (1 - v101.Side)) v104 h105) (aI (rfl : ([] : List Nat) = []) (aI (rfl : ([] : List Nat) = []) (aI c103 (aI c103 (aI c103 (aI c106 (aI c106 (aI c106 (aI c106 (aI c106 (aI c106 (aI c106 (aI c106 (aI c106 (aI c106 (aI c106 (aI c103 (aI c106 (aI c103 (t)))))))))))))))))))))))))))) ?_
           refine it (rfl : (true : Bool) = true) ?_
           refine so [] [] [(4, cB false)] [] id ?_
           refine ends_ret ?_
           cases H
           exact And.intro (by simp) (And.intro rfl rfl)
          ·obtain ⟨v107, h108, H⟩ := ofBind H
           refine sd [.g true, .g true, .g true, .g true, .g true, .g true, .g true, .res (dc 1 eI zI v104), .g true, .g true, .g true, .g false, .g false, .g false, .g false, .g false, .g false, .res (dc 1 eI zI v107), .g false, .g false, .g false, .g false, .g false, .g true, .g false, .g true] [] [(2, pk 2), (3, pk 3), (46, dc 4 eTUnit zTUnit p1.Units), (47, cL p1.Units), (48, cI x98), (78, cB (decide ((v107.length : Int) > p0.Rules.Stack)))] [(2, va (eTBoard p0)), (3, va (eTState p1))] (fun t => aI c103 (aI c103 (aI c103 (aI c103 (aI c103 (aI c103 (aI c103 (aI (s_sAt_ok p1 v101.At (W (1 - v101.Side)) v104 h105) (aI (rfl : ([] : List Nat) = []) (aI (rfl : ([] : List Nat) = []) (aI c103 (aI c103 (aI c103 (aI c106 (aI c106 (aI c106 (aI c106 (aI c106 (aI c106 (aI (s_sAt_ok p1 v101.At v101.Side v107 h108) (aI (rfl : ([] : List Nat) = []) (aI (rfl : ([] : List Nat) = []) (aI c106 (aI c106 (aI c106 (aI c106 (aI c106 (aI c103 (aI c106 (aI c103 (t))))))))))))))))))))))))))))))) ?_
           rcases ofCond H with ⟨c109, H⟩ | ⟨c109, H⟩
           ·refine it c109 ?_
            refine so [] [] [(4, cB false)] [] id ?_
            refine ends_ret ?_
            cases H
            exact And.intro (by simp) (And.intro rfl rfl)
           ·refine jf c109 ?_
            refine sk ?_
            refine oo [] [] [(2, pk 2), (3, pk 3), (46, dc 4 eTUnit zTUnit p1.Units), (47, cL p1.Units), (48, cI (W (x98 + 1)))] [(2, va (eTBoard p0)), (3, va (eTState p1))] id ?_
            cases H
            exact And.intro rfl rfl
         ·refine sd [.g false, .g false, .g false, .g false, .g false, .g false, .g false, .g false, .g false, .g false, .g false, .g false] [] [(2, pk 2), (3, pk 3), (46, dc 4 eTUnit zTUnit p1.Units), (47, cL p1.Units), (48, cI x98), (78, cB false)] [(2, va (eTBoard p0)), (3, va (eTState p1))] (fun t => aI c103 (aI c103 (aI c103 (aI c103 (aI c103 (aI c103 (aI c103 (aI c103 (aI c103 (aI c103 (aI c103 (aI c103 (t))))))))))))) ?_
          refine jf (rfl : (false : Bool) = false) ?_
          refine sk ?_
          refine oo [] [] [(2, pk 2), (3, pk 3), (46, dc 4 eTUnit zTUnit p1.Units), (47, cL p1.Units), (48, cI (W (x98 + 1)))] [(2, va (eTBoard p0)), (3, va (eTState p1))] id ?_
          cases H
          exact And.intro rfl rfl
        ·refine jf c100 ?_
         refine tl [] [] [] id ?_
         refine ends_exit ?_
         cases H
         exact And.intro (by simp) (And.intro rfl rfl)
       ·clear h111
        cases y110 with
        | inl y112 =>
         replace H := ofInl H
         intro e s q
         obtain ⟨rfl, rfl⟩ := q
         change EndsI _ _ _ _ _ _
         refine so [] [] [(4, cB true)] [] id ?_
         refine ends_ret ?_
         cases H
         exact And.intro (.inl rfl) rfl
        | inr y113 =>
         replace H := ofInr H
         intro e s q
         obtain ⟨rfl, rfl⟩ := q
         cases H
         exact And.intro (.inl rfl) rfl
      | inr y74 =>
       replace H := ofInr H
       intro e s q
       obtain ⟨rfl, rfl⟩ := q
       cases H
       exact And.intro (.inl rfl) rfl
def s_sHas_ir : S :=
 (sq [o 3 (.box 12 (.t 0)), o 4 (.box 3 (.t 1)), o 6 (.mv (.v (.bool false)))]
 (sq [o 7 (.load 12 true (.t 3)), o 8 (.load 3 true (.t 4)), o 9 (.call 164 [.t 7, .t 8]), om 10 9, ⟨some 11, .mv (.t 2), some (10, true)⟩, ⟨some 12, .fad 2 (.t 4), some (10, true)⟩, ⟨some 13, .load 1 false (.t 12), some (10, true)⟩, ⟨some 14, .len (.t 13), some (10, true)⟩, ⟨some 15, .bin .sub (.t 14) (iv 1), some (10, true)⟩, ⟨some 16, .call 91 [.t 11, .v (.int .i64 0), .t 15], some (10, true)⟩, o 17 (.pick (.t 10) (.t 16) (.v (.bool false))), om 6 17]
 .ret))
noncomputable def X.s_sHas (p0 : TBoard) (p1 : TState) (p2 : Int) : Option Bool :=
 ((X.s_sGood p0 p1).bind fun v1 => (bif v1 then ((X.s_l1In p2 0 (W ((p1.Units.length : Int) - 1))).bind fun v4 => some v4) else some false))
theorem s_sHas_ok (p0 : TBoard) (p1 : TState) (p2 : Int) (r : Bool) (H : X.s_sHas p0 p1 p2 = some r) : FnOk Tryz.prog gl 79 [.agg (eTBoard p0), .agg (eTState p1), cI p2] (cB r) := by
 unfold X.s_sHas at H
 refine fi Tryz.f79 s_sHas_ir [(6, cB r)] [] glL Tryz.func79 ?_
 refine so [] [] [(2, cI p2), (3, pk 3), (4, pk 4)] [(3, va (eTBoard p0)), (4, va (eTState p1))] id ?_
 obtain ⟨v1, h2, H⟩ := ofBind H
 rcases ofCond H with ⟨c3, H⟩ | ⟨c3, H⟩
 ·obtain ⟨v4, h5, H⟩ := ofBind H
  refine so [.res (cB v1), .g true, .g true, .g true, .g true, .g true, .g true, .res (cB v4), .g true] [] [(6, cB v4)] [] (fun t => aI (s_sGood_ok p0 p1 v1 h2) (aI c3 (aI c3 (aI c3 (aI c3 (lI p1.Units (aI c3 (aI c3 (aI (s_l1In_ok p2 0 (W ((p1.Units.length : Int) - 1)) v4 h5) (aI c3 (t))))))))))) ?_
  refine ends_ret ?_
  cases H
  exact And.intro (.inl rfl) rfl
 ·refine so [.res (cB v1), .g false, .g false, .g false, .g false, .g false, .g false, .g false] [] [(6, cB false)] [] (fun t => aI (s_sGood_ok p0 p1 v1 h2) (aI c3 (aI c3 (aI c3 (aI c3 (aI c3 (aI c3 (aI c3 (t))))))))) ?_
  refine ends_ret ?_
  cases H
  exact And.intro (.inl rfl) rfl
def s_sHex_ir : S :=
 (sq [o 3 (.box 12 (.t 0)), o 4 (.box 3 (.t 1)), o 6 (.mv (.v (.bool false)))]
 (sq [o 7 (.load 12 true (.t 3)), o 8 (.load 3 true (.t 4)), o 9 (.call 164 [.t 7, .t 8]), om 10 9, ⟨some 11, .mv (.t 2), some (10, true)⟩, ⟨some 12, .fad 7 (.t 3), some (10, true)⟩, ⟨some 13, .load 5 true (.t 12), some (10, true)⟩, ⟨some 14, .call 130 [.t 13], some (10, true)⟩, ⟨some 15, .bin .sub (.t 14) (iv 1), some (10, true)⟩, ⟨some 16, .call 91 [.t 11, .v (.int .i64 0), .t 15], some (10, true)⟩, o 17 (.pick (.t 10) (.t 16) (.v (.bool false))), om 6 17]
 .ret))
noncomputable def X.s_sHex (p0 : TBoard) (p1 : TState) (p2 : Int) : Option Bool :=
 ((X.s_sGood p0 p1).bind fun v1 => (bif v1 then ((X.s_mSize p0.Map).bind fun v4 => ((X.s_l1In p2 0 (W (v4 - 1))).bind fun v6 => some v6)) else some false))
theorem s_sHex_ok (p0 : TBoard) (p1 : TState) (p2 : Int) (r : Bool) (H : X.s_sHex p0 p1 p2 = some r) : FnOk Tryz.prog gl 80 [.agg (eTBoard p0), .agg (eTState p1), cI p2] (cB r) := by
 unfold X.s_sHex at H
 refine fi Tryz.f80 s_sHex_ir [(6, cB r)] [] glL Tryz.func80 ?_
 refine so [] [] [(2, cI p2), (3, pk 3), (4, pk 4)] [(3, va (eTBoard p0)), (4, va (eTState p1))] id ?_
 obtain ⟨v1, h2, H⟩ := ofBind H
 rcases ofCond H with ⟨c3, H⟩ | ⟨c3, H⟩
 ·obtain ⟨v4, h5, H⟩ := ofBind H
  obtain ⟨v6, h7, H⟩ := ofBind H
  refine so [.res (cB v1), .g true, .g true, .g true, .g true, .res (cI v4), .g true, .g true, .res (cB v6), .g true] [] [(6, cB v6)] [] (fun t => aI (s_sGood_ok p0 p1 v1 h2) (aI c3 (aI c3 (aI c3 (aI c3 (aI (s_mSize_ok p0.Map v4 h5) (aI c3 (aI c3 (aI (s_l1In_ok p2 0 (W (v4 - 1)) v6 h7) (aI c3 (t))))))))))) ?_
  refine ends_ret ?_
  cases H
  exact And.intro (.inl rfl) rfl
 ·refine so [.res (cB v1), .g false, .g false, .g false, .g false, .g false, .g false, .g false] [] [(6, cB false)] [] (fun t => aI (s_sGood_ok p0 p1 v1 h2) (aI c3 (aI c3 (aI c3 (aI c3 (aI c3 (aI c3 (aI c3 (t))))))))) ?_
  refine ends_ret ?_
  cases H
  exact And.intro (.inl rfl) rfl
def s_sOwn_ir : S :=
 (sq [o 1 (.box 3 (.t 0)), o 2 (.alloc [.int .i64 0, .int .i64 0, .nil])]
 (.seq (.drw [(0, 2), (1, 2), (0, 3), (1, 3), (0, 4), (1, 4), (2, 4), (3, 4), (0, 5), (1, 5), (2, 5), (3, 5), (4, 5), (0, 6), (1, 6), (2, 6), (3, 6), (4, 6), (0, 7), (1, 7), (2, 7), (3, 7)] [o 3 (.fad 0 (.t 1)), o 4 (.load 1 false (.t 3)), o 5 (.fad 1 (.t 1)), o 6 (.load 1 false (.t 5)), o 7 (.bsl 4 []), o 8 (.fad 2 (.t 1)), o 9 (.load 1 false (.t 8)), o 10 (.app 4 32 (.t 7) (.t 9)), o 11 (.build [.int .i64 0, .int .i64 0, .nil] [(0, 1, .t 4), (1, 1, .t 6), (2, 1, .t 10)]), ⟨none, .store 3 (.t 2) (.t 11), none⟩])
 .ret))
noncomputable def X.s_sOwn (p0 : TState) : Option TState :=
 (if (([] : List TUnit) ++ p0.Units).length ≤ LIM then some (TState.mk p0.Turn p0.Weather (([] : List TUnit) ++ p0.Units)) else none)
theorem s_sOwn_ok (p0 : TState) (r : TState) (H : X.s_sOwn p0 = some r) : FnOk Tryz.prog gl 81 [.agg (eTState p0)] (.agg (eTState r)) := by
 unfold X.s_sOwn at H
 refine fi Tryz.f81 s_sOwn_ir [(2, pk 2)] [(2, va (eTState r))] glL Tryz.func81 ?_
 refine so [] [] [(1, pk 1), (2, pk 2)] [(1, va (eTState p0)), (2, .var [.int .i64 0, .int .i64 0, .nil] false)] id ?_
 obtain ⟨g1, H⟩ := ofIf H
 refine seq_drw [.no, fh eTUnit zTUnit ([] : List TUnit), fh eTUnit zTUnit (([] : List TUnit) ++ p0.Units)] [] [(2, pk 2)] [(2, .var [.int .i64 p0.Turn, .int .i64 p0.Weather, .own 10 4 0 ((([] : List TUnit) ++ p0.Units).length)] false), (10, ar 4 eTUnit zTUnit (([] : List TUnit) ++ p0.Units))] (fun t => aI (rfl : ([] : List TUnit).length = 0) (aI (rfl : true = true) (aI (fF_lit eTUnit zTUnit ([] : List TUnit)) (aI (And.intro (Nat.le_refl (([] : List TUnit).length)) (And.intro (@List.length_append _ ([] : List TUnit) p0.Units) g1)) (aI (fF_appL eTUnit zTUnit ([] : List TUnit) p0.Units) (aI (fF_appR eTUnit zTUnit ([] : List TUnit) p0.Units) (t))))))) (by kernel_rfl) ?_
 refine tl [.frc 2 2] [(2, pk 2)] [(2, .var [.int .i64 p0.Turn, .int .i64 p0.Weather, dat 4 eTUnit zTUnit (([] : List TUnit) ++ p0.Units)] false)] (aI (Nat.le_refl ((([] : List TUnit) ++ p0.Units).length))) ?_
 refine ends_ret ?_
 cases H
 exact And.intro (.inl rfl) rfl
def s_StartMachine_ir : S :=
 (sq [o 4 (.box 12 (.t 0)), o 5 (.box 3 (.t 1)), o 8 (.alloc [.nil, .nil, .int .i64 0, .int .i64 0, .nil, .nil]), o 9 (.mv (.v (.bool false)))]
 (.seq (sq [o 10 (.load 12 true (.t 4)), o 11 (.load 3 true (.t 5)), om 12 2, o 13 (.call 79 [.t 10, .t 11, .t 12]), o 14 (.not (.t 13)), om 15 14, ⟨some 16, .load 12 true (.t 4), some (15, false)⟩, ⟨some 17, .load 3 true (.t 5), some (15, false)⟩, ⟨some 18, .mv (.t 3), some (15, false)⟩, ⟨some 19, .call 80 [.t 16, .t 17, .t 18], some (15, false)⟩, ⟨some 20, .not (.t 19), some (15, false)⟩, o 21 (.pick (.t 15) (.v (.bool true)) (.t 20))]
 (.ite (.t 21) (sq [o 22 (.build [.nil, .nil, .int .i64 0, .int .i64 0, .nil, .nil] []), ⟨none, .store 6 (.t 8) (.t 22), none⟩, o 9 (.mv (.v (.bool false)))]
  .ret)
 .skip))
 (sq [om 23 2, om 24 3, o 25 (.build [.int .i64 0, .int .i64 0, .int .i64 0] [(0, 1, .t 23), (1, 1, .t 24), (2, 1, .v (.int .i64 (-1)))]), o 26 (.bsl 3 [.t 25]), o 27 (.load 3 true (.t 5)), o 28 (.call 81 [.t 27]), o 29 (.build [.nil, .nil, .int .i64 0, .int .i64 0, .nil, .nil] [(0, 1, .t 26), (2, 3, .t 28)]), ⟨none, .store 6 (.t 8) (.t 29), none⟩, o 9 (.mv (.v (.bool true)))]
 .ret)))
noncomputable def X.s_StartMachine (p0 : TBoard) (p1 : TState) (p2 : Int) (p3 : Int) : Option (TMachine × Bool) :=
 ((X.s_sHas p0 p1 p2).bind fun v7 => (bif (!v7) then some ((TMachine.mk ([] : List TFrame) ([] : List Int) (TState.mk 0 0 ([] : List TUnit)) ([] : List Int)), false) else ((X.s_sHex p0 p1 p3).bind fun v10 => (bif (!v10) then some ((TMachine.mk ([] : List TFrame) ([] : List Int) (TState.mk 0 0 ([] : List TUnit)) ([] : List Int)), false) else ((X.s_sOwn p1).bind fun v13 => some ((TMachine.mk ([(TFrame.mk p2 p3 (-1))] : List TFrame) ([] : List Int) v13 ([] : List Int)), true))))))
theorem s_StartMachine_ok (p0 : TBoard) (p1 : TState) (p2 : Int) (p3 : Int) (r : (TMachine × Bool)) (H : X.s_StartMachine p0 p1 p2 p3 = some r) : FnOk Tryz.prog gl 20 [.agg (eTBoard p0), .agg (eTState p1), cI p2, cI p3] (.tup [(true, [dat 3 eTFrame zTFrame r.1.Stack, dat 1 eI zI r.1.Used, .int .i64 r.1.State.Turn, .int .i64 r.1.State.Weather, dat 4 eTUnit zTUnit r.1.State.Units, dat 1 eI zI r.1.Log]), (false, [.bool r.2])]) := by
 unfold X.s_StartMachine at H
 refine fi Tryz.f20 s_StartMachine_ir [(8, pk 8), (9, cB r.2)] [(8, va (eTMachine r.1))] glL Tryz.func20 ?_
 refine so [] [] [(2, cI p2), (3, cI p3), (4, pk 4), (5, pk 5), (8, pk 8)] [(4, va (eTBoard p0)), (5, va (eTState p1)), (8, .var [.nil, .nil, .int .i64 0, .int .i64 0, .nil, .nil] false)] id ?_
 refine seq_in ?_
 obtain ⟨v7, h8, H⟩ := ofBind H
 rcases ofCond H with ⟨c9, H⟩ | ⟨c9, H⟩
 ·refine so [.res (cB v7), .g true, .g true, .g true, .g true, .g true, .g true] [] [(2, cI p2), (3, cI p3), (5, pk 5), (8, pk 8), (21, cB true)] [(5, va (eTState p1)), (8, .var [.nil, .nil, .int .i64 0, .int .i64 0, .nil, .nil] false)] (fun t => aI (s_sHas_ok p0 p1 p2 v7 h8) (aI c9 (aI c9 (aI c9 (aI c9 (aI c9 (aI c9 (t)))))))) ?_
  refine it (rfl : (true : Bool) = true) ?_
  refine so [] [] [(8, pk 8), (9, cB false)] [(8, .var [.nil, .nil, .int .i64 0, .int .i64 0, .nil, .nil] false)] id ?_
  refine tl [.nldc 8 0 3 (fF eTFrame zTFrame ([] : List TFrame)), .nldc 8 1 1 (fF eI zI ([] : List Int)), .nldc 8 4 4 (fF eTUnit zTUnit ([] : List TUnit)), .nldc 8 5 1 (fF eI zI ([] : List Int))] [(8, pk 8), (9, cB false)] [(8, .var [dat 3 eTFrame zTFrame ([] : List TFrame), dat 1 eI zI ([] : List Int), .int .i64 0, .int .i64 0, dat 4 eTUnit zTUnit ([] : List TUnit), dat 1 eI zI ([] : List Int)] false)] id ?_
  refine ends_ret ?_
  cases H
  exact And.intro (.inl rfl) rfl
 ·obtain ⟨v10, h11, H⟩ := ofBind H
  refine so [.res (cB v7), .g false, .g false, .g false, .g false, .res (cB v10), .g false, .g false] [] [(2, cI p2), (3, cI p3), (5, pk 5), (8, pk 8), (21, cB (!v10))] [(5, va (eTState p1)), (8, .var [.nil, .nil, .int .i64 0, .int .i64 0, .nil, .nil] false)] (fun t => aI (s_sHas_ok p0 p1 p2 v7 h8) (aI c9 (aI c9 (aI c9 (aI c9 (aI (s_sHex_ok p0 p1 p3 v10 h11) (aI c9 (aI c9 (t))))))))) ?_
  rcases ofCond H with ⟨c12, H⟩ | ⟨c12, H⟩
  ·refine it c12 ?_
   refine so [] [] [(8, pk 8), (9, cB false)] [(8, .var [.nil, .nil, .int .i64 0, .int .i64 0, .nil, .nil] false)] id ?_
   refine tl [.nldc 8 0 3 (fF eTFrame zTFrame ([] : List TFrame)), .nldc 8 1 1 (fF eI zI ([] : List Int)), .nldc 8 4 4 (fF eTUnit zTUnit ([] : List TUnit)), .nldc 8 5 1 (fF eI zI ([] : List Int))] [(8, pk 8), (9, cB false)] [(8, .var [dat 3 eTFrame zTFrame ([] : List TFrame), dat 1 eI zI ([] : List Int), .int .i64 0, .int .i64 0, dat 4 eTUnit zTUnit ([] : List TUnit), dat 1 eI zI ([] : List Int)] false)] id ?_
   refine ends_ret ?_
   cases H
   exact And.intro (.inl rfl) rfl
  ·refine jf c12 ?_
   refine sk ?_
   obtain ⟨v13, h14, H⟩ := ofBind H
   refine so [fh eTFrame zTFrame ([(TFrame.mk p2 p3 (-1))] : List TFrame), .res (.agg (eTState v13))] [] [(8, pk 8), (9, cB true)] [(8, .var [.own 26 3 0 (([(TFrame.mk p2 p3 (-1))] : List TFrame).length), .nil, .int .i64 v13.Turn, .int .i64 v13.Weather, dat 4 eTUnit zTUnit v13.Units, .nil] false), (26, ar 3 eTFrame zTFrame ([(TFrame.mk p2 p3 (-1))] : List TFrame))] (fun t => aI (rfl : ([(TFrame.mk p2 p3 (-1))] : List TFrame).length = 1) (aI (fF_lit eTFrame zTFrame ([(TFrame.mk p2 p3 (-1))] : List TFrame)) (aI (s_sOwn_ok p1 v13 h14) (t)))) ?_
   refine tl [.frc 8 0, .nldc 8 1 1 (fF eI zI ([] : List Int)), .nldc 8 5 1 (fF eI zI ([] : List Int))] [(8, pk 8), (9, cB true)] [(8, .var [dat 3 eTFrame zTFrame ([(TFrame.mk p2 p3 (-1))] : List TFrame), dat 1 eI zI ([] : List Int), .int .i64 v13.Turn, .int .i64 v13.Weather, dat 4 eTUnit zTUnit v13.Units, dat 1 eI zI ([] : List Int)] false)] (aI (Nat.le_refl (([(TFrame.mk p2 p3 (-1))] : List TFrame).length))) ?_
   refine ends_ret ?_
   cases H
   exact And.intro (.inl rfl) rfl
def l_toUnit_ir : S :=
 (sq [o 1 (.box 4 (.t 0)), o 2 (.alloc [.int .i64 0, .int .i64 0, .int .i64 0, .int .i64 0])]
 (sq [o 3 (.alloc [.int .i64 0, .int .i64 0, .int .i64 0, .int .i64 0])]
 (sq [o 4 (.fad 0 (.t 1)), o 5 (.load 1 false (.t 4)), o 6 (.fad 0 (.t 3)), ⟨none, .store 1 (.t 6) (.t 5), none⟩]
 (sq [o 7 (.fad 1 (.t 1)), o 8 (.load 1 false (.t 7)), o 9 (.fad 1 (.t 3)), ⟨none, .store 1 (.t 9) (.t 8), none⟩]
 (sq [o 10 (.fad 2 (.t 1)), o 11 (.load 1 false (.t 10)), o 12 (.fad 2 (.t 3)), ⟨none, .store 1 (.t 12) (.t 11), none⟩]
 (sq [o 13 (.fad 3 (.t 1)), o 14 (.load 1 false (.t 13)), o 15 (.fad 3 (.t 3)), ⟨none, .store 1 (.t 15) (.t 14), none⟩]
 (sq [o 16 (.load 4 true (.t 3)), ⟨none, .store 4 (.t 2) (.t 16), none⟩]
 .ret)))))))
noncomputable def X.l_toUnit (p0 : TUnit) : Option TUnit :=
 some p0
theorem l_toUnit_ok (p0 : TUnit) (r : TUnit) (H : X.l_toUnit p0 = some r) : FnOk Tryz.prog gl 165 [.agg (eTUnit p0)] (.agg (eTUnit r)) := by
 unfold X.l_toUnit at H
 refine fi Tryz.f165 l_toUnit_ir [(2, pk 2)] [(2, va (eTUnit r))] glL Tryz.func165 ?_
 refine so [] [] [(1, pk 1), (2, pk 2)] [(1, va (eTUnit p0)), (2, .var [.int .i64 0, .int .i64 0, .int .i64 0, .int .i64 0] false)] id ?_
 refine so [] [] [(1, pk 1), (2, pk 2), (3, pk 3)] [(1, va (eTUnit p0)), (2, .var [.int .i64 0, .int .i64 0, .int .i64 0, .int .i64 0] false), (3, .var [.int .i64 0, .int .i64 0, .int .i64 0, .int .i64 0] false)] id ?_
 refine so [] [] [(1, pk 1), (2, pk 2), (3, pk 3)] [(1, va (eTUnit p0)), (2, .var [.int .i64 0, .int .i64 0, .int .i64 0, .int .i64 0] false), (3, .var [.int .i64 p0.Side, .int .i64 0, .int .i64 0, .int .i64 0] false)] id ?_
 refine so [] [] [(1, pk 1), (2, pk 2), (3, pk 3)] [(1, va (eTUnit p0)), (2, .var [.int .i64 0, .int .i64 0, .int .i64 0, .int .i64 0] false), (3, .var [.int .i64 p0.Side, .int .i64 p0.Kind, .int .i64 0, .int .i64 0] false)] id ?_
 refine so [] [] [(1, pk 1), (2, pk 2), (3, pk 3)] [(1, va (eTUnit p0)), (2, .var [.int .i64 0, .int .i64 0, .int .i64 0, .int .i64 0] false), (3, .var [.int .i64 p0.Side, .int .i64 p0.Kind, .int .i64 p0.At, .int .i64 0] false)] id ?_
 refine so [] [] [(2, pk 2), (3, pk 3)] [(2, .var [.int .i64 0, .int .i64 0, .int .i64 0, .int .i64 0] false), (3, va (eTUnit p0))] id ?_
 refine so [] [] [(2, pk 2)] [(2, va (eTUnit p0))] id ?_
 refine ends_ret ?_
 cases H
 exact And.intro (.inl rfl) rfl
def l_toUnitS_ir : S :=
 (sq [o 2 (.mv (.v (.nil)))]
 (sq [om 5 0, o 6 (.len (.t 5)), o 7 (.msl 4 32 [.int .i64 0, .int .i64 0, .int .i64 0, .int .i64 0] (.t 6)), om 3 7]
 (.seq (sq [o 4 (.mv (iv 0))]
 (.blk 0 (.loop (.seq (sq [om 8 4, om 9 0, o 10 (.len (.t 9)), o 11 (.bin .lss (.t 8) (.t 10))]
   (.ite (.t 11) .skip
   (.exit 0)))
   (.seq (.blk 1 (.ops [om 14 3, om 15 4, om 16 0, om 17 4, o 18 (.iad 4 (.t 16) (.t 17)), o 19 (.load 4 true (.t 18)), o 20 (.call 165 [.t 19]), o 21 (.iad 4 (.t 14) (.t 15)), ⟨none, .store 4 (.t 21) (.t 20), none⟩]))
   (.ops [om 12 4, o 13 (.bin .add (.t 12) (iv 1)), om 4 13]))))))
 (sq [om 22 3, om 2 22]
 .ret))))
noncomputable def X.l_toUnitS (p0 : (List TUnit)) : Option (List TUnit) :=
 (if 0 ≤ (p0.length : Int) ∧ (p0.length : Int).toNat ≤ LIM then ((loop (fun (x21 : (Int × (List TUnit))) => ((bif (decide (x21.1 < (p0.length : Int))) then ((at' zTUnit p0 x21.1).bind fun v24 => ((X.l_toUnit v24).bind fun v26 => (if 0 ≤ x21.1 ∧ x21.1 < (x21.2.length : Int) then ((some (x21.2.set x21.1.toNat v26)).bind fun l29 => some (Sum.inl ((W (x21.1 + 1)), l29))) else none))) else some (Sum.inr x21.2)) : Option ((Int × (List TUnit)) ⊕ (List TUnit)))) (0, (List.replicate (p0.length : Int).toNat zTUnit))).bind fun y31 => some y31) else none)
theorem l_toUnitS_F_ok (p0 : (List TUnit)) (r : (List TUnit)) (H : X.l_toUnitS p0 = some r) : FnOk Tryz.prog gl 82 [.c (dat 4 eTUnit zTUnit p0)] (.c (.fr (dat 4 eTUnit zTUnit r))) := by
 unfold X.l_toUnitS at H
 refine fn_fr (fn := Tryz.f82) (ir := l_toUnitS_ir) (s1 := lit [(2, ow 900000 4 r)] [(900000, ar 4 eTUnit zTUnit r)]) (res0 := ow 900000 4 r) glL Tryz.func82 (by kernel_rfl) (by kernel_rfl) (by kernel_rfl) (by kernel_rfl) (FrTo.own rfl (Nat.le_refl _) (fun i _ => ⟨rfl, rfl⟩)) ?_
 refine so [] [] [(0, dc 4 eTUnit zTUnit p0)] [] id ?_
 obtain ⟨g1, H⟩ := ofIf H
 refine so [fh eTUnit zTUnit (List.replicate (p0.length : Int).toNat zTUnit)] [] [(0, dc 4 eTUnit zTUnit p0), (3, ow 7 4 (List.replicate (p0.length : Int).toNat zTUnit))] [(7, ar 4 eTUnit zTUnit (List.replicate (p0.length : Int).toNat zTUnit))] (fun t => lI p0 (aI (And.intro g1.1 (And.intro (List.length_replicate (n := (p0.length : Int).toNat) (a := zTUnit)).symm (Nat.le_trans (Nat.le_of_eq List.length_replicate) g1.2 : (List.replicate (p0.length : Int).toNat zTUnit).length ≤ LIM))) (aI (fF_rep eTUnit zTUnit zTUnit (p0.length : Int).toNat) (t)))) ?_
 refine seq_in ?_
 refine so [] [] [(0, dc 4 eTUnit zTUnit p0), (3, ow 7 4 (List.replicate (p0.length : Int).toNat zTUnit)), (4, cI 0)] [(7, ar 4 eTUnit zTUnit (List.replicate (p0.length : Int).toNat zTUnit))] id ?_
 refine ends_blk ?_
 obtain ⟨y31, h32, H⟩ := ofBind H
 refine loop_in (fun (x : (Int × (List TUnit))) => lit [(0, dc 4 eTUnit zTUnit p0), (3, ow 7 4 x.2), (4, cI x.1)] [(7, ar 4 eTUnit zTUnit x.2)]) (fun (z : (List TUnit)) => At (.exit 0) (lit [(3, ow 7 4 z)] [(7, ar 4 eTUnit zTUnit z)])) h32 ?_ ?_
 ·clear H h32
  intro x21 y0 H
  refine seq_in ?_
  refine so [] [] [(0, dc 4 eTUnit zTUnit p0), (3, ow 7 4 x21.2), (4, cI x21.1), (11, cB (decide (x21.1 < (p0.length : Int))))] [(7, ar 4 eTUnit zTUnit x21.2)] (fun t => lI p0 (t)) ?_
  rcases ofCond H with ⟨c23, H⟩ | ⟨c23, H⟩
  ·refine it c23 ?_
   refine sk ?_
   refine seq_in ?_
   refine ends_blk ?_
   obtain ⟨v24, h25, H⟩ := ofBind H
   obtain ⟨v26, h27, H⟩ := ofBind H
   obtain ⟨g28, H⟩ := ofIf H
   obtain ⟨l29, h30, H⟩ := ofBind H
   refine oo [.cs (eTUnit v24), .res (.agg (eTUnit v26)), .no, .fn 0 (fF eTUnit zTUnit l29)] [] [(0, dc 4 eTUnit zTUnit p0), (3, ow 7 4 x21.2), (4, cI x21.1)] [(7, .arr 4 x21.2.length (fF eTUnit zTUnit l29) false)] (fun t => (a2 eTUnit h25 (aI (l_toUnit_ok v24 v26 h27) (aI g28 (aI (rfl : true = true) (aI (nat_lt g28) (aI (by decide : 0 + 4 ≤ 4) (aI (fF_setN eTUnit zTUnit h30 (nat_lt g28) x21.2.length) (t))))))))) ?_
   change EndsI _ _ _ _ _ _
   refine oo [] [.rel 3 l29.length, .rep 7 l29.length (fF eTUnit zTUnit l29)] [(0, dc 4 eTUnit zTUnit p0), (3, ow 7 4 l29), (4, cI (W (x21.1 + 1)))] [(7, ar 4 eTUnit zTUnit l29)] (fun t => aI (by simp [lenN h30] : x21.2.length = l29.length) (aI (Nat.le_of_eq (by simp [lenN h30] : l29.length = x21.2.length)) (aI (fun _ _ => rfl : ∀ i, i < l29.length → (fF eTUnit zTUnit l29) i = (fF eTUnit zTUnit l29) i) (t)))) ?_
   cases H
   exact And.intro rfl rfl
  ·refine jf c23 ?_
   refine tl [] [(3, ow 7 4 x21.2)] [(7, ar 4 eTUnit zTUnit x21.2)] id ?_
   refine ends_exit ?_
   cases H
   exact And.intro (by simp) (And.intro rfl rfl)
 ·clear h32
  intro e s q
  obtain ⟨rfl, rfl⟩ := q
  change EndsI _ _ _ _ _ _
  refine so [] [] [(2, ow 7 4 y31)] [(7, ar 4 eTUnit zTUnit y31)] id ?_
  refine tl [.ren 7 900000] [(2, ow 900000 4 y31)] [(900000, ar 4 eTUnit zTUnit y31)] id ?_
  refine ends_ret ?_
  cases H
  exact And.intro (.inl rfl) rfl
def l_toState_ir : S :=
 (sq [o 1 (.box 3 (.t 0)), o 2 (.alloc [.int .i64 0, .int .i64 0, .nil])]
 (sq [o 3 (.alloc [.int .i64 0, .int .i64 0, .nil])]
 (sq [o 4 (.fad 0 (.t 1)), o 5 (.load 1 false (.t 4)), o 6 (.fad 0 (.t 3)), ⟨none, .store 1 (.t 6) (.t 5), none⟩]
 (sq [o 7 (.fad 1 (.t 1)), o 8 (.load 1 false (.t 7)), o 9 (.fad 1 (.t 3)), ⟨none, .store 1 (.t 9) (.t 8), none⟩]
 (sq [o 10 (.fad 2 (.t 1)), o 11 (.load 1 false (.t 10)), o 12 (.call 82 [.t 11]), o 13 (.fad 2 (.t 3)), ⟨none, .store 1 (.t 13) (.t 12), none⟩]
 (sq [o 14 (.load 3 true (.t 3)), ⟨none, .store 3 (.t 2) (.t 14), none⟩]
 .ret))))))
noncomputable def X.l_toState (p0 : TState) : Option TState :=
 ((X.l_toUnitS p0.Units).bind fun v1 => some (TState.mk p0.Turn p0.Weather v1))
theorem l_toState_F_ok (p0 : TState) (r : TState) (H : X.l_toState p0 = some r) : FnOk Tryz.prog gl 21 [.agg (eTState p0)] (.agg [.int .i64 r.Turn, .int .i64 r.Weather, .fr (dat 4 eTUnit zTUnit r.Units)]) := by
 unfold X.l_toState at H
 refine fn_fr (fn := Tryz.f21) (ir := l_toState_ir) (s1 := lit [(2, pk 2)] [(2, .var [.int .i64 r.Turn, .int .i64 r.Weather, .fr (dat 4 eTUnit zTUnit r.Units)] false)]) (res0 := .agg [.int .i64 r.Turn, .int .i64 r.Weather, .fr (dat 4 eTUnit zTUnit r.Units)]) glL Tryz.func21 (by kernel_rfl) (by kernel_rfl) (by kernel_rfl) (by kernel_rfl) ((And.intro ((.inl ⟨rfl, rfl⟩)) (And.intro ((.inl ⟨rfl, rfl⟩)) (And.intro ((.inl ⟨rfl, rfl⟩)) trivial)))) ?_
 refine so [] [] [(1, pk 1), (2, pk 2)] [(1, va (eTState p0)), (2, .var [.int .i64 0, .int .i64 0, .nil] false)] id ?_
 refine so [] [] [(1, pk 1), (2, pk 2), (3, pk 3)] [(1, va (eTState p0)), (2, .var [.int .i64 0, .int .i64 0, .nil] false), (3, .var [.int .i64 0, .int .i64 0, .nil] false)] id ?_
 refine so [] [] [(1, pk 1), (2, pk 2), (3, pk 3)] [(1, va (eTState p0)), (2, .var [.int .i64 0, .int .i64 0, .nil] false), (3, .var [.int .i64 p0.Turn, .int .i64 0, .nil] false)] id ?_
 refine so [] [] [(1, pk 1), (2, pk 2), (3, pk 3)] [(1, va (eTState p0)), (2, .var [.int .i64 0, .int .i64 0, .nil] false), (3, .var [.int .i64 p0.Turn, .int .i64 p0.Weather, .nil] false)] id ?_
 obtain ⟨v1, h2, H⟩ := ofBind H
 refine so [.res (.c (.fr (dat 4 eTUnit zTUnit v1)))] [] [(2, pk 2), (3, pk 3)] [(2, .var [.int .i64 0, .int .i64 0, .nil] false), (3, .var [.int .i64 p0.Turn, .int .i64 p0.Weather, .fr (dat 4 eTUnit zTUnit v1)] false)] (aI (l_toUnitS_F_ok p0.Units v1 h2)) ?_
 refine so [] [] [(2, pk 2)] [(2, .var [.int .i64 p0.Turn, .int .i64 p0.Weather, .fr (dat 4 eTUnit zTUnit v1)] false)] id ?_
 refine ends_ret ?_
 cases H
 exact And.intro (.inl rfl) rfl
def i_inRange_ir : S :=
 (sq [o 6 (.mv (.v (.bool false)))]
 (sq [om 7 1, om 8 0, o 9 (.bin .leq (.t 7) (.t 8)), om 10 9, ⟨some 11, .mv (.t 0), some (10, true)⟩, ⟨some 12, .mv (.t 2), some (10, true)⟩, ⟨some 13, .bin .leq (.t 11) (.t 12), some (10, true)⟩, o 14 (.pick (.t 10) (.t 13) (.v (.bool false))), om 6 14]
 .ret))
noncomputable def X.i_inRange (p0 : Int) (p1 : Int) (p2 : Int) : Option Bool :=
 (bif (decide (p1 ≤ p0)) then some (decide (p0 ≤ p2)) else some false)
theorem i_inRange_ok (p0 : Int) (p1 : Int) (p2 : Int) (r : Bool) (H : X.i_inRange p0 p1 p2 = some r) : FnOk Tryz.prog gl 94 [cI p0, cI p1, cI p2] (cB r) := by
 unfold X.i_inRange at H
 refine fi Tryz.f94 i_inRange_ir [(6, cB r)] [] glL Tryz.func94 ?_
 refine so [] [] [(0, cI p0), (1, cI p1), (2, cI p2)] [] id ?_
 rcases ofCond H with ⟨c1, H⟩ | ⟨c1, H⟩
 ·refine so [.g true, .g true, .g true, .g true] [] [(6, cB (decide (p0 ≤ p2)))] [] (fun t => aI c1 (aI c1 (aI c1 (aI c1 (t))))) ?_
  refine ends_ret ?_
  cases H
  exact And.intro (.inl rfl) rfl
 ·refine so [.g false, .g false, .g false, .g false] [] [(6, cB false)] [] (fun t => aI c1 (aI c1 (aI c1 (aI c1 (t))))) ?_
  refine ends_ret ?_
  cases H
  exact And.intro (.inl rfl) rfl
def i_isIndex_ir : S :=
 (sq [o 4 (.mv (.v (.bool false)))]
 (sq [om 5 0, om 6 1, o 7 (.bin .sub (.t 6) (iv 1)), o 8 (.call 94 [.t 5, .v (.int .i64 0), .t 7]), om 4 8]
 .ret))
noncomputable def X.i_isIndex (p0 : Int) (p1 : Int) : Option Bool :=
 ((X.i_inRange p0 0 (W (p1 - 1))).bind fun v1 => some v1)
theorem i_isIndex_ok (p0 : Int) (p1 : Int) (r : Bool) (H : X.i_isIndex p0 p1 = some r) : FnOk Tryz.prog gl 84 [cI p0, cI p1] (cB r) := by
 unfold X.i_isIndex at H
 refine fi Tryz.f84 i_isIndex_ir [(4, cB r)] [] glL Tryz.func84 ?_
 refine so [] [] [(0, cI p0), (1, cI p1)] [] id ?_
 obtain ⟨v1, h2, H⟩ := ofBind H
 refine so [.res (cB v1)] [] [(4, cB v1)] [] (aI (i_inRange_ok p0 0 (W (p1 - 1)) v1 h2)) ?_
 refine ends_ret ?_
 cases H
 exact And.intro (.inl rfl) rfl
def g_IndexFunc_Kind_ir : S :=
 (sq [o 4 (.mv (iv 0))]
 (.seq (sq [om 6 0, o 7 (.len (.t 6)), o 8 (.mv (iv 0))]
 (.blk 0 (.loop (sq [o 9 (.bin .lss (.t 8) (.t 7))]
   (.seq (.ite (.t 9) .skip
   (.exit 0))
   (.seq (.blk 1 (sq [om 10 8, om 5 10]
    (sq [om 11 1, om 12 0, om 13 5, o 14 (.iad 6 (.t 12) (.t 13)), o 15 (.load 6 true (.t 14)), o 16 (.cald (.t 11) [.t 15])]
    (.ite (.t 16) (sq [om 17 5, om 4 17]
     .ret)
    .skip))))
   (.ops [o 18 (.bin .add (.t 8) (iv 1)), om 8 18])))))))
 (sq [o 4 (.mv (.v (.int .i64 (-1))))]
 .ret)))
noncomputable def X.g_IndexFunc_Kind (p0 : (List TKind)) (f1 : TKind → Option Bool) : Option Int :=
 ((loop (fun (x16 : Int) => ((bif (decide (x16 < (p0.length : Int))) then ((at' zTKind p0 x16).bind fun v19 => ((f1 v19).bind fun v21 => (bif v21 then some (Sum.inr (Sum.inr x16)) else some (Sum.inl (W (x16 + 1)))))) else some (Sum.inr (Sum.inl ()))) : Option (Int ⊕ (Unit ⊕ Int)))) 0).bind fun y24 => (Sum.elim (fun (y26 : Unit) => some (-1)) (fun (y27 : Int) => some y27) y24))
theorem g_IndexFunc_Kind_c1_ok (p0 : (List TKind)) (cf1 : FuncId) (cs1_0 : List AC) (f1 : TKind → Option Bool) (hf1 : ∀ q0 r, f1 q0 = some r → FnOk Tryz.prog gl cf1 [.agg (eTKind q0), .c (.pd cs1_0 0)] (cB r)) (r : Int) (H : X.g_IndexFunc_Kind p0 f1 = some r) : FnOk Tryz.prog gl 212 [.c (dat 6 eTKind zTKind p0), .c (.clo cf1 [.pd cs1_0 0])] (cI r) := by
 unfold X.g_IndexFunc_Kind at H
 refine fi Tryz.f212 g_IndexFunc_Kind_ir [(4, cI r)] [] glL Tryz.func212 ?_
 refine so [] [] [(0, dc 6 eTKind zTKind p0), (1, .c (.clo cf1 [.pd cs1_0 0]))] [] id ?_
 refine seq_in ?_
 refine so [] [] [(0, dc 6 eTKind zTKind p0), (1, .c (.clo cf1 [.pd cs1_0 0])), (7, cL p0), (8, cI 0)] [] (fun t => lI p0 (t)) ?_
 refine ends_blk ?_
 obtain ⟨y24, h25, H⟩ := ofBind H
 refine loop_in (fun (x : Int) => lit [(0, dc 6 eTKind zTKind p0), (1, .c (.clo cf1 [.pd cs1_0 0])), (7, cL p0), (8, cI x)] []) (orJ (fun (z : Unit) => At (.exit 0) (lit [] [])) (fun (z : Int) => At .ret (lit [(4, cI z)] []))) h25 ?_ ?_
 ·clear H h25
  intro x16 y0 H
  refine so [] [] [(0, dc 6 eTKind zTKind p0), (1, .c (.clo cf1 [.pd cs1_0 0])), (7, cL p0), (8, cI x16), (9, cB (decide (x16 < (p0.length : Int))))] [] id ?_
  refine seq_in ?_
  rcases ofCond H with ⟨c18, H⟩ | ⟨c18, H⟩
  ·refine it c18 ?_
   refine sk ?_
   refine seq_in ?_
   refine ends_blk ?_
   refine so [] [] [(0, dc 6 eTKind zTKind p0), (1, .c (.clo cf1 [.pd cs1_0 0])), (5, cI x16), (7, cL p0), (8, cI x16)] [] id ?_
   obtain ⟨v19, h20, H⟩ := ofBind H
   obtain ⟨v21, h22, H⟩ := ofBind H
   refine so [.cs (eTKind v19), .res (cB v21)] [] [(0, dc 6 eTKind zTKind p0), (1, .c (.clo cf1 [.pd cs1_0 0])), (5, cI x16), (7, cL p0), (8, cI x16), (16, cB v21)] [] (fun t => (a2 eTKind h20 (aI (hf1 v19 v21 h22) (t)))) ?_
   rcases ofCond H with ⟨c23, H⟩ | ⟨c23, H⟩
   ·refine it c23 ?_
    refine so [] [] [(4, cI x16)] [] id ?_
    refine ends_ret ?_
    cases H
    exact And.intro (by simp) (And.intro rfl rfl)
   ·refine jf c23 ?_
    refine sk ?_
    refine oo [] [] [(0, dc 6 eTKind zTKind p0), (1, .c (.clo cf1 [.pd cs1_0 0])), (7, cL p0), (8, cI (W (x16 + 1)))] [] id ?_
    cases H
    exact And.intro rfl rfl
  ·refine jf c18 ?_
   refine tl [] [] [] id ?_
   refine ends_exit ?_
   cases H
   exact And.intro (by simp) (And.intro rfl rfl)
 ·clear h25
  cases y24 with
  | inl y26 =>
   replace H := ofInl H
   intro e s q
   obtain ⟨rfl, rfl⟩ := q
   change EndsI _ _ _ _ _ _
   refine so [] [] [(4, cI (-1))] [] id ?_
   refine ends_ret ?_
   cases H
   exact And.intro (.inl rfl) rfl
  | inr y27 =>
   replace H := ofInr H
   intro e s q
   obtain ⟨rfl, rfl⟩ := q
   cases H
   exact And.intro (.inl rfl) rfl
def i_kindIndex_1_ir : S :=
 (sq [o 2 (.box 6 (.t 0)), o 3 (.mv (.v (.bool false)))]
 (sq [o 4 (.fad 0 (.t 2)), o 5 (.load 1 false (.t 4)), o 6 (.load 1 false (.t 1)), o 7 (.bin .eql (.t 5) (.t 6)), om 3 7]
 .ret))
noncomputable def X.i_kindIndex_1 (p0 : TKind) (p1 : (List UInt8)) : Option Bool :=
 some (p0.Name == p1)
theorem i_kindIndex_1_ok (p0 : TKind) (p1 : (List UInt8)) (r : Bool) (H : X.i_kindIndex_1 p0 p1 = some r) : FnOk Tryz.prog gl 213 [.agg (eTKind p0), .c (.pd (eS p1) 0)] (cB r) := by
 unfold X.i_kindIndex_1 at H
 refine fi Tryz.f213 i_kindIndex_1_ir [(3, cB r)] [] glL Tryz.func213 ?_
 refine so [] [] [(1, .c (.pd (eS p1) 0)), (2, pk 2)] [(2, va (eTKind p0))] id ?_
 refine so [] [] [(3, cB (p0.Name == p1))] [] id ?_
 refine ends_ret ?_
 cases H
 exact And.intro (.inl rfl) rfl
def i_kindIndex_ir : S :=
 (sq [o 3 (.box 1 (.t 1)), o 4 (.mv (iv 0))]
 (sq [om 5 0, o 6 (.clo 213 [.t 3]), o 7 (.call 212 [.t 5, .t 6]), om 4 7]
 .ret))
noncomputable def X.i_kindIndex (p0 : (List TKind)) (p1 : (List UInt8)) : Option Int :=
 ((X.g_IndexFunc_Kind p0 (fun q0 => X.i_kindIndex_1 q0 p1)).bind fun v1 => some v1)
theorem i_kindIndex_ok (p0 : (List TKind)) (p1 : (List UInt8)) (r : Int) (H : X.i_kindIndex p0 p1 = some r) : FnOk Tryz.prog gl 146 [.c (dat 6 eTKind zTKind p0), .c (.str p1)] (cI r) := by
 unfold X.i_kindIndex at H
 refine fi Tryz.f146 i_kindIndex_ir [(4, cI r)] [] glL Tryz.func146 ?_
 refine so [] [] [(0, dc 6 eTKind zTKind p0), (3, pk 3)] [(3, .var [.str p1] false)] id ?_
 obtain ⟨v1, h2, H⟩ := ofBind H
 refine so [.res (cI v1)] [] [(4, cI v1)] [] (aI (g_IndexFunc_Kind_c1_ok p0 (213) (eS p1) (fun q0 => X.i_kindIndex_1 q0 p1) (fun q0 r h => i_kindIndex_1_ok q0 p1 r h) v1 h2)) ?_
 refine ends_ret ?_
 cases H
 exact And.intro (.inl rfl) rfl
end Go.Proofs.YteenmeomlhkphaaGreatDoor.X0
